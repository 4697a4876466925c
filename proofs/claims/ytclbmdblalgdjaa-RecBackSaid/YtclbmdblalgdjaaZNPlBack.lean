/- Words that are put are got: plain lists; no condition. -/
import Derived.Test.YtclbmdblalgdjaaZNPutsW
import Derived.Test.YtclbmdblalgdjaaZNPlRows
namespace Go.Proofs.Ytclbmdblalgdjaa
open Go.RowKit Go.Proofs.YtclbmdblalgdjaaW.PrintWords
set_option linter.unusedVariables false
theorem find_none {ws : List ByteArray} {s : ByteArray} (h : s ∉ ws) : findW ws s = 0 := by
  have := find_pos ws s
  apply Classical.byContradiction
  intro hn
  exact h (this.1 (by omega))
theorem dput_old {ws : List ByteArray} {s : ByteArray} (h : s ∈ ws) : dput ws s = (vput (findW ws s), 0, ws) := by
  unfold dput
  rw [if_pos ((find_pos _ _).2 h)]
theorem dput_fresh {ws : List ByteArray} {s : ByteArray} (h : s ∉ ws) (hs : s.size ≤ 200) (hl : ws.length < 65536) : dput ws s = (vput 0 ++ vput s.size ++ bytesOf s, 0, ws ++ [s]) := by
  unfold dput
  rw [find_none h, if_neg (by omega), if_neg (by omega)]
theorem dput_long {ws : List ByteArray} {s : ByteArray} (h : s ∉ ws) (hs : 200 < s.size) : dput ws s = ([], 12, ws) := by
  unfold dput
  rw [find_none h, if_neg (by omega), if_pos (.inl hs)]
theorem dput_ok {ws : List ByteArray} {s : ByteArray} (hs : s.size ≤ 200) (hl : ws.length < 65536) : (dput ws s).2.1 = 0 := by
  by_cases h : s ∈ ws
  · rw [dput_old h]
  · rw [dput_fresh h hs hl]
def bytesP (ws : List ByteArray) : List ByteArray → List Int
  | [] => []
  | s :: t => (dput ws s).1 ++ bytesP (dput ws s).2.2 t
theorem dput_len1 (ws : List ByteArray) (s : ByteArray) (hl : ws.length < 65536) : (dput ws s).1.length ≤ 220 := by
  by_cases h : s ∈ ws
  · rw [dput_old h]
    have := vput_len10 (findW ws s) (by have := find_le ws s; omega)
    show (vput (findW ws s)).length ≤ 220
    omega
  · by_cases h2 : s.size ≤ 200
    · rw [dput_fresh h h2 hl]
      have h3 := vput_len10 s.size (by omega)
      show (vput 0 ++ vput s.size ++ bytesOf s).length ≤ 220
      rw [List.length_append, List.length_append, bytesOf_length, vput_lt (by decide)]
      simp only [List.length_cons, List.length_nil]
      omega
    · rw [dput_long h (by omega)]
      show 0 ≤ 220
      omega
theorem bytesOf_bytes (s : ByteArray) : ∀ x ∈ bytesOf s, 0 ≤ x ∧ x < 256 := by
  intro x hx
  unfold bytesOf at hx
  obtain ⟨b, _, rfl⟩ := List.mem_map.1 hx
  have := b.toNat_lt
  exact ⟨by omega, by omega⟩
theorem dput_bytes (ws : List ByteArray) (s : ByteArray) : ∀ x ∈ (dput ws s).1, 0 ≤ x ∧ x < 256 := by
  unfold dput
  split
  · exact vput_bytes _
  · split
    · intro x hx
      cases hx
    · intro x hx
      rcases List.mem_append.1 hx with hx | hx
      · rcases List.mem_append.1 hx with hx | hx
        · exact vput_bytes _ x hx
        · exact vput_bytes _ x hx
      · exact bytesOf_bytes s x hx
theorem strOf_bytes (s : ByteArray) : strOfNums (bytesOf s) = s := by
  apply Go.WideShapes.bytes_inj
  rw [strOfNums_data]
  unfold bytesOf
  rw [List.map_map]
  have e : ((fun n : Int => UInt8.ofNat n.toNat) ∘ fun b : UInt8 => (b.toNat : Int)) = id := by
    funext b
    simp
  rw [e, List.map_id]
theorem get_put {A : Option Addr} {c p : Nat} {B rest : List Int} {ws : List ByteArray} {s : ByteArray} {kind : Int} (hk : betB kind 1 4 = true) (hb : badI (clsB kind) s < 0) (hs : s.size ≤ 200) (hl : ws.length < 65536) (hd : B.drop p = (dput ws s).1 ++ rest) :
    dget ws ⟨A, c, B, p, 0, 0, false⟩ kind = (s, ⟨A, c, B, p + (dput ws s).1.length, 0, 0, false⟩, (dput ws s).2.2) := by
  have nf : ∀ q, ¬ (⟨A, c, B, q, 0, 0, false⟩ : Cu).fine = false := fun q h => by have h2 : true = false := h; cases h2
  by_cases h : s ∈ ws
  · rw [dput_old h] at hd ⊢
    obtain ⟨h3, h4, h5⟩ := findFrom_in s ws 0 h
    have h6 : 0 < findW ws s := h3
    have h7 := find_le ws s
    have h8 : ws[findW ws s - 1]? = some s := h5
    unfold dget
    rw [vread_put hd (by omega), if_neg (nf _), if_neg (by rw [hk]; decide), if_neg (nf _), if_neg (by simp only; omega), if_neg (by simp only; omega)]
    simp only
    rw [List.getD_eq_getElem?_getD, h8, Option.getD_some, if_neg (by omega)]
  · rw [dput_fresh h hs hl] at hd ⊢
    simp only at hd ⊢
    rw [List.append_assoc, List.append_assoc] at hd
    have hv0 : (vput 0).length = 1 := by rw [vput_lt (by decide)]; rfl
    have hd2 : B.drop (p + (vput 0).length) = vput s.size ++ (bytesOf s ++ rest) := by
      rw [← List.drop_drop, hd, List.drop_left]
    have hd3 : B.drop (p + (vput 0).length + (vput s.size).length) = bytesOf s ++ rest := by
      rw [← List.drop_drop, hd2, List.drop_left]
    unfold dget
    rw [vread_put hd (by decide), if_neg (nf _), if_neg (by rw [hk]; decide), if_neg (nf _), if_pos rfl]
    simp only
    have e2 : dfs2 ⟨A, c, B, p + (vput 0).length, 0, 0, false⟩ = ⟨A, c, B, p + (vput 0).length + (vput s.size).length, 0, 0, false⟩ := by
      unfold dfs2
      rw [vread_put hd2 (by omega), if_neg (by simp only; omega)]
    have ev : (⟨A, c, B, p + (vput 0).length, 0, 0, false⟩ : Cu).vread.1 = s.size := by rw [vread_put hd2 (by omega)]
    have hlen : (B.drop (p + (vput 0).length + (vput s.size).length)).length = s.size + rest.length := by rw [hd3, List.length_append, bytesOf_length]
    rw [List.length_drop] at hlen
    have eT : dfT ⟨A, c, B, p + (vput 0).length, 0, 0, false⟩ = s := by
      unfold dfT
      rw [e2, ev, Nat.min_eq_left hs]
      unfold Cu.takeL
      simp only
      by_cases h0 : s.size = 0
      · have e0 : bytesOf s = [] := List.eq_nil_of_length_eq_zero (by rw [bytesOf_length, h0])
        have e1 : s = strOfNums [] := by rw [← e0, strOf_bytes]
        split
        · exact e1.symm
        · rw [h0]
          exact e1.symm
      · rw [if_neg (by
          rintro (h | h | h)
          · exact nf _ h
          · omega
          · omega), hd3, Int.toNat_natCast, List.take_append_of_le_length (by rw [bytesOf_length]; exact Nat.le_refl _), List.take_of_length_le (by rw [bytesOf_length]; exact Nat.le_refl _), strOf_bytes]
    have e3 : dfs3 ⟨A, c, B, p + (vput 0).length, 0, 0, false⟩ = ⟨A, c, B, p + (vput 0 ++ vput s.size ++ bytesOf s).length, 0, 0, false⟩ := by
      unfold dfs3
      rw [e2, ev, Nat.min_eq_left hs]
      unfold Cu.take
      rw [if_neg (nf _), if_neg (by omega), if_neg (by
        simp only
        by_cases h0 : s.size = 0
        · have : (p + (vput 0).length + (vput s.size).length : Nat) ≤ B.length := by
            have h1 := congrArg List.length hd2
            rw [List.length_drop, List.length_append] at h1
            have h2 := vput_len1 s.size
            omega
          omega
        · omega)]
      unfold Cu.adv
      simp only [Int.toNat_natCast, List.length_append, bytesOf_length, Nat.add_assoc]
    unfold dfresh
    rw [e3, eT, e2, if_neg (by omega), if_neg (nf _), if_neg (by omega), find_none h, if_neg (by omega)]
end Go.Proofs.Ytclbmdblalgdjaa
