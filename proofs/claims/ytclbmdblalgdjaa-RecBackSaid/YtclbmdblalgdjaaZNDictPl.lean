/- What a dictionary of words is, as plain lists; no condition. -/
import Derived.Test.YtclbmdblalgdjaaZNInjV
import Derived.Maps.OwnSet
namespace Go.Proofs.Ytclbmdblalgdjaa
open Go.RowKit Go.Maps
set_option linter.unusedVariables false
def findFrom (s : ByteArray) : List ByteArray → Nat → Nat
  | [], _ => 0
  | x :: l, i => if x = s then i + 1 else findFrom s l (i + 1)
def findW (ws : List ByteArray) (s : ByteArray) : Nat := findFrom s ws 0
theorem findFrom_not (s : ByteArray) : ∀ l i, s ∉ l → findFrom s l i = 0
  | [], _, _ => rfl
  | x :: l, i, h => by
    unfold findFrom
    rw [if_neg (fun e : x = s => h (by rw [e]; exact List.mem_cons_self)), findFrom_not s l (i + 1) (fun e => h (List.mem_cons_of_mem _ e))]
theorem findFrom_in (s : ByteArray) : ∀ l i, s ∈ l → i < findFrom s l i ∧ findFrom s l i ≤ i + l.length ∧ l[findFrom s l i - 1 - i]? = some s
  | [], _, h => by cases h
  | x :: l, i, h => by
    unfold findFrom
    by_cases e : x = s
    · rw [if_pos e]
      refine ⟨by omega, by simp, ?_⟩
      rw [show i + 1 - 1 - i = 0 by omega, e]
      rfl
    · rw [if_neg e]
      have h2 : s ∈ l := by
        rcases List.mem_cons.1 h with h | h
        · exact absurd h.symm e
        · exact h
      obtain ⟨h3, h4, h5⟩ := findFrom_in s l (i + 1) h2
      refine ⟨by omega, by simp only [List.length_cons]; omega, ?_⟩
      rw [show findFrom s l (i + 1) - 1 - i = (findFrom s l (i + 1) - 1 - (i + 1)) + 1 by omega]
      exact h5
theorem findFrom_append (s t : ByteArray) : ∀ l i, s ∈ l → findFrom s (l ++ [t]) i = findFrom s l i
  | [], _, h => by cases h
  | x :: l, i, h => by
    rw [List.cons_append]
    unfold findFrom
    by_cases e : x = s
    · rw [if_pos e, if_pos e]
    · rw [if_neg e, if_neg e]
      rcases List.mem_cons.1 h with h | h
      · exact absurd h.symm e
      · exact findFrom_append s t l (i + 1) h
theorem findFrom_new (s : ByteArray) : ∀ l i, s ∉ l → findFrom s (l ++ [s]) i = i + l.length + 1
  | [], i, _ => by
    show (if s = s then i + 1 else _) = _
    rw [if_pos rfl]
    simp
  | x :: l, i, h => by
    rw [List.cons_append]
    unfold findFrom
    rw [if_neg (fun e : x = s => h (by rw [e]; exact List.mem_cons_self)), findFrom_new s l (i + 1) (fun e => h (List.mem_cons_of_mem _ e))]
    simp only [List.length_cons]
    omega
def kOf (s : ByteArray) : Lit := .string s.data.toList
theorem kOf_ne {s t : ByteArray} (h : s ≠ t) : kOf s ≠ kOf t := by
  intro e
  apply h
  unfold kOf at e
  injection e with e
  cases s
  cases t
  simp only at e
  congr 1
  exact Array.toList_inj.1 e
theorem key_lit (s : ByteArray) : WideAt.IsKeyLit (kOf s) := by first | exact ⟨⟩ | (unfold kOf WideAt.IsKeyLit; trivial) | (unfold kOf; simp [WideAt.IsKeyLit])
def Tells (D : DataW Unit) (ws : List ByteArray) : Prop := IsMap D ∧ (∀ s, Maps.has D (kOf s) = decide (0 < findW ws s)) ∧ ∀ s, D.atKey (kOf s) (.lit (.int .i64 0)) = .lit (.int .i64 (findW ws s))
theorem tells_none : Tells (.map []) [] := ⟨isMap_empty, fun s => rfl, fun s => rfl⟩
theorem find_new (ws : List ByteArray) (s : ByteArray) (h : s ∉ ws) : findW (ws ++ [s]) s = ws.length + 1 := by
  unfold findW
  rw [findFrom_new s ws 0 h]
  omega
theorem find_old (ws : List ByteArray) (s t : ByteArray) (h : t ≠ s) : findW (ws ++ [s]) t = findW ws t := by
  unfold findW
  by_cases hm : t ∈ ws
  · rw [findFrom_append t s ws 0 hm]
  · rw [findFrom_not t ws 0 hm, findFrom_not t (ws ++ [s]) 0 (by simp [hm, h])]
theorem find_pos (ws : List ByteArray) (s : ByteArray) : 0 < findW ws s ↔ s ∈ ws := by
  constructor
  · intro h
    apply Classical.byContradiction
    intro hn
    unfold findW at h
    rw [findFrom_not s ws 0 hn] at h
    omega
  · intro h
    exact (findFrom_in s ws 0 h).1
theorem Tells.add {D : DataW Unit} {ws : List ByteArray} (h : Tells D ws) (s : ByteArray) (hs : s ∉ ws) : Tells (D.put (kOf s) (.lit (.int .i64 ((ws.length + 1 : Nat) : Int)))) (ws ++ [s]) := by
  obtain ⟨h1, h2, h3⟩ := h
  refine ⟨h1.put _ _, fun t => ?_, fun t => ?_⟩
  · by_cases e : t = s
    · subst e
      rw [has_put_same h1 (key_lit t), find_new ws t hs, decide_eq_true (by omega)]
    · rw [has_put_other (kOf_ne e), h2, find_old ws s t e]
  · by_cases e : t = s
    · subst e
      rw [atKey_put_same h1 (key_lit t), find_new ws t hs]
    · rw [atKey_put_other (kOf_ne e), h3, find_old ws s t e]
def dput (ws : List ByteArray) (s : ByteArray) : List Int × Int × List ByteArray :=
  if 0 < findW ws s then (vput (findW ws s), 0, ws)
  else if 200 < s.size ∨ 65536 ≤ ws.length then ([], 12, ws)
  else (vput 0 ++ vput s.size ++ Go.Proofs.YtclbmdblalgdjaaW.PrintWords.bytesOf s, 0, ws ++ [s])
theorem find_le (ws : List ByteArray) (s : ByteArray) : findW ws s ≤ ws.length := by
  by_cases h : s ∈ ws
  · have := (findFrom_in s ws 0 h).2.1
    unfold findW
    omega
  · unfold findW
    rw [findFrom_not s ws 0 h]
    omega
end Go.Proofs.Ytclbmdblalgdjaa
