/- TagParts: the tags of a text behind another one; plain; no condition. -/
import Derived.Test.YthflkmgcifccjaaDoorZPRTagB
import Derived.Test.YthflkmgcifccjaaDoorZPPEx9
namespace Go.Proofs.YthflkmgcifccjaaDoor.PE
open Go.RowKit Go.Proofs.YthflkmgcifccjaaDoorW.PrintWords Go.Proofs.YthflkmgcifccjaaDoorW.PrintLast Go.Proofs.YthflkmgcifccjaaDoorW.PrintMore Go.Proofs.YthflkmgcifccjaaDoor
set_option linter.unusedVariables false
set_option linter.unusedSimpArgs false
theorem tP_app : ∀ (xs ys : List ByteArray) (out : List S34) (o : Nat), tP (xs ++ ys) out o = if (tP xs out o).2.1 = 0 then tP ys (tP xs out o).1 (o + (xs.map fun p => p.size + 1).sum) else tP xs out o
  | [], ys, out, o => by simp [tP]
  | p :: xs, ys, out, o => by
    rw [List.cons_append, tP, tP]
    cases h : tStep p with
    | none => simp
    | some t =>
      simp only
      rw [tP_app xs ys (out ++ [t]) (o + p.size + 1), List.map_cons, List.sum_cons, show o + (p.size + 1 + (xs.map fun p => p.size + 1).sum) = o + p.size + 1 + (xs.map fun p => p.size + 1).sum by omega]
theorem tP_shift : ∀ (ys : List ByteArray) (out out0 : List S34) (o o0 : Nat), tP ys (out ++ out0) (o + o0) = if (tP ys out0 o0).2.1 = 0 then (out ++ (tP ys out0 o0).1, 0, 0) else ([], 19, (o : Int) + (tP ys out0 o0).2.2)
  | [], out, out0, o, o0 => by simp [tP]
  | p :: ys, out, out0, o, o0 => by
    rw [tP, tP]
    cases h : tStep p with
    | none => simp
    | some t =>
      simp only
      rw [List.append_assoc, show o + o0 + p.size + 1 = o + (o0 + p.size + 1) by omega]
      exact tP_shift ys out (out0 ++ [t]) o (o0 + p.size + 1)
theorem pcsL_app (a b : List UInt8) : pcsL (a ++ 44 :: b) = pcsL a ++ pcsL b := by
  unfold pcsL
  rw [spl_app, List.map_append]
theorem two_data (a b : ByteArray) : ((a ++ (⟨#[44]⟩ : ByteArray)) ++ b).data.toList = a.data.toList ++ 44 :: b.data.toList := by simp
theorem ne_ok {α : Type} {c p : Int} (hc : c = 0) (hp : p = 0) (A B : Option α) : (if (!(c == 0) || (!(p == 0))) = true then A else B) = B := by subst hc hp; exact if_neg (by decide)
theorem ne_er {α : Type} {c p : Int} (hc : c = 19) (A B : Option α) : (if (!(c == 0) || (!(p == 0))) = true then A else B) = A := by subst hc; exact if_pos (by simp)
theorem eq_ok {α : Type} {c p c2 p2 : Int} (hc : c = c2) (hp : p = p2) (A B : Option α) : (if (c == c2 && (p == p2)) = true then A else B) = A := by subst hc hp; exact if_pos (by simp)
theorem tagParts_pure (a b : ByteArray) : ∃ k, forebaylaw06_TagParts.f k a b = some true := by
  refine Ev.rounds ?_
  have haw : Ev (fun k => (forebaylaw06_awake.f k).bind fun t => some t) true := Ev.bind awake06_ev (Ev.now _)
  have hjt : Ev (fun k => forebaylaw06_TagParts.j0 k true a b) true := Ev.step (fun k => by simp only [forebaylaw06_TagParts.j0]; exact if_pos trivial) haw
  unfold forebaylaw06_TagParts.f
  by_cases c1 : (a.size : Int) > 250
  · exact Ev.congr (fun k => if_pos c1) hjt
  · by_cases c2 : (b.size : Int) > 250
    · exact Ev.congr (fun k => by rw [if_neg c1, decide_eq_true c2]) hjt
    · refine Ev.congr (f := fun k => forebaylaw06_TagParts.j0 k false a b) (fun k => by rw [if_neg c1, decide_eq_false c2]) ?_
      have ha := parse_ev a (by omega)
      have hb := parse_ev b (by omega)
      have hsz : ((a ++ (⟨#[44]⟩ : ByteArray)) ++ b).size = a.size + 1 + b.size := by rw [ByteArray.size_append, ByteArray.size_append]; rfl
      have hc := parse_ev ((a ++ (⟨#[44]⟩ : ByteArray)) ++ b) (by omega)
      rw [two_data, pcsL_app, tP_app] at hc
      have hsum := pcs_sum a.data.toList
      rw [← ba_size] at hsum
      rw [hsum, Nat.zero_add] at hc
      have hla := tP_len (pcsL a.data.toList) [] 0
      have hlb := tP_len (pcsL b.data.toList) [] 0
      have hna := spl_len 44 a.data.toList
      have hnb := spl_len 44 b.data.toList
      have hA := tP_cases (pcsL a.data.toList) [] 0
      have hB := tP_cases (pcsL b.data.toList) [] 0
      have hsumb := pcs_sum b.data.toList
      rw [← ba_size] at hsumb
      have hshift : ∀ ts : List S34, tP (pcsL b.data.toList) ts (a.size + 1) = if (tP (pcsL b.data.toList) [] 0).2.1 = 0 then (ts ++ (tP (pcsL b.data.toList) [] 0).1, 0, 0) else ([], 19, ((a.size + 1 : Nat) : Int) + (tP (pcsL b.data.toList) [] 0).2.2) := fun ts => by
        have := tP_shift (pcsL b.data.toList) ts [] (a.size + 1) 0
        rw [List.append_nil] at this
        exact this
      generalize tP (pcsL a.data.toList) [] 0 = A at *
      generalize tP (pcsL b.data.toList) [] 0 = B at *
      refine Ev.step (fun k => by simp only [forebaylaw06_TagParts.j0]; exact if_neg (by decide)) (Ev.bind ha (Ev.bind hb ?_))
      have h1 : a.size + 1 ≤ 9223372036854775807 := by omega
      have h2 : (a ++ (⟨#[44]⟩ : ByteArray)).size + b.size ≤ 9223372036854775807 := by
        rw [ByteArray.size_append]
        show a.size + 1 + b.size ≤ _
        omega
      refine Ev.congr (fun k => by rw [if_pos h1, if_pos h2]) (Ev.bind hc ?_)
      rcases hA with ⟨ts, rfl, ht2, _, _⟩ | ⟨x, rfl, _, hx3⟩
      · rw [List.nil_append] at *
        refine Ev.congr (fun k => ne_ok rfl rfl _ _) ?_
        rw [if_pos rfl, hshift]
        rcases hB with ⟨us, rfl, hu2, _, _⟩ | ⟨y, rfl, _, hy3⟩
        · rw [List.nil_append] at *
          refine Ev.congr (fun k => ne_ok rfl rfl _ _) ?_
          rw [if_pos rfl]
          refine Ev.congr (fun k => eq_ok rfl rfl _ _) ?_
          have hlt : ts.length ≤ 100000 := by
            unfold pcsL at ht2
            rw [List.length_map] at ht2
            rw [← ba_size] at hna
            omega
          have hlu : us.length ≤ 100000 := by
            unfold pcsL at hu2
            rw [List.length_map] at hu2
            rw [← ba_size] at hnb
            omega
          refine Ev.congr (f := fun k => (forebaylaw06_same.f k (ts ++ us) (ts ++ us)).bind fun t184 => (if t184 = true then ((forebaylaw06_awake.f k).bind fun t185 => (some t185)) else (none))) (fun k => ?_) (Ev.bind (same_refl _ (by rw [List.length_append]; omega)) (Ev.congr (fun k => if_pos rfl) haw))
          simp only [Option.bind_some, List.nil_append, List.length_nil, Nat.zero_add]
          rw [if_pos (by omega), if_pos (by omega)]
        · refine Ev.congr (fun k => ne_er rfl _ _) ?_
          rw [if_neg (show ¬ (([], 19, (y : Int)) : List S34 × Int × Int).2.1 = 0 by dsimp only; omega)]
          refine Ev.congr (fun k => eq_ok rfl ?_ _ _) ?_
          · dsimp only
            rw [IntWalk.wrap64_in ((y : Int) + (a.size : Int)) (by omega), IntWalk.wrap64_in _ (by omega)]
            omega
          · exact Ev.congr (fun k => if_pos rfl) haw
      · refine Ev.congr (fun k => ne_er rfl _ _) ?_
        rw [if_neg (show ¬ (([], 19, (x : Int)) : List S34 × Int × Int).2.1 = 0 by dsimp only; omega)]
        exact Ev.congr (fun k => by rw [eq_ok rfl rfl, if_pos (by simp)]) haw
end Go.Proofs.YthflkmgcifccjaaDoor.PE
