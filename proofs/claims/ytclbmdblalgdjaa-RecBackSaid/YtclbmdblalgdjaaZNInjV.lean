/- The ground of this seat's own texts: what the walks import; no condition. -/
import Derived.Test.YtclbmdblalgdjaaProg
import Derived.Below
import Derived.Deep.Draws
import Derived.Deep.AppendLies
import Derived.Maps.AppendAt
import Derived.OwnWalk
import Derived.Laws.BytesArg
import Derived.Laws.MakeOwn
import Derived.Laws.OwnMore
import Derived.Deep.OwnRows
import Derived.Tactics
import Derived.Lib.ConvBytes
import Derived.Laws.Slices
import Derived.WalkKit
import Derived.KernelRfl
import Derived.RowKit3
import Derived.Deep.LoopGhost
import Derived.Deep.QuietTactic
import Derived.BigQuiet
import Derived.WideLaws
import Derived.Deep.DeepCutAuto
import Derived.Deep.CutBlock
import Derived.Deep.RegionHeld3
import Derived.Laws.Rows
import Derived.Lib.AppendStr
import Derived.ArgAppend
import Derived.Laws.IdiomCopy
import Derived.OrdersHeld
import Derived.Laws.BitsLemmas
import Derived.RowKit
import Derived.Lib.Hide
import Derived.WalkSpells
import Derived.OpenShut
import Derived.Test.YtclbmdblalgdjaaZNWWords
import Derived.Test.YtclbmdblalgdjaaZNWLast
import Derived.Test.YtclbmdblalgdjaaZNWTab
import Derived.Test.YtclbmdblalgdjaaZNWApart
import Derived.Test.YtclbmdblalgdjaaZNWArr
import Derived.Test.YtclbmdblalgdjaaZNWZeros
import Derived.Test.YtclbmdblalgdjaaZNWFoot
import Derived.Test.YtclbmdblalgdjaaZNWKept
import Derived.Test.YtclbmdblalgdjaaZNWShare
import Derived.Test.YtclbmdblalgdjaaZNWN
import Derived.Test.YtclbmdblalgdjaaZNWEqStruct
import Derived.Test.YtclbmdblalgdjaaZNWRepsOne
import Derived.Test.YtclbmdblalgdjaaZNWInv
import Derived.Test.YtclbmdblalgdjaaZNWGuard
import Derived.Test.YtclbmdblalgdjaaZNWMore
import Derived.Test.YtclbmdblalgdjaaZNPEx0
import Derived.Laws.EntriesVeiled
import Derived.ProofKit
import Derived.ShutString
import Derived.ChangeOld
import Derived.SizedLaws
import Derived.ChangeSlices
import Derived.SliceStrings
import Derived.Test.YtclbmdblalgdjaaZNWSized
import Derived.ChangeMaps5
import Derived.Deep.Slices
import Derived.Deep.Strs
import Derived.Deep.Fields
import Derived.ChangeArms
import Derived.Laws.BitsAllLaws
import Derived.WalkSmall
namespace Go.Proofs.Ytclbmdblalgdjaa
open Go.RowKit Go.Proofs.YtclbmdblalgdjaaW.PrintWords Go.Proofs.YtclbmdblalgdjaaW.PrintLast Go.Proofs.YtclbmdblalgdjaaW.PrintMore
structure Chg (S : Nat → Prop) (w w' : World) : Prop where
 os : w'.os = w.os
 tape : w'.tape = w.tape
 output : w'.output = w.output
 size : w.heap.size ≤ w'.heap.size
 block : ∀ k, k < w.heap.size → ¬ S k → w'.heap[k]? = w.heap[k]?
section
variable {S S' : Nat → Prop} {w w' w'' : World}
theorem Chg.refl (S : Nat → Prop) (w : World) : Chg S w w := ⟨rfl, rfl, rfl, Nat.le_refl _, fun _ _ _ => rfl⟩
theorem Chg.mono (h : Chg S w w') (hs : ∀ k, k < w.heap.size → S k → S' k) : Chg S' w w' :=
 ⟨h.os, h.tape, h.output, h.size, fun k hk hn => h.block k hk (fun hs1 => hn (hs k hk hs1))⟩
theorem Chg.trans (h : Chg S w w') (k : Chg S' w' w'') (hs : ∀ k, S' k → S k ∨ w.heap.size ≤ k) : Chg S w w'' :=
 ⟨k.os.trans h.os, k.tape.trans h.tape, k.output.trans h.output, Nat.le_trans h.size k.size, fun i hi hn =>
  (k.block i (Nat.lt_of_lt_of_le hi h.size) (fun h2 => (hs i h2).elim hn (fun h3 => by omega))).trans (h.block i hi hn)⟩
theorem Chg.of_below (h : Below w.heap.size w w') (S : Nat → Prop) : Chg S w w' := ⟨h.os, h.tape, h.output, h.size, fun k hk _ => h.block k hk⟩
theorem Chg.to_below {B : Nat} (h : Chg S w w') (hs : ∀ k, S k → B ≤ k) (hB : B ≤ w.heap.size) : Below B w w' :=
 ⟨h.os, h.tape, h.output, h.size, fun k hk => h.block k (by omega) (fun h1 => by have := hs k h1; omega)⟩
theorem Chg.below (h : Chg S w w') (hb : Below w'.heap.size w' w'') : Chg S w w'' := h.trans (Chg.of_below hb (fun _ => False)) (fun _ h => h.elim)
theorem Chg.alloc (h : Chg S w w') (o : Obj) : Chg S w (w'.alloc o) := h.below (below_alloc (Below.refl _ _) o)
theorem Chg.drew (h : Chg S w w') : Chg S w w'.drew := h.below (below_drew1 (Below.refl _ _))
theorem Chg.drewN (h : Chg S w w') (n : Nat) : Chg S w (w'.drewN n) := h.below (pw_below_drewN (Below.refl _ _) n)
end
section
variable {P : Program} {ops : Array Oper} {rest : List Oper} {o : Oper} {a : Act} {Q : Exit → Act → World → Prop} {α : Type}
theorem R_make0 (d : Kd α) {w0 W : World} (base e : Nat) (hgd : o.guard = none) (cur : Array Value) (c : Nat)
  (hrun : (execOp a.eval o).run P W = .ok (.value (.slice (some ⟨W.heap.size, 0, none⟩) 0 c)) (W.alloc (.cells cur e))) (hcur : cur.size = c * d.sz) (hc : c ≤ maxLen) {ok : Nat → Prop} (hfresh : ok W.heap.size)
  (HB : Below base w0 W) (hbase : base ≤ W.heap.size)
  (h : ∀ v1 w1, d.R e w1 base ok v1 [] → Below base w0 w1 → wpList P ops Q rest (a.put o.dst v1) w1) : wpList P ops Q (o :: rest) a W := by
 refine Kd.event_run hgd hrun (h _ _ ⟨fun k hk => ?_, [], ?_, Reps.none _ _⟩ (HB.alloc hbase _))
 ·have : W.heap.size = k := by simpa [Value.ownBlock] using hk
  subst this
  exact hfresh
 ·exact World.ownsRow_made (base := base) (e := e) (size := d.sz) W cur c hbase hc hcur
theorem R_app_u8 {w0 W : World} {s x : Operand} {t e : TypeId} {v : Value} {xs : List Int} {p : Int} (hgd : o.guard = none)
  (ho : o.op = .call { callee := .builtin .append, args := #[s, x], argTypes := #[t, t] }) (hs : a.eval s = v) (hx : a.eval x = .slice (some ⟨W.heap.size, 0, none⟩) 1 1)
  (ht : P.underlying t = some (.slice e)) (hinfo : (P.info? e).map (fun i => (i.zero, i.size, i.bytes)) = some (some (.int .u8 0), 1, 1))
  (HO : Aside0 ((Kd.int .u8).R e W w0.heap.size (fun _ => True) v xs)) (HB : Aside0 (Below w0.heap.size w0 W)) (hl : Aside0 (xs.length < 140737488355328))
  (h : ∀ v1 w1, Aside0 ((Kd.int .u8).R e w1 w0.heap.size (fun _ => True) v1 (xs ++ [p])) → Aside0 (Below w0.heap.size w0 w1) → wpList P ops Q rest (a.put o.dst v1) w1) :
  wpList P ops Q (o :: rest) a (W.alloc (.cells #[.int .u8 p] e)) := by
 have hl' := hl.out
 refine Kd.R_append (Kd.int .u8) (w0 := w0) w0.heap.size hgd s x t e (.int .u8 0) 1 ho ht hinfo rfl (by decide) (by omega) v xs p [.int .u8 p] (fun _ => True) (fun _ => False) hs hx rfl (fun _ hk => hk.elim) (fun _ _ => trivial) HO.out HB.out (below_size HB.out) (by omega) ?_
 intro v1 w1 ho hb _ _
 exact h v1 w1 ⟨ho⟩ ⟨hb⟩
end
section
variable {P : Program} {ops : Array Oper} {Q : Exit → Act → World → Prop}
theorem goesV_ {rest : List Oper} {oi : Oper} {a : Act} {w : World} (N : Option Tmp) (hd : oi.dst = N) (hg : oi.guard = none) {f : FuncId} {fn : Func} {ops1 : Array Operand} {ts : Array TypeId} {x : Operand} {caps : Array Value}
  (hop : oi.op = .call { callee := .value x, args := ops1, argTypes := ts }) (hx : a.eval x = .func (.func f) #[] caps) (hf : P.funcs[f]? = some fn) (hname : (fn.name == "runtime.NumGoroutine") = false) (hb : fn.body.isSome = true) (args : Array Value)
  (hargs : ops1.map a.eval ++ caps = args)
  (h : Calls P f args w fun e w' => ∃ v, e = .returned v ∧ wpList P ops Q rest (a.put N v) w') : wpList P ops Q (oi :: rest) a w := by
 refine wpList_plain hg fun K hK => ?_
 have he := enters_ hf hname hb args w
 have hrun : (execOp a.eval oi).run P w = .ok (.enter f args) w := by
  unfold execOp
  simp [hop, resolve, Deferred.ofValue, invoke, hx, hargs, he]
 unfold Oper.wp
 rw [hrun, Oper.upon_enter]
 refine h.mono fun e w'' hh => ?_
 obtain ⟨v, rfl, hk⟩ := hh
 subst hd
 exact hK _ _ hk
end
theorem R_lit_u8 {w : World} {base : Nat} (e : TypeId) (hb : base ≤ w.heap.size) (xs : List Int) (hl : xs.length ≤ 9223372036854775807) :
  (Kd.int .u8).R e (w.alloc (.cells (nums .u8 xs).toArray e)) base (fun _ => True) (.slice (some ⟨w.heap.size, 0, none⟩) xs.length xs.length) xs := by
 refine ⟨fun _ _ => trivial, nums .u8 xs, ?_, ?_⟩
 ·have h2 := World.ownsRow_lit (base := base) (e := e) (size := 1) w (nums .u8 xs).toArray xs.length hb (by simpa [maxLen] using hl) (by simp [nums])
  have e2 : (nums IntKind.u8 xs).toArray.toList = nums IntKind.u8 xs := rfl
  rw [e2] at h2
  exact h2
 ·refine ⟨by show (nums .u8 xs).length = xs.length * 1; simp [nums], fun j p hj => ?_⟩
  have hj' := List.getElem?_eq_some_iff.1 hj
  obtain ⟨hl2, hp⟩ := hj'
  show List.take 1 (List.drop (j * 1) (nums .u8 xs)) = [.int .u8 p]
  rw [Nat.mul_one, List.drop_eq_getElem_cons (by simpa [nums] using hl2)]
  simp [nums, hp]
section
variable {P : Program} {f : FuncId} {args : Array Value} {w W : World} {Q : Ending → World → Prop}
theorem Calls.stepB {v : Value} (h : Calls P f args W (fun e w' => e = .returned v ∧ Below W.heap.size W w')) (HB : Aside0 (Below w.heap.size w W))
  (k : ∀ w', Aside0 (Below W.heap.size W w') → Aside0 (Below w.heap.size w w') → Q (.returned v) w') : Calls P f args W Q := by
 refine h.mono ?_
 rintro e w' ⟨rfl, hb⟩
 exact k w' ⟨hb⟩ ⟨below_step HB.out hb⟩
theorem Calls.dB {v : Value} (h : Calls P f args W (fun e w' => e = .returned v ∧ Drawn0 W w')) : Calls P f args W (fun e w' => e = .returned v ∧ Below W.heap.size W w') := by
 refine h.mono ?_
 rintro e w' ⟨rfl, ⟨nd, rfl⟩⟩
 exact ⟨rfl, pw_below_drewN (Below.refl _ _) nd⟩
theorem Calls.stepEq {v : Value} (h : Calls P f args W (fun e w' => e = .returned v ∧ W = w')) (k : Q (.returned v) W) : Calls P f args W Q := by
 refine h.mono ?_
 rintro e w' ⟨rfl, rfl⟩
 exact k
theorem Calls.stepR {α : Type} {d : Kd α} {e : Nat} {ok : Nat → Prop} {xs : List α} (h : Calls P f args W (fun en w' => ∃ v, en = .returned v ∧ d.R e w' W.heap.size ok v xs ∧ Below W.heap.size W w')) (HB : Aside0 (Below w.heap.size w W))
  (k : ∀ A c w', Aside0 (Below W.heap.size W w') → Aside0 (d.R e w' w.heap.size ok (.slice A xs.length c) xs) → Aside0 (d.C w' A xs.length xs) → Aside0 (Below w.heap.size w w') → Q (.returned (.slice A xs.length c)) w') : Calls P f args W Q := by
 refine h.mono ?_
 rintro e w' ⟨v, rfl, hv, hb⟩
 obtain ⟨A, c, rfl, _, hC⟩ := Kd.R_reads hv
 exact k A c w' ⟨hb⟩ ⟨Kd.R_lower hv (below_size HB.out)⟩ ⟨hC⟩ ⟨below_step HB.out hb⟩
end
section
variable {P : Program} {ops : Array Oper} {rest : List Oper} {o : Oper} {a : Act} {Q : Exit → Act → World → Prop}
theorem R_apps_u8 {w0 W : World} {s x : Operand} {t e : TypeId} {v : Value} {xs ys : List Int} {A : Option Addr} {m c : Nat} (hgd : o.guard = none)
  (ho : o.op = .call { callee := .builtin .append, args := #[s, x], argTypes := #[t, t] }) (hs : a.eval s = v) (hx : a.eval x = .slice A m c)
  (ht : P.underlying t = some (.slice e)) (hinfo : (P.info? e).map (fun i => (i.zero, i.size, i.bytes)) = some (some (.int .u8 0), 1, 1))
  (HO : Aside0 ((Kd.int .u8).R e W w0.heap.size (fun _ => True) v xs)) (HR : (Kd.int .u8).C W A m ys) (HB : Aside0 (Below w0.heap.size w0 W)) (hl : Aside0 (xs.length + m ≤ 140737488355328))
  (h : ∀ v1 w1, Aside0 ((Kd.int .u8).R e w1 w0.heap.size (fun _ => True) v1 (xs ++ ys)) → Aside0 (Below w0.heap.size w0 w1) → wpList P ops Q rest (a.put o.dst v1) w1) :
  wpList P ops Q (o :: rest) a W := by
 have hl' := hl.out
 refine Kd.R_append_rows (Kd.int .u8) (Rr := (Kd.int .u8).K W) (w0 := w0) w0.heap.size hgd s x t e (.int .u8 0) 1 ho ht hinfo rfl (by decide) (by omega) v xs ys A m c (fun _ => True) (fun _ => False) hs hx HO.out HR (fun x cs h => h) (fun _ hk => hk.elim) (fun _ _ => trivial) HB.out (below_size HB.out) (by omega) ?_
 intro v1 w1 ho hb _ _
 exact h v1 w1 ⟨ho⟩ ⟨hb⟩
end
end Go.Proofs.Ytclbmdblalgdjaa
/- Package class: what its functions tell; no condition. -/
namespace Go.Proofs.Ytclbmdblalgdjaa
open Go.RowKit Go.Proofs.YtclbmdblalgdjaaW.PrintWords Go.Proofs.YtclbmdblalgdjaaW.PrintLast Go.Proofs.YtclbmdblalgdjaaW.PrintMore
set_option linter.unusedVariables false
set_option linter.unusedSimpArgs false
def betB (b lo hi : Int) : Bool := decide (lo ≤ b) && decide (b ≤ hi)
def nameB (b : Int) : Bool := betB b 65 90 || betB b 97 122 || b == 95 || b == 46 || b == 45 || betB b 48 57
def clsB (c b : Int) : Bool := if c = 3 then betB b 33 126 && b != 44 && b != 124 else if c = 2 then b == 47 || nameB b else if c = 1 then nameB b else if c = 4 then betB b 48 57 else false
set_option maxHeartbeats 1000000 in
set_option maxRecDepth 100000 in
theorem between_calls (b lo hi : Int) (w : World) : Calls Try.prog 159 #[.int .u8 b, .int .u8 lo, .int .u8 hi] w fun e w' => e = .returned (.bool (betB b lo hi)) ∧ w = w' := by
 by_cases h : lo ≤ b
 ·have h1 : decide (lo ≤ b) = true := decide_eq_true h
  have H := Aside0.mk h1
  go_enter Try.func159, Try.ntmps159
  go_wp2
  go_ret
  exact ⟨by unfold betB; rw [H.out]; rfl, rfl⟩
 ·have h1 : decide (lo ≤ b) = false := decide_eq_false h
  have H := Aside0.mk h1
  go_enter Try.func159, Try.ntmps159
  go_wp2
  go_ret
  exact ⟨by unfold betB; rw [H.out]; rfl, rfl⟩
theorem name_cases (b : Int) : (betB b 65 90 = true ∧ nameB b = true) ∨ (betB b 65 90 = false ∧ betB b 97 122 = true ∧ nameB b = true) ∨ (betB b 65 90 = false ∧ betB b 97 122 = false ∧ (b == 95) = true ∧ nameB b = true) ∨
  (betB b 65 90 = false ∧ betB b 97 122 = false ∧ (b == 95) = false ∧ (b == 46) = true ∧ nameB b = true) ∨ (betB b 65 90 = false ∧ betB b 97 122 = false ∧ (b == 95) = false ∧ (b == 46) = false ∧ (b == 45) = true ∧ nameB b = true) ∨
  (betB b 65 90 = false ∧ betB b 97 122 = false ∧ (b == 95) = false ∧ (b == 46) = false ∧ (b == 45) = false ∧ nameB b = betB b 48 57) := by
 unfold nameB
 generalize betB b 65 90 = x1
 generalize betB b 97 122 = x2
 generalize (b == 95) = x3
 generalize (b == 46) = x4
 generalize (b == 45) = x5
 generalize betB b 48 57 = x6
 revert x1 x2 x3 x4 x5 x6
 decide
set_option maxHeartbeats 4000000 in
set_option maxRecDepth 100000 in
theorem is_calls (c b : Int) (w : World) : Calls Try.prog 147 #[.int .i64 c, .int .u8 b] w fun e w' => e = .returned (.bool (clsB c b)) ∧ w = w' := by
 by_cases h3 : c = 3
 ·subst h3
  have e1 : clsB 3 b = (betB b 33 126 && b != 44 && b != 124) := rfl
  rw [e1]
  clear e1
  cases hx : betB b 33 126 with
  | false =>
   have H33 := Aside0.mk hx
   clear hx
   go_enter Try.func147, Try.ntmps147
   go_wp2_with (first | (go_at_call 159; with_reducible refine Calls.stepEq (between_calls b 33 126 _) ?_; rw [H33.out]))
   go_ret
   exact ⟨rfl, rfl⟩
  | true =>
   have H33 := Aside0.mk hx
   clear hx
   cases hy : (b != 44) with
   | false =>
    go_enter Try.func147, Try.ntmps147
    go_wp2_with (first | (go_at_call 159; with_reducible refine Calls.stepEq (between_calls b 33 126 _) ?_; rw [H33.out]))
    all_goals
     go_ret
     exact ⟨rfl, rfl⟩
   | true =>
    go_enter Try.func147, Try.ntmps147
    go_wp2_with (first | (go_at_call 159; with_reducible refine Calls.stepEq (between_calls b 33 126 _) ?_; rw [H33.out]))
    all_goals
     go_ret
     exact ⟨rfl, rfl⟩
 have h3b : (c == 3) = false := by simp [h3]
 have hchain : ∀ (hc : (c = 2 ∧ (b == 47) = false) ∨ (c = 1)), Calls Try.prog 147 #[.int .i64 c, .int .u8 b] w fun e w' => e = .returned (.bool (nameB b)) ∧ w = w' := by
  intro hc
  have hcc : ((c == 2) = true ∧ (b == 47) = false) ∨ ((c == 2) = false ∧ (c == 1) = true) := by
   rcases hc with ⟨rfl, h⟩ | rfl
   ·exact .inl ⟨rfl, h⟩
   ·exact .inr ⟨rfl, rfl⟩
  clear hc
  rcases hcc with ⟨hc1, hc2⟩ | ⟨hc1, hc2⟩
  all_goals rcases name_cases b with ⟨h1, hn⟩ | ⟨h1, h2, hn⟩ | ⟨h1, h2, hd1, hn⟩ | ⟨h1, h2, hd1, hd2, hn⟩ | ⟨h1, h2, hd1, hd2, hd3, hn⟩ | ⟨h1, h2, hd1, hd2, hd3, hn⟩
  all_goals
   rw [hn]
   clear hn h3
   have H65 := Aside0.mk h1
   clear h1
   try (have H97 := Aside0.mk h2; clear h2)
   go_enter Try.func147, Try.ntmps147
   go_wp2_with (first | (go_at_call 159; with_reducible refine Calls.stepEq (between_calls b 33 126 _) ?_; rw [H33.out]) | (go_at_call 159; with_reducible refine Calls.stepEq (between_calls b 65 90 _) ?_; rw [H65.out]) | (go_at_call 159; with_reducible refine Calls.stepEq (between_calls b 97 122 _) ?_; rw [H97.out]) | (go_at_call 159; with_reducible refine Calls.stepEq (between_calls b 48 57 _) ?_))
   go_ret
   exact ⟨rfl, rfl⟩
 by_cases h2 : c = 2
 ·cases h47 : (b == 47) with
  | true =>
   have e1 : clsB c b = true := by unfold clsB; rw [if_neg h3, if_pos h2, h47]; rfl
   rw [e1]
   have h2b : (c == 2) = true := by simp [h2]
   clear e1 h2 h3 hchain
   go_enter Try.func147, Try.ntmps147
   go_wp2
   all_goals
    go_ret
    exact ⟨rfl, rfl⟩
  | false =>
   have e1 : clsB c b = nameB b := by unfold clsB; rw [if_neg h3, if_pos h2, h47]; rfl
   rw [e1]
   exact hchain (.inl ⟨h2, h47⟩)
 by_cases h1 : c = 1
 ·have e1 : clsB c b = nameB b := by unfold clsB; rw [if_neg h3, if_neg h2, if_pos h1]
  rw [e1]
  exact hchain (.inr h1)
 clear hchain
 have h2b : (c == 2) = false := by simp [h2]
 have h1b : (c == 1) = false := by simp [h1]
 by_cases h4 : c = 4
 ·have e1 : clsB c b = betB b 48 57 := by unfold clsB; rw [if_neg h3, if_neg h2, if_neg h1, if_pos h4]
  have h4b : (c == 4) = true := by simp [h4]
  rw [e1]
  clear e1 h1 h2 h3 h4
  go_enter Try.func147, Try.ntmps147
  go_wp2_with (first | (go_at_call 159; with_reducible refine Calls.stepEq (between_calls b 48 57 _) ?_))
  go_ret
  exact ⟨rfl, rfl⟩
 ·have e1 : clsB c b = false := by unfold clsB; rw [if_neg h3, if_neg h2, if_neg h1, if_neg h4]
  have h4b : (c == 4) = false := by simp [h4]
  rw [e1]
  clear e1 h1 h2 h3 h4
  go_enter Try.func147, Try.ntmps147
  go_wp2
  go_ret
  exact ⟨rfl, rfl⟩
end Go.Proofs.Ytclbmdblalgdjaa
/- Package class: Bad and Text; no condition. -/
namespace Go.Proofs.Ytclbmdblalgdjaa
open Go.RowKit Go.Proofs.YtclbmdblalgdjaaW.PrintWords Go.Proofs.YtclbmdblalgdjaaW.PrintLast Go.Proofs.YtclbmdblalgdjaaW.PrintMore
set_option linter.unusedVariables false
set_option linter.unusedSimpArgs false
def badF (f : Int → Bool) (s : ByteArray) : Nat → Nat → Int
 | 0, _ => -1
 | k + 1, i => if f (bt s (i : Nat)) = true then badF f s k (i + 1) else (i : Nat)
def badI (f : Int → Bool) (s : ByteArray) : Int := badF f s s.size 0
theorem badF_succ (f : Int → Bool) (s : ByteArray) (i : Nat) (h : i < s.size) : badF f s (s.size - i) i = if f (bt s (i : Nat)) = true then badF f s (s.size - (i + 1)) (i + 1) else ((i : Nat) : Int) := by
 have e : s.size - i = (s.size - (i + 1)) + 1 := by omega
 rw [e]
 rfl
set_option maxHeartbeats 1000000 in
set_option maxRecDepth 100000 in
theorem may_calls (c : Int) (w : World) : Calls Try.prog 146 #[.int .i64 c] w fun e w' => e = .returned (.bool (betB c 1 4)) ∧ w = w' := by
 by_cases h : 1 ≤ c
 ·have h1 : decide (1 ≤ c) = true := decide_eq_true h
  have H := Aside0.mk h1
  go_enter Try.func146, Try.ntmps146
  go_wp2
  go_ret
  exact ⟨by unfold betB; rw [H.out]; rfl, rfl⟩
 ·have h1 : decide (1 ≤ c) = false := decide_eq_false h
  have H := Aside0.mk h1
  go_enter Try.func146, Try.ntmps146
  go_wp2
  go_ret
  exact ⟨by unfold betB; rw [H.out]; rfl, rfl⟩
set_option maxHeartbeats 2000000 in
set_option maxRecDepth 100000 in
theorem bad_no (c : Int) (s : ByteArray) (w : World) (hc : betB c 1 4 = false) : Calls Try.prog 139 #[.int .i64 c, .string s] w fun e w' => e = .returned (.tuple #[.int .i64 0, .int .i64 1]) ∧ w = w' := by
 have H := Aside0.mk hc
 clear hc
 go_enter Try.func139, Try.ntmps139
 go_wp2_with (first | (go_at_call 146; with_reducible refine Calls.stepEq (may_calls c _) ?_; rw [H.out]))
 go_ret2
 exact ⟨rfl, rfl⟩
set_option maxHeartbeats 2000000 in
set_option maxRecDepth 100000 in
theorem bad_yes (c : Int) (s : ByteArray) (w : World) (hc : betB c 1 4 = true) (hs : s.size ≤ 9223372036854775807) : Calls Try.prog 139 #[.int .i64 c, .string s] w fun e w' => e = .returned (.tuple #[.int .i64 (badI (clsB c) s), .int .i64 0]) ∧ Drawn0 w w' := by
 have H := Aside0.mk hc
 clear hc
 go_enter Try.func139, Try.ntmps139
 go_wp2_with (first | (go_at_call 146; with_reducible refine Calls.stepEq (may_calls c _) ?_; rw [H.out]))
 go_loopw [12] (fun v12 w' => ∃ x : Int, v12 = .int .i64 x ∧ 0 ≤ x ∧ x ≤ (s.size : Int) ∧ Aside0 (badF (clsB c) s (s.size - x.toNat) x.toNat = badI (clsB c) s) ∧ Drawn0 w w') (fun v12 _ => s.size - (intOf v12).toNat)
 case atStart => exact ⟨0, rfl, by omega, by omega, ⟨rfl⟩, by repeat (first | exact Drawn0.refl _ | apply Drawn0.step)⟩
 case round =>
  obtain ⟨x, rfl, h0, hi, HT, ⟨m1, rfl⟩⟩ := hrel
  by_cases hlt : x < (s.size : Int)
  ·have hd : decide (x < (s.size : Int)) = true := decide_eq_true hlt
   have hd0 : decide ((0 : Int) ≤ x) = true := decide_eq_true h0
   have hx8 := bt_at s x
   have HT1 := HT.out
   rw [badF_succ _ _ _ (by omega), Int.toNat_of_nonneg h0] at HT1
   have e1 : (x + 1).toNat = x.toNat + 1 := by omega
   rw [← e1] at HT1
   clear e1
   cases hq : clsB c (bt s x) with
   | true =>
    rw [hq, if_pos rfl] at HT1
    have HT2 := Aside0.mk HT1
    have HQ := Aside0.mk hq
    have p8 := eq_true h0
    have q8 := eq_true hlt
    have h0' := Aside0.mk h0
    have hlt' := Aside0.mk hlt
    clear hq HT1 h0 hlt
    go_wp2_with (first | (go_at_call 147; with_reducible refine Calls.stepEq (is_calls c (bt s x) _) ?_; rw [HQ.out]))
    have h0 := h0'.out
    have hlt := hlt'.out
    have hw := IntWalk.wrap64_in (x + 1) (by omega)
    go_roundw
    case rel => exact ⟨x + 1, by rw [hw], by omega, by omega, HT2, by repeat (first | exact Drawn0.refl _ | apply Drawn0.step)⟩
    case measure => simp [intOf, hw]; omega
   | false =>
    rw [hq, if_neg (by decide)] at HT1
    have HT2 := Aside0.mk HT1
    have HQ := Aside0.mk hq
    have p8 := eq_true h0
    have q8 := eq_true hlt
    clear hq HT1 h0 hlt
    go_wp2_with (first | (go_at_call 147; with_reducible refine Calls.stepEq (is_calls c (bt s x) _) ?_; rw [HQ.out]))
    go_ret2
    exact ⟨by rw [← HT2.out]; rfl, by repeat (first | exact Drawn0.refl _ | apply Drawn0.step)⟩
  ·have hd : decide (x < (s.size : Int)) = false := decide_eq_false hlt
   have HE := Aside0.mk (show badI (clsB c) s = -1 by rw [← HT.out, show s.size - x.toNat = 0 by omega]; rfl)
   go_wp2
   go_ret2
   exact ⟨by rw [HE.out]; rfl, by repeat (first | exact Drawn0.refl _ | apply Drawn0.step)⟩
def textW (c : Int) (s : ByteArray) (lo hi : Int) : Int × Int :=
 if betB c 1 4 = false ∨ lo < 0 ∨ hi < lo then (1, 0) else if (s.size : Int) < lo then (13, (s.size : Int)) else if hi < (s.size : Int) then (12, hi) else if 0 ≤ badI (clsB c) s then (14, badI (clsB c) s) else (0, 0)
set_option maxHeartbeats 2000000 in
set_option maxRecDepth 100000 in
theorem text_calls (c : Int) (s : ByteArray) (lo hi : Int) (w : World) (hs : s.size ≤ 9223372036854775807) : Calls Try.prog 114 #[.int .i64 c, .string s, .int .i64 lo, .int .i64 hi] w fun e w' => e = .returned (.agg #[.int .i64 (textW c s lo hi).1, .int .i64 (textW c s lo hi).2]) ∧ Below w.heap.size w w' := by
 have HS := Aside0.mk hs
 clear hs
 by_cases hc : betB c 1 4 = true
 ·have H := Aside0.mk hc
  have hcf : ¬ betB c 1 4 = false := by rw [hc]; decide
  clear hc
  by_cases h1 : lo < 0
  ·have HT := Aside0.mk (show textW c s lo hi = (1, 0) by unfold textW; rw [if_pos (.inr (.inl h1))])
   have b1 : decide (lo < 0) = true := decide_eq_true h1
   clear h1
   go_enter Try.func114, Try.ntmps114
   go_wp2_with (first | (go_at_call 139; with_reducible refine (bad_yes c s _ H.out HS.out).mono ?_; rintro e w_ ⟨rfl, ⟨nd, rfl⟩⟩))
   exact bodyPost_ret (v := .agg #[.int .i64 1, .int .i64 0]) (by simp [results, Try.results114, go_sem]) rfl ⟨by rw [HT.out], by with_reducible repeat (first | exact Below.refl _ _ | apply below_alloc | apply pw_below_drewN | apply below_drew1 | refine Below.setCell ?_ (by simp) _)⟩
  have b1 : decide (lo < 0) = false := decide_eq_false h1
  by_cases h2 : hi < lo
  ·have HT := Aside0.mk (show textW c s lo hi = (1, 0) by unfold textW; rw [if_pos (.inr (.inr h2))])
   have b2 : decide (hi < lo) = true := decide_eq_true h2
   clear h2 h1
   go_enter Try.func114, Try.ntmps114
   go_wp2_with (first | (go_at_call 139; with_reducible refine (bad_yes c s _ H.out HS.out).mono ?_; rintro e w_ ⟨rfl, ⟨nd, rfl⟩⟩))
   exact bodyPost_ret (v := .agg #[.int .i64 1, .int .i64 0]) (by simp [results, Try.results114, go_sem]) rfl ⟨by rw [HT.out], by with_reducible repeat (first | exact Below.refl _ _ | apply below_alloc | apply pw_below_drewN | apply below_drew1 | refine Below.setCell ?_ (by simp) _)⟩
  have b2 : decide (hi < lo) = false := decide_eq_false h2
  have hno : ¬ (betB c 1 4 = false ∨ lo < 0 ∨ hi < lo) := fun h => h.elim hcf (fun h => h.elim h1 h2)
  clear h1 h2 hcf
  by_cases h3 : (s.size : Int) < lo
  ·have HT := Aside0.mk (show textW c s lo hi = (13, (s.size : Int)) by unfold textW; rw [if_neg hno, if_pos h3])
   have b3 : decide ((s.size : Int) < lo) = true := decide_eq_true h3
   clear h3 hno
   go_enter Try.func114, Try.ntmps114
   go_wp2_with (first | (go_at_call 139; with_reducible refine (bad_yes c s _ H.out HS.out).mono ?_; rintro e w_ ⟨rfl, ⟨nd, rfl⟩⟩))
   exact bodyPost_ret (v := .agg #[.int .i64 13, .int .i64 s.size]) (by simp [results, Try.results114, go_sem]) rfl ⟨by rw [HT.out], by with_reducible repeat (first | exact Below.refl _ _ | apply below_alloc | apply pw_below_drewN | apply below_drew1 | refine Below.setCell ?_ (by simp) _)⟩
  have b3 : decide ((s.size : Int) < lo) = false := decide_eq_false h3
  by_cases h4 : hi < (s.size : Int)
  ·have HT := Aside0.mk (show textW c s lo hi = (12, hi) by unfold textW; rw [if_neg hno, if_neg h3, if_pos h4])
   have b4 : decide (hi < (s.size : Int)) = true := decide_eq_true h4
   clear h3 h4 hno
   go_enter Try.func114, Try.ntmps114
   go_wp2_with (first | (go_at_call 139; with_reducible refine (bad_yes c s _ H.out HS.out).mono ?_; rintro e w_ ⟨rfl, ⟨nd, rfl⟩⟩))
   exact bodyPost_ret (v := .agg #[.int .i64 12, .int .i64 hi]) (by simp [results, Try.results114, go_sem]) rfl ⟨by rw [HT.out], by with_reducible repeat (first | exact Below.refl _ _ | apply below_alloc | apply pw_below_drewN | apply below_drew1 | refine Below.setCell ?_ (by simp) _)⟩
  have b4 : decide (hi < (s.size : Int)) = false := decide_eq_false h4
  by_cases h5 : 0 ≤ badI (clsB c) s
  ·have HT := Aside0.mk (show textW c s lo hi = (14, badI (clsB c) s) by unfold textW; rw [if_neg hno, if_neg h3, if_neg h4, if_pos h5])
   have b5 : decide (0 ≤ badI (clsB c) s) = true := decide_eq_true h5
   clear h3 h4 h5 hno
   go_enter Try.func114, Try.ntmps114
   go_wp2_with (first | (go_at_call 139; with_reducible refine (bad_yes c s _ H.out HS.out).mono ?_; rintro e w_ ⟨rfl, ⟨nd, rfl⟩⟩))
   exact bodyPost_ret (v := .agg #[.int .i64 14, .int .i64 (badI (clsB c) s)]) (by simp [results, Try.results114, go_sem]) rfl ⟨by rw [HT.out], by with_reducible repeat (first | exact Below.refl _ _ | apply below_alloc | apply pw_below_drewN | apply below_drew1 | refine Below.setCell ?_ (by simp) _)⟩
  ·have HT := Aside0.mk (show textW c s lo hi = (0, 0) by unfold textW; rw [if_neg hno, if_neg h3, if_neg h4, if_neg h5])
   have b5 : decide (0 ≤ badI (clsB c) s) = false := decide_eq_false h5
   clear h3 h4 h5 hno
   go_enter Try.func114, Try.ntmps114
   go_wp2_with (first | (go_at_call 139; with_reducible refine (bad_yes c s _ H.out HS.out).mono ?_; rintro e w_ ⟨rfl, ⟨nd, rfl⟩⟩))
   exact bodyPost_ret (v := .agg #[.int .i64 0, .int .i64 0]) (by simp [results, Try.results114, go_sem]) rfl ⟨by rw [HT.out], by with_reducible repeat (first | exact Below.refl _ _ | apply below_alloc | apply pw_below_drewN | apply below_drew1 | refine Below.setCell ?_ (by simp) _)⟩
 ·have hc : betB c 1 4 = false := by revert hc; cases betB c 1 4 <;> simp
  have H := Aside0.mk hc
  have HT := Aside0.mk (show textW c s lo hi = (1, 0) by unfold textW; rw [if_pos (.inl hc)])
  clear hc
  go_enter Try.func114, Try.ntmps114
  go_wp2_with (first | (go_at_call 139; with_reducible refine (bad_no c s _ H.out).mono ?_; rintro e w_ ⟨rfl, rfl⟩))
  exact bodyPost_ret (v := .agg #[.int .i64 1, .int .i64 0]) (by simp [results, Try.results114, go_sem]) rfl ⟨by rw [HT.out], by with_reducible repeat (first | exact Below.refl _ _ | apply below_alloc | apply pw_below_drewN | apply below_drew1 | refine Below.setCell ?_ (by simp) _)⟩
end Go.Proofs.Ytclbmdblalgdjaa
/- Digits of a number: how many, their order, their value; plain; no condition. -/
namespace Go.Proofs.Ytclbmdblalgdjaa
open Go.Op
def dg (n : Nat) : List UInt8 := if h : n < 10 then [UInt8.ofNat (48 + n)] else dg (n / 10) ++ [UInt8.ofNat (48 + n % 10)]
termination_by n
decreasing_by omega
def dval (l : List UInt8) : Nat := l.foldl (fun a x => 10 * a + (x.toNat - 48)) 0
end Go.Proofs.Ytclbmdblalgdjaa
/- Package dec: Check, and Normal of what is in range; no condition. -/
namespace Go.Proofs.Ytclbmdblalgdjaa
open Go.RowKit Go.Proofs.YtclbmdblalgdjaaW.PrintWords Go.Proofs.YtclbmdblalgdjaaW.PrintLast Go.Proofs.YtclbmdblalgdjaaW.PrintMore
set_option linter.unusedVariables false
set_option linter.unusedSimpArgs false
def decBad (g : Bool) (c e : Int) : Int :=
 if c ≠ 0 ∧ (e < -18 ∨ 18 < e) then 10 else if c = 0 then (if g = false ∧ e = 0 then 0 else 21) else if c % 10 = 0 ∧ e < 18 then 21 else 0
set_option maxHeartbeats 2000000 in
set_option maxRecDepth 100000 in
theorem decnormal_zero (g : Bool) (e : Int) (w : World) : Calls Try.prog 90 #[.agg #[.bool g, .int .u64 0, .int .i64 e]] w fun x w' => x = .returned (.tuple #[.agg #[.bool false, .int .u64 0, .int .i64 0], .int .i64 0]) ∧ Below w.heap.size w w' := by
 go_enter Try.func90, Try.ntmps90
 go_wp2
 exact bodyPost_ret (v := .tuple #[.agg #[.bool false, .int .u64 0, .int .i64 0], .int .i64 0]) (by simp [results, Try.results90, go_sem]) rfl ⟨rfl, by with_reducible repeat (first | exact Below.refl _ _ | apply below_alloc | apply pw_below_drewN | apply below_drew1 | refine Below.setCell ?_ (by simp) _)⟩
set_option maxHeartbeats 4000000 in
set_option maxRecDepth 100000 in
theorem decnormal_calls (g : Bool) (c e : Int) (w : World) (hc : 1 ≤ c ∧ c < 18446744073709551616) (he : -18 ≤ e ∧ e ≤ 18) : Calls Try.prog 90 #[.agg #[.bool g, .int .u64 c, .int .i64 e]] w fun x w' => ∃ c' e', x = .returned (.tuple #[.agg #[.bool g, .int .u64 c', .int .i64 e'], .int .i64 0]) ∧ ((c % 10 = 0 ∧ e < 18 ∧ e' ≠ e) ∨ (¬ (c % 10 = 0 ∧ e < 18) ∧ c' = c ∧ e' = e)) ∧ Below w.heap.size w w' := by
 have H0 := Aside0.mk hc
 have H1 := Aside0.mk he
 have b0 : (c == 0) = false := beq_eq_false_iff_ne.mpr (by omega)
 clear hc he
 go_enter Try.func90, Try.ntmps90
 go_wp2
 go_loopg [] 38 (fun kq w' => ∃ x y : Int, Aside0 (w'.heap[w.heap.size]? = some (.cells #[.bool g, .int .u64 x, .int .i64 y] 48 (0, 0))) ∧ Aside0 (w'.heap[w.heap.size + 1]? = some (.cells #[.bool false, .int .u64 0, .int .i64 0] 48 (0, 0))) ∧ Aside0 (1 ≤ x ∧ x < 18446744073709551616 ∧ -18 ≤ y ∧ y ≤ 18 ∧ (19 - y).toNat ≤ kq) ∧ Aside0 ((x = c ∧ y = e) ∨ (c % 10 = 0 ∧ e < 18 ∧ e < y)) ∧ Aside0 (Below w.heap.size w w'))
 case atStart => exact ⟨c, e, ⟨blk_alloc (blk_new w _) _⟩, ⟨by have h := blk_new (w.alloc (.cells #[.bool g, .int .u64 c, .int .i64 e] 48 (0, 0))) (.cells #[.bool false, .int .u64 0, .int .i64 0] 48 (0, 0)); simpa using h⟩, ⟨by have := H0.out; have := H1.out; omega⟩, ⟨.inl ⟨rfl, rfl⟩⟩, ⟨below_alloc (below_alloc (Below.refl _ _) _) _⟩⟩
 case round =>
  obtain ⟨x, y, HX, HY, HI, HD, HB⟩ := hrel
  have hcz0 : wr.cell? ⟨w.heap.size, 0, none⟩ = some (.bool g) := (blk_cell HX.out 0).trans rfl
  have hcz1 : wr.cell? ⟨w.heap.size, 1, none⟩ = some (.int .u64 x) := (blk_cell HX.out 1).trans rfl
  have hcz2 : wr.cell? ⟨w.heap.size, 2, none⟩ = some (.int .i64 y) := (blk_cell HX.out 2).trans rfl
  have hfz1 := blk_frozen HX.out 1
  have hfz2 := blk_frozen HX.out 2
  have hIx := HI.out
  have hrem : Int.tmod x 10 = x % 10 := Int.tmod_eq_emod_of_nonneg (by omega)
  by_cases c1 : x % 10 = 0
  ·have b1 : (Int.tmod x 10 == 0) = true := beq_iff_eq.mpr (hrem.trans c1)
   by_cases c2 : y < 18
   ·have b2 : decide (y < 18) = true := decide_eq_true c2
    have hdv : IntKind.u64.wrap (Int.tdiv x 10) = x / 10 := by
     rw [Int.tdiv_eq_ediv_of_nonneg (by omega)]
     exact IntWalk.u64_in _ (by omega)
    have hw : wrap64 (y + 1) = y + 1 := IntWalk.wrap64_in (y + 1) (by omega)
    have HX2 := Aside0.mk (show 1 ≤ x / 10 ∧ x / 10 < 18446744073709551616 ∧ -18 ≤ y + 1 ∧ y + 1 ≤ 18 ∧ (19 - (y + 1)).toNat ≤ gk - 1 ∧ gk - 1 < gk by omega)
    have HD2 := Aside0.mk (show c % 10 = 0 ∧ e < 18 ∧ e < y + 1 by
     rcases HD.out with ⟨rfl, rfl⟩ | h
     ·exact ⟨c1, c2, by omega⟩
     ·exact ⟨h.1, h.2.1, by omega⟩)
    have hdv' := Aside0.mk hdv
    have hw' := Aside0.mk hw
    clear hIx hrem c1 c2 hdv hw
    go_wp2
    go_roundg (gk - 1)
    case measure => exact HX2.out.2.2.2.2.2
    case rel =>
     rw [hdv'.out, hw'.out]
     refine ⟨x / 10, y + 1, ⟨?_⟩, ⟨?_⟩, ⟨by have := HX2.out; omega⟩, ⟨.inr HD2.out⟩, ⟨by with_reducible repeat (first | exact HB.out | apply below_alloc | apply pw_below_drewN | apply below_drew1 | refine Below.setCell ?_ (by simp) _)⟩⟩
     ·exact blk_put (cs := #[.bool g, .int .u64 (x / 10), .int .i64 y]) (blk_put (cs := #[.bool g, .int .u64 x, .int .i64 y]) HX.out 1 _ rfl) 2 _ rfl
     ·exact (Below.heap_setCell _ _ _ _ (by simp)).trans ((Below.heap_setCell _ _ _ _ (by simp)).trans HY.out)
   ·have b2 : decide (y < 18) = false := decide_eq_false c2
    have HR := Aside0.mk (show (c % 10 = 0 ∧ e < 18 ∧ y ≠ e) ∨ (¬ (c % 10 = 0 ∧ e < 18) ∧ x = c ∧ y = e) by
     rcases HD.out with ⟨rfl, rfl⟩ | h
     ·exact .inr ⟨by omega, rfl, rfl⟩
     ·exact .inl ⟨h.1, h.2.1, by omega⟩)
    clear hIx hrem c1 c2
    have hcy0 : wr.cell? ⟨w.heap.size + 1, 0, none⟩ = some (.bool false) := (blk_cell HY.out 0).trans rfl
    have hcy1 : wr.cell? ⟨w.heap.size + 1, 1, none⟩ = some (.int .u64 0) := (blk_cell HY.out 1).trans rfl
    have hcy2 : wr.cell? ⟨w.heap.size + 1, 2, none⟩ = some (.int .i64 0) := (blk_cell HY.out 2).trans rfl
    have hfy0 := blk_frozen HY.out 0
    have hfy1 := blk_frozen HY.out 1
    have hfy2 := blk_frozen HY.out 2
    have b18 : decide (18 < y) = false := decide_eq_false (by have := HI.out; omega)
    have bm18 : decide (y < -18) = false := decide_eq_false (by have := HI.out; omega)
    go_wp2
    go_loopg [] 0 (fun kq w2 => w2 = wr)
    case atStart => exact rfl
    case round =>
     obtain rfl := hrel
     go_wp2
     have e0 := World.cell?_setCell_same (v := .bool g) (h := hcy0)
     have e1 := World.cell?_setCell_same (v := .int .u64 x) (h := (World.cell?_setCell_other (w := wr) (a := ⟨w.heap.size + 1, 0, none⟩) (b := ⟨w.heap.size + 1, 1, none⟩) (v := .bool g) (by simp)).trans hcy1)
     have e2 := World.cell?_setCell_same (v := .int .i64 y) (h := (World.cell?_setCell_other (w := wr.setCell ⟨w.heap.size + 1, 0, none⟩ (.bool g)) (a := ⟨w.heap.size + 1, 1, none⟩) (b := ⟨w.heap.size + 1, 2, none⟩) (v := .int .u64 x) (by simp)).trans ((World.cell?_setCell_other (w := wr) (a := ⟨w.heap.size + 1, 0, none⟩) (b := ⟨w.heap.size + 1, 2, none⟩) (v := .bool g) (by simp)).trans hcy2))
     exact bodyPost_ret (v := .tuple #[.agg #[.bool g, .int .u64 x, .int .i64 y], .int .i64 0]) (by simp [results, Try.results90, go_sem, e0, e1, e2]) rfl ⟨x, y, rfl, HR.out, by with_reducible repeat (first | exact HB.out | apply below_alloc | apply pw_below_drewN | apply below_drew1 | refine Below.setCell ?_ (by simp) _)⟩
  ·have b1 : (Int.tmod x 10 == 0) = false := beq_eq_false_iff_ne.mpr (by rw [hrem]; exact c1)
   have HR := Aside0.mk (show (c % 10 = 0 ∧ e < 18 ∧ y ≠ e) ∨ (¬ (c % 10 = 0 ∧ e < 18) ∧ x = c ∧ y = e) by
    rcases HD.out with ⟨rfl, rfl⟩ | h
    ·exact .inr ⟨by omega, rfl, rfl⟩
    ·exact .inl ⟨h.1, h.2.1, by omega⟩)
   clear hIx hrem c1
   have hcy0 : wr.cell? ⟨w.heap.size + 1, 0, none⟩ = some (.bool false) := (blk_cell HY.out 0).trans rfl
   have hcy1 : wr.cell? ⟨w.heap.size + 1, 1, none⟩ = some (.int .u64 0) := (blk_cell HY.out 1).trans rfl
   have hcy2 : wr.cell? ⟨w.heap.size + 1, 2, none⟩ = some (.int .i64 0) := (blk_cell HY.out 2).trans rfl
   have hfy0 := blk_frozen HY.out 0
   have hfy1 := blk_frozen HY.out 1
   have hfy2 := blk_frozen HY.out 2
   have b18 : decide (18 < y) = false := decide_eq_false (by have := HI.out; omega)
   have bm18 : decide (y < -18) = false := decide_eq_false (by have := HI.out; omega)
   go_wp2
   go_loopg [] 0 (fun kq w2 => w2 = wr)
   case atStart => exact rfl
   case round =>
    obtain rfl := hrel
    go_wp2
    have e0 := World.cell?_setCell_same (v := .bool g) (h := hcy0)
    have e1 := World.cell?_setCell_same (v := .int .u64 x) (h := (World.cell?_setCell_other (w := wr) (a := ⟨w.heap.size + 1, 0, none⟩) (b := ⟨w.heap.size + 1, 1, none⟩) (v := .bool g) (by simp)).trans hcy1)
    have e2 := World.cell?_setCell_same (v := .int .i64 y) (h := (World.cell?_setCell_other (w := wr.setCell ⟨w.heap.size + 1, 0, none⟩ (.bool g)) (a := ⟨w.heap.size + 1, 1, none⟩) (b := ⟨w.heap.size + 1, 2, none⟩) (v := .int .u64 x) (by simp)).trans ((World.cell?_setCell_other (w := wr) (a := ⟨w.heap.size + 1, 0, none⟩) (b := ⟨w.heap.size + 1, 2, none⟩) (v := .bool g) (by simp)).trans hcy2))
    exact bodyPost_ret (v := .tuple #[.agg #[.bool g, .int .u64 x, .int .i64 y], .int .i64 0]) (by simp [results, Try.results90, go_sem, e0, e1, e2]) rfl ⟨x, y, rfl, HR.out, by with_reducible repeat (first | exact HB.out | apply below_alloc | apply pw_below_drewN | apply below_drew1 | refine Below.setCell ?_ (by simp) _)⟩
theorem eqDec (d : Nat) (w : World) (x0 y0 : Bool) (x1 y1 : Int) (x2 y2 : Int) :
  (Op.equalIn (d + 2) 48 (.agg #[.bool x0, .int .u64 x1, .int .i64 x2]) (.agg #[.bool y0, .int .u64 y1, .int .i64 y2])).run Try.prog w = .ok (x0 == y0 && (x1 == y1 && (x2 == y2))) w := by
 refine eqA_of Try.underlying48 (by kernel_rfl) ?_
 refine eqf_cons (by rfl) (by go_simp; rfl) (by go_simp; rfl) (by go_simp) ?_
 refine eqf_cons (by rfl) (by go_simp; rfl) (by go_simp; rfl) (by go_simp) ?_
 exact eqf_last (by rfl) (by go_simp; rfl) (by go_simp; rfl) (by go_simp)
section
attribute [local go_sem high] eqDec
set_option maxHeartbeats 4000000 in
set_option maxRecDepth 100000 in
theorem deccheck_calls (g : Bool) (c e : Int) (w : World) (hc : 0 ≤ c ∧ c < 18446744073709551616) : Calls Try.prog 47 #[.agg #[.bool g, .int .u64 c, .int .i64 e]] w fun x w' => x = .returned (.int .i64 (decBad g c e)) ∧ Below w.heap.size w w' := by
 by_cases c0 : c = 0
 ·subst c0
  clear hc
  by_cases e0 : e = 0
  ·subst e0
   cases g with
   | false =>
    have hd : decBad false 0 0 = 0 := by decide
    rw [hd]
    clear hd
    go_enter Try.func47, Try.ntmps47
    go_wp2_with (first | (go_at_call 90; refine (decnormal_zero false 0 _).mono ?_; rintro x w1 ⟨rfl, hb⟩; have BX := Aside0.mk (blk_below (blk_new w (.cells #[.bool false, .int .u64 0, .int .i64 0] 48 (0, 0))) hb); have hq0 : ∀ o, (w1.alloc o).cell? ⟨w.heap.size, 0, none⟩ = some (.bool false) := fun o => (blk_cell (blk_alloc BX.out o) 0).trans rfl; have hq1 : ∀ o, (w1.alloc o).cell? ⟨w.heap.size, 1, none⟩ = some (.int .u64 0) := fun o => (blk_cell (blk_alloc BX.out o) 1).trans rfl; have hq2 : ∀ o, (w1.alloc o).cell? ⟨w.heap.size, 2, none⟩ = some (.int .i64 0) := fun o => (blk_cell (blk_alloc BX.out o) 2).trans rfl; have HB := Aside0.mk ((below_alloc (Below.refl _ w) (.cells #[.bool false, .int .u64 0, .int .i64 0] 48 (0, 0))).trans (hb.mono (by simp))); clear hb))
    go_ret
    exact ⟨rfl, below_alloc HB.out _⟩
   | true =>
    have hd : decBad true 0 0 = 21 := by decide
    rw [hd]
    clear hd
    go_enter Try.func47, Try.ntmps47
    go_wp2_with (first | (go_at_call 90; refine (decnormal_zero true 0 _).mono ?_; rintro x w1 ⟨rfl, hb⟩; have BX := Aside0.mk (blk_below (blk_new w (.cells #[.bool true, .int .u64 0, .int .i64 0] 48 (0, 0))) hb); have hq0 : ∀ o, (w1.alloc o).cell? ⟨w.heap.size, 0, none⟩ = some (.bool true) := fun o => (blk_cell (blk_alloc BX.out o) 0).trans rfl; have hq1 : ∀ o, (w1.alloc o).cell? ⟨w.heap.size, 1, none⟩ = some (.int .u64 0) := fun o => (blk_cell (blk_alloc BX.out o) 1).trans rfl; have hq2 : ∀ o, (w1.alloc o).cell? ⟨w.heap.size, 2, none⟩ = some (.int .i64 0) := fun o => (blk_cell (blk_alloc BX.out o) 2).trans rfl; have HB := Aside0.mk ((below_alloc (Below.refl _ w) (.cells #[.bool true, .int .u64 0, .int .i64 0] 48 (0, 0))).trans (hb.mono (by simp))); clear hb))
    go_ret
    exact ⟨rfl, below_alloc HB.out _⟩
  ·have hd : decBad g 0 e = 21 := by
    unfold decBad
    rw [if_neg (by omega), if_pos rfl, if_neg (fun h => e0 h.2)]
   rw [hd]
   have e1 : (e == 0) = false := beq_eq_false_iff_ne.mpr e0
   have e2 : ((0 : Int) == e) = false := beq_eq_false_iff_ne.mpr (fun h => e0 h.symm)
   clear hd e0
   go_enter Try.func47, Try.ntmps47
   go_wp2_with (first | (go_at_call 90; refine (decnormal_zero g e _).mono ?_; rintro x w1 ⟨rfl, hb⟩; have BX := Aside0.mk (blk_below (blk_new w (.cells #[.bool g, .int .u64 0, .int .i64 e] 48 (0, 0))) hb); have hq0 : ∀ o, (w1.alloc o).cell? ⟨w.heap.size, 0, none⟩ = some (.bool g) := fun o => (blk_cell (blk_alloc BX.out o) 0).trans rfl; have hq1 : ∀ o, (w1.alloc o).cell? ⟨w.heap.size, 1, none⟩ = some (.int .u64 0) := fun o => (blk_cell (blk_alloc BX.out o) 1).trans rfl; have hq2 : ∀ o, (w1.alloc o).cell? ⟨w.heap.size, 2, none⟩ = some (.int .i64 e) := fun o => (blk_cell (blk_alloc BX.out o) 2).trans rfl; have HB := Aside0.mk ((below_alloc (Below.refl _ w) (.cells #[.bool g, .int .u64 0, .int .i64 e] 48 (0, 0))).trans (hb.mono (by simp))); clear hb))
   go_ret
   exact ⟨rfl, below_alloc HB.out _⟩
 have b0 : (c == 0) = false := beq_eq_false_iff_ne.mpr c0
 have b1 : (c != 0) = true := bne_iff_ne.mpr c0
 by_cases e1 : e < -18
 ·have hd : decBad g c e = 10 := by unfold decBad; rw [if_pos ⟨c0, .inl e1⟩]
  rw [hd]
  have e1b : decide (e < -18) = true := decide_eq_true e1
  clear hd hc c0 e1
  go_enter Try.func47, Try.ntmps47
  go_wp2
  go_ret
  exact ⟨rfl, below_alloc (Below.refl _ _) _⟩
 have e1b : decide (e < -18) = false := decide_eq_false e1
 by_cases e2 : 18 < e
 ·have hd : decBad g c e = 10 := by unfold decBad; rw [if_pos ⟨c0, .inr e2⟩]
  rw [hd]
  have e2b : decide (18 < e) = true := decide_eq_true e2
  clear hd hc c0 e1 e2
  go_enter Try.func47, Try.ntmps47
  go_wp2
  go_ret
  exact ⟨rfl, below_alloc (Below.refl _ _) _⟩
 have e2b : decide (18 < e) = false := decide_eq_false e2
 have HN := Aside0.mk (fun w : World => decnormal_calls g c e w (by omega) (by omega))
 have HD := Aside0.mk (show decBad g c e = if c % 10 = 0 ∧ e < 18 then 21 else 0 by unfold decBad; rw [if_neg (by omega), if_neg c0])
 clear hc c0 e1 e2
 go_enter Try.func47, Try.ntmps47
 go_wp2_with fail
 refine (HN.out _).mono ?_
 rintro x w1 ⟨c', e', rfl, hcs, hb⟩
 have BX := Aside0.mk (blk_below (blk_new w (.cells #[.bool g, .int .u64 c, .int .i64 e] 48 (0, 0))) hb)
 have hq0 : ∀ o, (w1.alloc o).cell? ⟨w.heap.size, 0, none⟩ = some (.bool g) := fun o => (blk_cell (blk_alloc BX.out o) 0).trans rfl
 have hq1 : ∀ o, (w1.alloc o).cell? ⟨w.heap.size, 1, none⟩ = some (.int .u64 c) := fun o => (blk_cell (blk_alloc BX.out o) 1).trans rfl
 have hq2 : ∀ o, (w1.alloc o).cell? ⟨w.heap.size, 2, none⟩ = some (.int .i64 e) := fun o => (blk_cell (blk_alloc BX.out o) 2).trans rfl
 have HB := Aside0.mk ((below_alloc (Below.refl _ w) (.cells #[.bool g, .int .u64 c, .int .i64 e] 48 (0, 0))).trans (hb.mono (by simp)))
 clear hb
 rcases hcs with ⟨h1, h2, h3⟩ | ⟨h1, rfl, rfl⟩
 ·have HE := Aside0.mk (HD.out.trans (if_pos ⟨h1, h2⟩))
  have h4 : (e' == e) = false := beq_eq_false_iff_ne.mpr h3
  clear h1 h2 h3
  go_wp2
  all_goals
   go_ret
   exact ⟨by rw [HE.out]; rfl, below_alloc HB.out _⟩
 ·have HE := Aside0.mk (HD.out.trans (if_neg h1))
  clear h1
  go_wp2
  all_goals
   go_ret
   exact ⟨by rw [HE.out]; rfl, below_alloc HB.out _⟩
end
end Go.Proofs.Ytclbmdblalgdjaa
/- Package tag: Check; no condition. -/
namespace Go.Proofs.Ytclbmdblalgdjaa
open Go.RowKit Go.Proofs.YtclbmdblalgdjaaW.PrintWords Go.Proofs.YtclbmdblalgdjaaW.PrintLast Go.Proofs.YtclbmdblalgdjaaW.PrintMore
set_option linter.unusedVariables false
set_option linter.unusedSimpArgs false
def txOk (c : Int) (s : ByteArray) (lo hi : Int) : Bool := (textW c s lo hi).1 == 0 && ((textW c s lo hi).2 == 0)
def tagBad (k v : ByteArray) : Int := if txOk 2 k 1 64 = true ∧ txOk 3 v 0 100 = true then 0 else 19
theorem eqFault (d : Nat) (w : World) (x0 y0 : Int) (x1 y1 : Int) :
  (Op.equalIn (d + 2) 56 (.agg #[.int .i64 x0, .int .i64 x1]) (.agg #[.int .i64 y0, .int .i64 y1])).run Try.prog w = .ok (x0 == y0 && (x1 == y1)) w := by
 refine eqA_of Try.underlying56 (by kernel_rfl) ?_
 refine eqf_cons (by rfl) (by go_simp; rfl) (by go_simp; rfl) (by go_simp) ?_
 exact eqf_last (by rfl) (by go_simp; rfl) (by go_simp; rfl) (by go_simp)
section
attribute [local go_sem high] eqFault
set_option maxHeartbeats 4000000 in
set_option maxRecDepth 100000 in
theorem tagcheck_calls (k v : ByteArray) (w : World) (hk : k.size ≤ 9223372036854775807) (hv : v.size ≤ 9223372036854775807) : Calls Try.prog 120 #[.agg #[.string k, .string v]] w fun e w' => e = .returned (.int .i64 (tagBad k v)) ∧ Below w.heap.size w w' := by
 have HK := Aside0.mk (fun w : World => text_calls 2 k 1 64 w hk)
 have HV := Aside0.mk (fun w : World => text_calls 3 v 0 100 w hv)
 have HE := Aside0.mk (show tagBad k v = if txOk 2 k 1 64 = true ∧ txOk 3 v 0 100 = true then 0 else 19 from rfl)
 have h1 : txOk 2 k 1 64 = ((textW 2 k 1 64).1 == 0 && ((textW 2 k 1 64).2 == 0)) := rfl
 have h2 : txOk 3 v 0 100 = ((textW 3 v 0 100).1 == 0 && ((textW 3 v 0 100).2 == 0)) := rfl
 generalize (textW 2 k 1 64).1 = a at HK h1
 generalize (textW 2 k 1 64).2 = b at HK h1
 generalize (textW 3 v 0 100).1 = c at HV h2
 generalize (textW 3 v 0 100).2 = d at HV h2
 have HX := Aside0.mk (blk_alloc (blk_new w (.cells #[.string k, .string v] 81 (0, 0))) (.cells #[.int .i64 0, .int .i64 0] 56 (0, 0)))
 have HY := Aside0.mk (show ((w.alloc (.cells #[.string k, .string v] 81 (0, 0))).alloc (.cells #[.int .i64 0, .int .i64 0] 56 (0, 0))).heap[w.heap.size + 1]? = some (.cells #[.int .i64 0, .int .i64 0] 56 (0, 0)) by have h := blk_new (w.alloc (.cells #[.string k, .string v] 81 (0, 0))) (.cells #[.int .i64 0, .int .i64 0] 56 (0, 0)); simpa using h)
 have HB := Aside0.mk (below_alloc (below_alloc (Below.refl w.heap.size w) (.cells #[.string k, .string v] 81 (0, 0))) (.cells #[.int .i64 0, .int .i64 0] 56 (0, 0)))
 clear hk hv
 cases ha : (a == 0 && (b == 0)) with
 | false =>
  have HR := Aside0.mk (HE.out.trans (if_neg (fun h => by rw [h1, ha] at h; exact absurd h.1 (by decide))))
  clear h1 h2
  go_enter Try.func120, Try.ntmps120
  go_wp2
  refine start_ (n := 12) (S := fun w' => w'.cell? ⟨w.heap.size, 0, none⟩ = some (.string k) ∧ w'.cell? ⟨w.heap.size, 1, none⟩ = some (.string v) ∧ w'.cell? ⟨w.heap.size + 1, 0, none⟩ = some (.int .i64 0) ∧ w'.cell? ⟨w.heap.size + 1, 1, none⟩ = some (.int .i64 0)) (ds := []) #[false, false, false, false, false, false, false, false, false, false, false, false] (by kernel_rfl) rfl rfl ⟨(blk_cell (blk_drew HX.out) 0).trans rfl, (blk_cell (blk_drew HX.out) 1).trans rfl, (blk_cell (blk_drew HY.out) 0).trans rfl, (blk_cell (blk_drew HY.out) 1).trans rfl⟩ (fun hHeld => ?_)
  refine pure_ (i := 0) (N := some 5) (v := ?_) (a' := ?_) #[true, false, false, false, false, false, false, false, false, false, false, false] rfl rfl (by kernel_rfl) (fun _ _ _ h => h) (Or.inl ⟨by rfl, ?_⟩) ?_ ?_
  rotate_left
  ·intro w'
   go_simp
   with_reducible rfl
  rotate_left
  ·simp only [Act.put, List.setIfInBounds_toArray, List.set_cons_zero, List.set_cons_succ, i64_w, i32_w]
   rfl
  refine take_ (i := 1) (N := some 6) (v := ?_) (a' := ?_) #[true, true, false, false, false, false, false, false, false, false, false, false] rfl rfl (by kernel_rfl) (fun _ _ _ h => h) (Or.inl ⟨by rfl, ?_⟩) hHeld ?_ ?_
  rotate_left
  ·rintro w' ⟨s0, s1, s2, s3⟩
   go_simp
   with_reducible rfl
  rotate_left
  ·simp only [Act.put, List.setIfInBounds_toArray, List.set_cons_zero, List.set_cons_succ, i64_w, i32_w]
   rfl
  refine take_ (i := 3) (N := some 8) (v := ?_) (a' := ?_) #[true, true, false, true, false, false, false, false, false, false, false, false] rfl rfl (by kernel_rfl) (fun _ _ _ h => h) (Or.inl ⟨by rfl, ?_⟩) hHeld ?_ ?_
  rotate_left
  ·rintro w' ⟨s0, s1, s2, s3⟩
   go_simp
   with_reducible rfl
  rotate_left
  ·simp only [Act.put, List.setIfInBounds_toArray, List.set_cons_zero, List.set_cons_succ, i64_w, i32_w]
   rfl
  refine one_ (i := 2) (N := some 7) #[true, true, true, true, false, false, false, false, false, false, false, false] rfl rfl (by kernel_rfl) (by decide) (fun K hK => ?_)
  refine goes_ Try.func114 (by kernel_rfl) rfl #[.int .i64 2, .string k, .int .i64 1, .int .i64 64] (by rfl) rfl rfl (by first | (simp only [List.map_toArray, List.map_cons, List.map_nil]; done) | (simp only [List.map_toArray, List.map_cons, List.map_nil]; rfl) | simp) ?_
  with_reducible refine (HK.out _).mono ?_
  rintro e w3 ⟨rfl, hb⟩
  have n0 := Aside0.mk (blk_below (blk_drew HX.out) hb)
  have n1 := Aside0.mk (blk_below (blk_drew HY.out) hb)
  have n2 := Aside0.mk (below_step (below_drew1 HB.out) hb)
  clear HX HY HB hb
  have HX := n0
  have HY := n1
  have HB := n2
  clear n0 n1 n2
  refine ⟨_, rfl, ?_⟩
  refine hK.out _ _ ⟨(blk_cell HX.out 0).trans rfl, (blk_cell HX.out 1).trans rfl, (blk_cell HY.out 0).trans rfl, (blk_cell HY.out 1).trans rfl⟩ (fun hHeld => ?_)
  clear hK K
  refine norm_ (a' := ?_) ?_ ?_
  rotate_left
  ·show Act.put _ (some 7) _ = _
   simp only [Act.put, List.setIfInBounds_toArray, List.set_cons_zero, List.set_cons_succ, i64_w, i32_w]
   rfl
  refine pure_ (i := 4) (N := some 9) (v := ?_) (a' := ?_) #[true, true, true, true, true, false, false, false, false, false, false, false] rfl rfl (by kernel_rfl) (fun _ _ _ h => h) (Or.inl ⟨by rfl, ?_⟩) ?_ ?_
  rotate_left
  ·intro w'
   go_simp
   with_reducible rfl
  rotate_left
  ·simp only [Act.put, List.setIfInBounds_toArray, List.set_cons_zero, List.set_cons_succ, i64_w, i32_w]
   rfl
  refine pure_ (i := 5) (N := some 10) (v := ?_) (a' := ?_) #[true, true, true, true, true, true, false, false, false, false, false, false] rfl rfl (by kernel_rfl) (fun _ _ _ h => h) (Or.inl ⟨by rfl, ?_⟩) ?_ ?_
  rotate_left
  ·intro w'
   go_simp
   with_reducible rfl
  rotate_left
  ·simp only [Act.put, List.setIfInBounds_toArray, List.set_cons_zero, List.set_cons_succ, i64_w, i32_w]
   rfl
  refine pure_ (i := 6) (N := some 11) (v := undef) (a' := ?_) #[true, true, true, true, true, true, true, false, false, false, false, false] rfl rfl (by kernel_rfl) (fun _ _ _ h => h) (Or.inr ⟨by rfl, rfl⟩) ?_ ?_
  rotate_left
  ·simp only [Act.put, List.setIfInBounds_toArray, List.set_cons_zero, List.set_cons_succ, i64_w, i32_w]
   rfl
  refine pure_ (i := 7) (N := some 12) (v := undef) (a' := ?_) #[true, true, true, true, true, true, true, true, false, false, false, false] rfl rfl (by kernel_rfl) (fun _ _ _ h => h) (Or.inr ⟨by rfl, rfl⟩) ?_ ?_
  rotate_left
  ·simp only [Act.put, List.setIfInBounds_toArray, List.set_cons_zero, List.set_cons_succ, i64_w, i32_w]
   rfl
  refine pure_ (i := 8) (N := some 13) (v := undef) (a' := ?_) #[true, true, true, true, true, true, true, true, true, false, false, false] rfl rfl (by kernel_rfl) (fun _ _ _ h => h) (Or.inr ⟨by rfl, rfl⟩) ?_ ?_
  rotate_left
  ·simp only [Act.put, List.setIfInBounds_toArray, List.set_cons_zero, List.set_cons_succ, i64_w, i32_w]
   rfl
  refine pure_ (i := 9) (N := some 14) (v := undef) (a' := ?_) #[true, true, true, true, true, true, true, true, true, true, false, false] rfl rfl (by kernel_rfl) (fun _ _ _ h => h) (Or.inr ⟨by rfl, rfl⟩) ?_ ?_
  rotate_left
  ·simp only [Act.put, List.setIfInBounds_toArray, List.set_cons_zero, List.set_cons_succ, i64_w, i32_w]
   rfl
  refine pure_ (i := 10) (N := some 15) (v := undef) (a' := ?_) #[true, true, true, true, true, true, true, true, true, true, true, false] rfl rfl (by kernel_rfl) (fun _ _ _ h => h) (Or.inr ⟨by rfl, rfl⟩) ?_ ?_
  rotate_left
  ·simp only [Act.put, List.setIfInBounds_toArray, List.set_cons_zero, List.set_cons_succ, i64_w, i32_w]
   rfl
  refine pure_ (i := 11) (N := some 16) (v := ?_) (a' := ?_) #[true, true, true, true, true, true, true, true, true, true, true, true] rfl rfl (by kernel_rfl) (fun _ _ _ h => h) (Or.inl ⟨by rfl, ?_⟩) ?_ ?_
  rotate_left
  ·intro w'
   go_simp
   with_reducible rfl
  rotate_left
  ·simp only [Act.put, List.setIfInBounds_toArray, List.set_cons_zero, List.set_cons_succ, i64_w, i32_w]
   rfl
  refine done_ (by kernel_rfl) ?_
  go_wp2
  go_ret
  exact ⟨by rw [HR.out]; rfl, HB.out⟩
 | true =>
  cases hc : (c == 0 && (d == 0)) with
  | false =>
   have HR := Aside0.mk (HE.out.trans (if_neg (fun h => by rw [h2, hc] at h; exact absurd h.2 (by decide))))
   clear h1 h2
   go_enter Try.func120, Try.ntmps120
   go_wp2
   refine start_ (n := 12) (S := fun w' => w'.cell? ⟨w.heap.size, 0, none⟩ = some (.string k) ∧ w'.cell? ⟨w.heap.size, 1, none⟩ = some (.string v) ∧ w'.cell? ⟨w.heap.size + 1, 0, none⟩ = some (.int .i64 0) ∧ w'.cell? ⟨w.heap.size + 1, 1, none⟩ = some (.int .i64 0)) (ds := []) #[false, false, false, false, false, false, false, false, false, false, false, false] (by kernel_rfl) rfl rfl ⟨(blk_cell (blk_drew HX.out) 0).trans rfl, (blk_cell (blk_drew HX.out) 1).trans rfl, (blk_cell (blk_drew HY.out) 0).trans rfl, (blk_cell (blk_drew HY.out) 1).trans rfl⟩ (fun hHeld => ?_)
   refine pure_ (i := 0) (N := some 5) (v := ?_) (a' := ?_) #[true, false, false, false, false, false, false, false, false, false, false, false] rfl rfl (by kernel_rfl) (fun _ _ _ h => h) (Or.inl ⟨by rfl, ?_⟩) ?_ ?_
   rotate_left
   ·intro w'
    go_simp
    with_reducible rfl
   rotate_left
   ·simp only [Act.put, List.setIfInBounds_toArray, List.set_cons_zero, List.set_cons_succ, i64_w, i32_w]
    rfl
   refine take_ (i := 1) (N := some 6) (v := ?_) (a' := ?_) #[true, true, false, false, false, false, false, false, false, false, false, false] rfl rfl (by kernel_rfl) (fun _ _ _ h => h) (Or.inl ⟨by rfl, ?_⟩) hHeld ?_ ?_
   rotate_left
   ·rintro w' ⟨s0, s1, s2, s3⟩
    go_simp
    with_reducible rfl
   rotate_left
   ·simp only [Act.put, List.setIfInBounds_toArray, List.set_cons_zero, List.set_cons_succ, i64_w, i32_w]
    rfl
   refine take_ (i := 3) (N := some 8) (v := ?_) (a' := ?_) #[true, true, false, true, false, false, false, false, false, false, false, false] rfl rfl (by kernel_rfl) (fun _ _ _ h => h) (Or.inl ⟨by rfl, ?_⟩) hHeld ?_ ?_
   rotate_left
   ·rintro w' ⟨s0, s1, s2, s3⟩
    go_simp
    with_reducible rfl
   rotate_left
   ·simp only [Act.put, List.setIfInBounds_toArray, List.set_cons_zero, List.set_cons_succ, i64_w, i32_w]
    rfl
   refine one_ (i := 2) (N := some 7) #[true, true, true, true, false, false, false, false, false, false, false, false] rfl rfl (by kernel_rfl) (by decide) (fun K hK => ?_)
   refine goes_ Try.func114 (by kernel_rfl) rfl #[.int .i64 2, .string k, .int .i64 1, .int .i64 64] (by rfl) rfl rfl (by first | (simp only [List.map_toArray, List.map_cons, List.map_nil]; done) | (simp only [List.map_toArray, List.map_cons, List.map_nil]; rfl) | simp) ?_
   with_reducible refine (HK.out _).mono ?_
   rintro e w3 ⟨rfl, hb⟩
   have n0 := Aside0.mk (blk_below (blk_drew HX.out) hb)
   have n1 := Aside0.mk (blk_below (blk_drew HY.out) hb)
   have n2 := Aside0.mk (below_step (below_drew1 HB.out) hb)
   clear HX HY HB hb
   have HX := n0
   have HY := n1
   have HB := n2
   clear n0 n1 n2
   refine ⟨_, rfl, ?_⟩
   refine hK.out _ _ ⟨(blk_cell HX.out 0).trans rfl, (blk_cell HX.out 1).trans rfl, (blk_cell HY.out 0).trans rfl, (blk_cell HY.out 1).trans rfl⟩ (fun hHeld => ?_)
   clear hK K
   refine norm_ (a' := ?_) ?_ ?_
   rotate_left
   ·show Act.put _ (some 7) _ = _
    simp only [Act.put, List.setIfInBounds_toArray, List.set_cons_zero, List.set_cons_succ, i64_w, i32_w]
    rfl
   refine pure_ (i := 4) (N := some 9) (v := ?_) (a' := ?_) #[true, true, true, true, true, false, false, false, false, false, false, false] rfl rfl (by kernel_rfl) (fun _ _ _ h => h) (Or.inl ⟨by rfl, ?_⟩) ?_ ?_
   rotate_left
   ·intro w'
    go_simp
    with_reducible rfl
   rotate_left
   ·simp only [Act.put, List.setIfInBounds_toArray, List.set_cons_zero, List.set_cons_succ, i64_w, i32_w]
    rfl
   refine pure_ (i := 5) (N := some 10) (v := ?_) (a' := ?_) #[true, true, true, true, true, true, false, false, false, false, false, false] rfl rfl (by kernel_rfl) (fun _ _ _ h => h) (Or.inl ⟨by rfl, ?_⟩) ?_ ?_
   rotate_left
   ·intro w'
    go_simp
    with_reducible rfl
   rotate_left
   ·simp only [Act.put, List.setIfInBounds_toArray, List.set_cons_zero, List.set_cons_succ, i64_w, i32_w]
    rfl
   refine pure_ (i := 6) (N := some 11) (v := ?_) (a' := ?_) #[true, true, true, true, true, true, true, false, false, false, false, false] rfl rfl (by kernel_rfl) (fun _ _ _ h => h) (Or.inl ⟨by rfl, ?_⟩) ?_ ?_
   rotate_left
   ·intro w'
    go_simp
    with_reducible rfl
   rotate_left
   ·simp only [Act.put, List.setIfInBounds_toArray, List.set_cons_zero, List.set_cons_succ, i64_w, i32_w]
    rfl
   refine take_ (i := 7) (N := some 12) (v := ?_) (a' := ?_) #[true, true, true, true, true, true, true, true, false, false, false, false] rfl rfl (by kernel_rfl) (fun _ _ _ h => h) (Or.inl ⟨by rfl, ?_⟩) hHeld ?_ ?_
   rotate_left
   ·rintro w' ⟨s0, s1, s2, s3⟩
    go_simp
    with_reducible rfl
   rotate_left
   ·simp only [Act.put, List.setIfInBounds_toArray, List.set_cons_zero, List.set_cons_succ, i64_w, i32_w]
    rfl
   refine take_ (i := 9) (N := some 14) (v := ?_) (a' := ?_) #[true, true, true, true, true, true, true, true, false, true, false, false] rfl rfl (by kernel_rfl) (fun _ _ _ h => h) (Or.inl ⟨by rfl, ?_⟩) hHeld ?_ ?_
   rotate_left
   ·rintro w' ⟨s0, s1, s2, s3⟩
    go_simp
    with_reducible rfl
   rotate_left
   ·simp only [Act.put, List.setIfInBounds_toArray, List.set_cons_zero, List.set_cons_succ, i64_w, i32_w]
    rfl
   refine one_ (i := 8) (N := some 13) #[true, true, true, true, true, true, true, true, true, true, false, false] rfl rfl (by kernel_rfl) (by decide) (fun K hK => ?_)
   refine goes_ Try.func114 (by kernel_rfl) rfl #[.int .i64 3, .string v, .int .i64 0, .int .i64 100] (by rfl) rfl rfl (by first | (simp only [List.map_toArray, List.map_cons, List.map_nil]; done) | (simp only [List.map_toArray, List.map_cons, List.map_nil]; rfl) | simp) ?_
   with_reducible refine (HV.out _).mono ?_
   rintro e w3 ⟨rfl, hb⟩
   have n0 := Aside0.mk (blk_below HX.out hb)
   have n1 := Aside0.mk (blk_below HY.out hb)
   have n2 := Aside0.mk (below_step HB.out hb)
   clear HX HY HB hb
   have HX := n0
   have HY := n1
   have HB := n2
   clear n0 n1 n2
   refine ⟨_, rfl, ?_⟩
   refine hK.out _ _ ⟨(blk_cell HX.out 0).trans rfl, (blk_cell HX.out 1).trans rfl, (blk_cell HY.out 0).trans rfl, (blk_cell HY.out 1).trans rfl⟩ (fun hHeld => ?_)
   clear hK K
   refine norm_ (a' := ?_) ?_ ?_
   rotate_left
   ·show Act.put _ (some 13) _ = _
    simp only [Act.put, List.setIfInBounds_toArray, List.set_cons_zero, List.set_cons_succ, i64_w, i32_w]
    rfl
   refine pure_ (i := 10) (N := some 15) (v := ?_) (a' := ?_) #[true, true, true, true, true, true, true, true, true, true, true, false] rfl rfl (by kernel_rfl) (fun _ _ _ h => h) (Or.inl ⟨by rfl, ?_⟩) ?_ ?_
   rotate_left
   ·intro w'
    go_simp
    with_reducible rfl
   rotate_left
   ·simp only [Act.put, List.setIfInBounds_toArray, List.set_cons_zero, List.set_cons_succ, i64_w, i32_w]
    rfl
   refine pure_ (i := 11) (N := some 16) (v := ?_) (a' := ?_) #[true, true, true, true, true, true, true, true, true, true, true, true] rfl rfl (by kernel_rfl) (fun _ _ _ h => h) (Or.inl ⟨by rfl, ?_⟩) ?_ ?_
   rotate_left
   ·intro w'
    go_simp
    with_reducible rfl
   rotate_left
   ·simp only [Act.put, List.setIfInBounds_toArray, List.set_cons_zero, List.set_cons_succ, i64_w, i32_w]
    rfl
   refine done_ (by kernel_rfl) ?_
   go_wp2
   go_ret
   exact ⟨by rw [HR.out]; rfl, HB.out⟩
  | true =>
   have HR := Aside0.mk (HE.out.trans (if_pos ⟨h1.trans ha, h2.trans hc⟩))
   clear h1 h2
   go_enter Try.func120, Try.ntmps120
   go_wp2
   refine start_ (n := 12) (S := fun w' => w'.cell? ⟨w.heap.size, 0, none⟩ = some (.string k) ∧ w'.cell? ⟨w.heap.size, 1, none⟩ = some (.string v) ∧ w'.cell? ⟨w.heap.size + 1, 0, none⟩ = some (.int .i64 0) ∧ w'.cell? ⟨w.heap.size + 1, 1, none⟩ = some (.int .i64 0)) (ds := []) #[false, false, false, false, false, false, false, false, false, false, false, false] (by kernel_rfl) rfl rfl ⟨(blk_cell (blk_drew HX.out) 0).trans rfl, (blk_cell (blk_drew HX.out) 1).trans rfl, (blk_cell (blk_drew HY.out) 0).trans rfl, (blk_cell (blk_drew HY.out) 1).trans rfl⟩ (fun hHeld => ?_)
   refine pure_ (i := 0) (N := some 5) (v := ?_) (a' := ?_) #[true, false, false, false, false, false, false, false, false, false, false, false] rfl rfl (by kernel_rfl) (fun _ _ _ h => h) (Or.inl ⟨by rfl, ?_⟩) ?_ ?_
   rotate_left
   ·intro w'
    go_simp
    with_reducible rfl
   rotate_left
   ·simp only [Act.put, List.setIfInBounds_toArray, List.set_cons_zero, List.set_cons_succ, i64_w, i32_w]
    rfl
   refine take_ (i := 1) (N := some 6) (v := ?_) (a' := ?_) #[true, true, false, false, false, false, false, false, false, false, false, false] rfl rfl (by kernel_rfl) (fun _ _ _ h => h) (Or.inl ⟨by rfl, ?_⟩) hHeld ?_ ?_
   rotate_left
   ·rintro w' ⟨s0, s1, s2, s3⟩
    go_simp
    with_reducible rfl
   rotate_left
   ·simp only [Act.put, List.setIfInBounds_toArray, List.set_cons_zero, List.set_cons_succ, i64_w, i32_w]
    rfl
   refine take_ (i := 3) (N := some 8) (v := ?_) (a' := ?_) #[true, true, false, true, false, false, false, false, false, false, false, false] rfl rfl (by kernel_rfl) (fun _ _ _ h => h) (Or.inl ⟨by rfl, ?_⟩) hHeld ?_ ?_
   rotate_left
   ·rintro w' ⟨s0, s1, s2, s3⟩
    go_simp
    with_reducible rfl
   rotate_left
   ·simp only [Act.put, List.setIfInBounds_toArray, List.set_cons_zero, List.set_cons_succ, i64_w, i32_w]
    rfl
   refine one_ (i := 2) (N := some 7) #[true, true, true, true, false, false, false, false, false, false, false, false] rfl rfl (by kernel_rfl) (by decide) (fun K hK => ?_)
   refine goes_ Try.func114 (by kernel_rfl) rfl #[.int .i64 2, .string k, .int .i64 1, .int .i64 64] (by rfl) rfl rfl (by first | (simp only [List.map_toArray, List.map_cons, List.map_nil]; done) | (simp only [List.map_toArray, List.map_cons, List.map_nil]; rfl) | simp) ?_
   with_reducible refine (HK.out _).mono ?_
   rintro e w3 ⟨rfl, hb⟩
   have n0 := Aside0.mk (blk_below (blk_drew HX.out) hb)
   have n1 := Aside0.mk (blk_below (blk_drew HY.out) hb)
   have n2 := Aside0.mk (below_step (below_drew1 HB.out) hb)
   clear HX HY HB hb
   have HX := n0
   have HY := n1
   have HB := n2
   clear n0 n1 n2
   refine ⟨_, rfl, ?_⟩
   refine hK.out _ _ ⟨(blk_cell HX.out 0).trans rfl, (blk_cell HX.out 1).trans rfl, (blk_cell HY.out 0).trans rfl, (blk_cell HY.out 1).trans rfl⟩ (fun hHeld => ?_)
   clear hK K
   refine norm_ (a' := ?_) ?_ ?_
   rotate_left
   ·show Act.put _ (some 7) _ = _
    simp only [Act.put, List.setIfInBounds_toArray, List.set_cons_zero, List.set_cons_succ, i64_w, i32_w]
    rfl
   refine pure_ (i := 4) (N := some 9) (v := ?_) (a' := ?_) #[true, true, true, true, true, false, false, false, false, false, false, false] rfl rfl (by kernel_rfl) (fun _ _ _ h => h) (Or.inl ⟨by rfl, ?_⟩) ?_ ?_
   rotate_left
   ·intro w'
    go_simp
    with_reducible rfl
   rotate_left
   ·simp only [Act.put, List.setIfInBounds_toArray, List.set_cons_zero, List.set_cons_succ, i64_w, i32_w]
    rfl
   refine pure_ (i := 5) (N := some 10) (v := ?_) (a' := ?_) #[true, true, true, true, true, true, false, false, false, false, false, false] rfl rfl (by kernel_rfl) (fun _ _ _ h => h) (Or.inl ⟨by rfl, ?_⟩) ?_ ?_
   rotate_left
   ·intro w'
    go_simp
    with_reducible rfl
   rotate_left
   ·simp only [Act.put, List.setIfInBounds_toArray, List.set_cons_zero, List.set_cons_succ, i64_w, i32_w]
    rfl
   refine pure_ (i := 6) (N := some 11) (v := ?_) (a' := ?_) #[true, true, true, true, true, true, true, false, false, false, false, false] rfl rfl (by kernel_rfl) (fun _ _ _ h => h) (Or.inl ⟨by rfl, ?_⟩) ?_ ?_
   rotate_left
   ·intro w'
    go_simp
    with_reducible rfl
   rotate_left
   ·simp only [Act.put, List.setIfInBounds_toArray, List.set_cons_zero, List.set_cons_succ, i64_w, i32_w]
    rfl
   refine take_ (i := 7) (N := some 12) (v := ?_) (a' := ?_) #[true, true, true, true, true, true, true, true, false, false, false, false] rfl rfl (by kernel_rfl) (fun _ _ _ h => h) (Or.inl ⟨by rfl, ?_⟩) hHeld ?_ ?_
   rotate_left
   ·rintro w' ⟨s0, s1, s2, s3⟩
    go_simp
    with_reducible rfl
   rotate_left
   ·simp only [Act.put, List.setIfInBounds_toArray, List.set_cons_zero, List.set_cons_succ, i64_w, i32_w]
    rfl
   refine take_ (i := 9) (N := some 14) (v := ?_) (a' := ?_) #[true, true, true, true, true, true, true, true, false, true, false, false] rfl rfl (by kernel_rfl) (fun _ _ _ h => h) (Or.inl ⟨by rfl, ?_⟩) hHeld ?_ ?_
   rotate_left
   ·rintro w' ⟨s0, s1, s2, s3⟩
    go_simp
    with_reducible rfl
   rotate_left
   ·simp only [Act.put, List.setIfInBounds_toArray, List.set_cons_zero, List.set_cons_succ, i64_w, i32_w]
    rfl
   refine one_ (i := 8) (N := some 13) #[true, true, true, true, true, true, true, true, true, true, false, false] rfl rfl (by kernel_rfl) (by decide) (fun K hK => ?_)
   refine goes_ Try.func114 (by kernel_rfl) rfl #[.int .i64 3, .string v, .int .i64 0, .int .i64 100] (by rfl) rfl rfl (by first | (simp only [List.map_toArray, List.map_cons, List.map_nil]; done) | (simp only [List.map_toArray, List.map_cons, List.map_nil]; rfl) | simp) ?_
   with_reducible refine (HV.out _).mono ?_
   rintro e w3 ⟨rfl, hb⟩
   have n0 := Aside0.mk (blk_below HX.out hb)
   have n1 := Aside0.mk (blk_below HY.out hb)
   have n2 := Aside0.mk (below_step HB.out hb)
   clear HX HY HB hb
   have HX := n0
   have HY := n1
   have HB := n2
   clear n0 n1 n2
   refine ⟨_, rfl, ?_⟩
   refine hK.out _ _ ⟨(blk_cell HX.out 0).trans rfl, (blk_cell HX.out 1).trans rfl, (blk_cell HY.out 0).trans rfl, (blk_cell HY.out 1).trans rfl⟩ (fun hHeld => ?_)
   clear hK K
   refine norm_ (a' := ?_) ?_ ?_
   rotate_left
   ·show Act.put _ (some 13) _ = _
    simp only [Act.put, List.setIfInBounds_toArray, List.set_cons_zero, List.set_cons_succ, i64_w, i32_w]
    rfl
   refine pure_ (i := 10) (N := some 15) (v := ?_) (a' := ?_) #[true, true, true, true, true, true, true, true, true, true, true, false] rfl rfl (by kernel_rfl) (fun _ _ _ h => h) (Or.inl ⟨by rfl, ?_⟩) ?_ ?_
   rotate_left
   ·intro w'
    go_simp
    with_reducible rfl
   rotate_left
   ·simp only [Act.put, List.setIfInBounds_toArray, List.set_cons_zero, List.set_cons_succ, i64_w, i32_w]
    rfl
   refine pure_ (i := 11) (N := some 16) (v := ?_) (a' := ?_) #[true, true, true, true, true, true, true, true, true, true, true, true] rfl rfl (by kernel_rfl) (fun _ _ _ h => h) (Or.inl ⟨by rfl, ?_⟩) ?_ ?_
   rotate_left
   ·intro w'
    go_simp
    with_reducible rfl
   rotate_left
   ·simp only [Act.put, List.setIfInBounds_toArray, List.set_cons_zero, List.set_cons_succ, i64_w, i32_w]
    rfl
   refine done_ (by kernel_rfl) ?_
   go_wp2
   go_ret
   exact ⟨by rw [HR.out]; rfl, HB.out⟩
end
end Go.Proofs.Ytclbmdblalgdjaa
/- Package metric: Check; no condition. -/
namespace Go.Proofs.Ytclbmdblalgdjaa
open Go.RowKit Go.Proofs.YtclbmdblalgdjaaW.PrintWords Go.Proofs.YtclbmdblalgdjaaW.PrintLast Go.Proofs.YtclbmdblalgdjaaW.PrintMore Go.Proofs.Ytclbmdblalgdjaa.PE
set_option linter.unusedVariables false
set_option linter.unusedSimpArgs false
abbrev DecS := S48
abbrev TagS := S81
abbrev MetS := S26
abbrev kDec := k48
abbrev kTag := k81
abbrev kMet := k26
def decW (x : DecS) : Bool := decBad x.f0 x.f1 x.f2 != 0
def tagW (x : TagS) : Bool := tagBad x.f0 x.f1 != 0
def metPart (m : MetS) : Nat → Bool
 | 0 => txOk 1 m.f0 1 200
 | 1 => betB m.f1 1 5
 | 2 => betB m.f2.length 1 64 && !(m.f2.any decW)
 | 3 => betB m.f3 1 1000000 && (m.f1 != 2 || m.f3 == 1000000)
 | 4 => decide ((m.f4.length : Int) ≤ 32) && !(m.f4.any tagW)
 | _ => betB m.f5 0 1099511627776
def metBad (m : MetS) : Int := if metPart m 0 = false then 15 else if metPart m 1 = false then 16 else if metPart m 2 = false then 17 else if metPart m 3 = false then 18 else if metPart m 4 = false then 19 else if metPart m 5 = false then 20 else 0
theorem metBad_at (m : MetS) (i : Nat) (hi : i < 6) (hp : ∀ j, j < i → metPart m j = true) (h : metPart m i = false) : metBad m = 15 + (i : Int) := by
 have t : ∀ j, metPart m j = true → ¬ metPart m j = false := fun j h1 h2 => by rw [h1] at h2; exact absurd h2 (by decide)
 unfold metBad
 match i, hi, hp, h with
 | 0, _, _, h => rw [if_pos h]; rfl
 | 1, _, hp, h => rw [if_neg (t 0 (hp 0 (by omega))), if_pos h]; rfl
 | 2, _, hp, h => rw [if_neg (t 0 (hp 0 (by omega))), if_neg (t 1 (hp 1 (by omega))), if_pos h]; rfl
 | 3, _, hp, h => rw [if_neg (t 0 (hp 0 (by omega))), if_neg (t 1 (hp 1 (by omega))), if_neg (t 2 (hp 2 (by omega))), if_pos h]; rfl
 | 4, _, hp, h => rw [if_neg (t 0 (hp 0 (by omega))), if_neg (t 1 (hp 1 (by omega))), if_neg (t 2 (hp 2 (by omega))), if_neg (t 3 (hp 3 (by omega))), if_pos h]; rfl
 | 5, _, hp, h => rw [if_neg (t 0 (hp 0 (by omega))), if_neg (t 1 (hp 1 (by omega))), if_neg (t 2 (hp 2 (by omega))), if_neg (t 3 (hp 3 (by omega))), if_neg (t 4 (hp 4 (by omega))), if_pos h]; rfl
theorem metBad_ok (m : MetS) (hp : ∀ j, j < 6 → metPart m j = true) : metBad m = 0 := by
 have t : ∀ j, j < 6 → ¬ metPart m j = false := fun j h1 h2 => by rw [hp j h1] at h2; exact absurd h2 (by decide)
 unfold metBad
 rw [if_neg (t 0 (by omega)), if_neg (t 1 (by omega)), if_neg (t 2 (by omega)), if_neg (t 3 (by omega)), if_neg (t 4 (by omega)), if_neg (t 5 (by omega))]
structure MetC (m : MetS) (Av : Option Addr) (cv : Nat) (At : Option Addr) (ct : Nat) (w : World) : Prop where
 v : kDec.C w Av m.f2.length m.f2
 vc : m.f2.length ≤ cv
 t : kTag.C w At m.f4.length m.f4
 tc : m.f4.length ≤ ct
 wv : ∀ x ∈ m.f2, 0 ≤ x.f1 ∧ x.f1 < 18446744073709551616
 wt : ∀ x ∈ m.f4, x.f0.size ≤ 9223372036854775807 ∧ x.f1.size ≤ 9223372036854775807
 wn : m.f0.size ≤ 9223372036854775807
theorem MetC.below {m : MetS} {Av At : Option Addr} {cv ct : Nat} {w w' : World} (h : MetC m Av cv At ct w) (hb : Below w.heap.size w w') : MetC m Av cv At ct w' :=
 ⟨Kd.C_below h.v hb, h.vc, Kd.C_below h.t hb, h.tc, h.wv, h.wt, h.wn⟩
set_option maxHeartbeats 1000000 in
set_option maxRecDepth 100000 in
theorem mbet_calls (n lo hi : Int) (w : World) : Calls Try.prog 115 #[.int .i64 n, .int .i64 lo, .int .i64 hi] w fun e w' => e = .returned (.bool (betB n lo hi)) ∧ w = w' := by
 cases h1 : decide (lo ≤ n) with
 | true =>
  have H := Aside0.mk h1
  go_enter Try.func115, Try.ntmps115
  go_wp2
  go_ret
  exact ⟨by unfold betB; rw [H.out]; rfl, rfl⟩
 | false =>
  have H := Aside0.mk h1
  go_enter Try.func115, Try.ntmps115
  go_wp2
  go_ret
  exact ⟨by unfold betB; rw [H.out]; rfl, rfl⟩
set_option maxHeartbeats 1000000 in
set_option maxRecDepth 100000 in
theorem vclos_calls (x : DecS) (w : World) (hc : 0 ≤ x.f1 ∧ x.f1 < 18446744073709551616) : Calls Try.prog 117 #[.agg #[.bool x.f0, .int .u64 x.f1, .int .i64 x.f2]] w fun e w' => e = .returned (.bool (decW x)) ∧ Below w.heap.size w w' := by
 have HC := Aside0.mk hc
 have HE := Aside0.mk (show decW x = (decBad x.f0 x.f1 x.f2 != 0) from rfl)
 clear hc
 go_enter Try.func117, Try.ntmps117
 go_wp2_with fail
 refine (deccheck_calls x.f0 x.f1 x.f2 _ HC.out).mono ?_
 rintro e w1 ⟨rfl, hb⟩
 go_wp2
 go_ret
 exact ⟨by rw [HE.out]; rfl, (below_alloc (Below.refl _ w) _).trans (hb.mono (by simp))⟩
set_option maxHeartbeats 1000000 in
set_option maxRecDepth 100000 in
theorem tclos_calls (x : TagS) (w : World) (hc : x.f0.size ≤ 9223372036854775807 ∧ x.f1.size ≤ 9223372036854775807) : Calls Try.prog 119 #[.agg #[.string x.f0, .string x.f1]] w fun e w' => e = .returned (.bool (tagW x)) ∧ Below w.heap.size w w' := by
 have HC := Aside0.mk hc
 have HE := Aside0.mk (show tagW x = (tagBad x.f0 x.f1 != 0) from rfl)
 clear hc
 go_enter Try.func119, Try.ntmps119
 go_wp2_with fail
 refine (tagcheck_calls x.f0 x.f1 _ HC.out.1 HC.out.2).mono ?_
 rintro e w1 ⟨rfl, hb⟩
 go_wp2
 go_ret
 exact ⟨by rw [HE.out]; rfl, (below_alloc (Below.refl _ w) _).trans (hb.mono (by simp))⟩
theorem rd_memv (xs : List DecS) (i : Int) (h0 : 0 ≤ i) (h1 : i < (xs.length : Int)) : rd_T48 xs i ∈ xs := by
 unfold rd_T48
 rw [List.getD_eq_getElem?_getD, List.getElem?_eq_getElem (by omega)]
 exact List.getElem_mem _
theorem take_anyv (xs : List DecS) (p : DecS → Bool) (i : Int) (h0 : 0 ≤ i) (h1 : i < (xs.length : Int)) (h : (xs.take i.toNat).any p = false) (hp : p (rd_T48 xs i) = false) : (xs.take (i + 1).toNat).any p = false := by
 have e : (i + 1).toNat = i.toNat + 1 := by omega
 rw [e, List.take_succ_eq_append_getElem (by omega), List.any_append, h]
 have : rd_T48 xs i = xs[i.toNat]'(by omega) := by
  unfold rd_T48
  rw [List.getD_eq_getElem?_getD, List.getElem?_eq_getElem (by omega)]
  rfl
 rw [this] at hp
 simp [hp]
set_option maxHeartbeats 4000000 in
set_option maxRecDepth 100000 in
theorem vindex_calls (xs : List DecS) (A : Option Addr) (c : Nat) (w : World) (hC : kDec.C w A xs.length xs) (hw : ∀ x ∈ xs, 0 ≤ x.f1 ∧ x.f1 < 18446744073709551616) : Calls Try.prog 140 #[.slice A xs.length c, .func (.func 117) #[] #[]] w fun e w' => ∃ r : Int, e = .returned (.int .i64 r) ∧ (0 ≤ r ↔ xs.any decW = true) ∧ Below w.heap.size w w' := by
 have HC := Aside0.mk hC
 have HW := Aside0.mk hw
 have HM := Aside0.mk hC.2.1
 clear hC hw
 go_enter Try.func140, Try.ntmps140
 go_wp2
 go_loopw [8] (fun v8 w' => ∃ x : Int, v8 = .int .i64 x ∧ 0 ≤ x ∧ x ≤ (xs.length : Int) ∧ Aside0 ((xs.take x.toNat).any decW = false) ∧ Aside0 (Below w.heap.size w w')) (fun v8 _ => xs.length - (intOf v8).toNat)
 case atStart => exact ⟨0, rfl, by omega, by omega, ⟨by simp⟩, ⟨Below.refl _ _⟩⟩
 case round =>
  obtain ⟨x, rfl, h0, hi, HT, HB⟩ := hrel
  by_cases hlt : x < (xs.length : Int)
  ·have hd : decide (x < (xs.length : Int)) = true := decide_eq_true hlt
   have hd0 : decide ((0 : Int) ≤ x) = true := decide_eq_true h0
   obtain ⟨ad, ea, hx0, hx1, hx2⟩ := at_T48 HC.out x h0 hlt
   cases ea
   replace hx0 := (HB.out.cell (World.block_lt_of_cell? w _ hx0)).trans hx0
   replace hx1 := (HB.out.cell (World.block_lt_of_cell? w _ hx1)).trans hx1
   replace hx2 := (HB.out.cell (World.block_lt_of_cell? w _ hx2)).trans hx2
   have HQ := Aside0.mk (HW.out _ (rd_memv xs x h0 hlt))
   have HZ := Aside0.mk (rd_memv xs x h0 hlt)
   have h0' := Aside0.mk h0
   have hlt' := Aside0.mk hlt
   have p8 := eq_true h0
   have q8 := eq_true hlt
   cases hq : decW (rd_T48 xs x) with
   | true =>
    have HP := Aside0.mk hq
    clear hq h0 hlt hi
    go_wp2_with (first | (go_at_call 117; refine (vclos_calls (rd_T48 xs x) _ HQ.out).mono ?_; rintro e w1 ⟨rfl, hb⟩; rw [HP.out]))
    go_ret
    exact ⟨_, rfl, ⟨fun _ => List.any_eq_true.2 ⟨_, HZ.out, HP.out⟩, fun _ => h0'.out⟩, below_step HB.out hb⟩
   | false =>
    have HP := Aside0.mk hq
    clear hq h0 hlt hi
    go_wp2_with (first | (go_at_call 117; refine (vclos_calls (rd_T48 xs x) _ HQ.out).mono ?_; rintro e w1 ⟨rfl, hb⟩; rw [HP.out]; have HB2 := Aside0.mk (below_step HB.out hb); clear hb HB))
    have h0 := h0'.out
    have hlt := hlt'.out
    have hm := HM.out
    have hww := IntWalk.wrap64_in (x + 1) (by omega)
    go_roundw
    case rel => exact ⟨x + 1, by rw [hww], by omega, by omega, ⟨take_anyv xs decW x h0 hlt HT.out HP.out⟩, HB2⟩
    case measure => simp [intOf, hww]; omega
  ·have hd : decide (x < (xs.length : Int)) = false := decide_eq_false hlt
   have HE := Aside0.mk (show xs.any decW = false by have h := HT.out; rwa [show xs.take x.toNat = xs from List.take_of_length_le (by omega)] at h)
   clear h0 hi hlt
   go_wp2
   go_ret
   exact ⟨-1, rfl, ⟨fun h => absurd h (by decide), fun h => by rw [HE.out] at h; exact absurd h (by decide)⟩, HB.out⟩
set_option maxHeartbeats 4000000 in
set_option maxRecDepth 100000 in
theorem vhas_calls (xs : List DecS) (A : Option Addr) (c : Nat) (w : World) (hC : kDec.C w A xs.length xs) (hw : ∀ x ∈ xs, 0 ≤ x.f1 ∧ x.f1 < 18446744073709551616) : Calls Try.prog 116 #[.slice A xs.length c, .func (.func 117) #[] #[]] w fun e w' => e = .returned (.bool (xs.any decW)) ∧ Below w.heap.size w w' := by
 have HC := Aside0.mk hC
 have HW := Aside0.mk hw
 clear hC hw
 go_enter Try.func116, Try.ntmps116
 go_wp2_with fail
 refine (vindex_calls xs A c _ HC.out HW.out).mono ?_
 rintro e w1 ⟨r, rfl, hr, hb⟩
 have HR := Aside0.mk hr
 have HB := Aside0.mk hb
 clear hr hb
 go_wp2
 go_ret
 refine ⟨?_, HB.out⟩
 have h := HR.out
 cases hz : xs.any decW with
 | true => rw [hz] at h; rw [show decide (0 ≤ r) = true from decide_eq_true (h.2 rfl)] <;> rfl
 | false => rw [hz] at h; rw [show decide (0 ≤ r) = false from decide_eq_false (fun hh => absurd (h.1 hh) (by decide))] <;> rfl
theorem rd_memt (xs : List TagS) (i : Int) (h0 : 0 ≤ i) (h1 : i < (xs.length : Int)) : rd_T81 xs i ∈ xs := by
 unfold rd_T81
 rw [List.getD_eq_getElem?_getD, List.getElem?_eq_getElem (by omega)]
 exact List.getElem_mem _
theorem take_anyt (xs : List TagS) (p : TagS → Bool) (i : Int) (h0 : 0 ≤ i) (h1 : i < (xs.length : Int)) (h : (xs.take i.toNat).any p = false) (hp : p (rd_T81 xs i) = false) : (xs.take (i + 1).toNat).any p = false := by
 have e : (i + 1).toNat = i.toNat + 1 := by omega
 rw [e, List.take_succ_eq_append_getElem (by omega), List.any_append, h]
 have : rd_T81 xs i = xs[i.toNat]'(by omega) := by
  unfold rd_T81
  rw [List.getD_eq_getElem?_getD, List.getElem?_eq_getElem (by omega)]
  rfl
 rw [this] at hp
 simp [hp]
set_option maxHeartbeats 4000000 in
set_option maxRecDepth 100000 in
theorem tindex_calls (xs : List TagS) (A : Option Addr) (c : Nat) (w : World) (hC : kTag.C w A xs.length xs) (hw : ∀ x ∈ xs, x.f0.size ≤ 9223372036854775807 ∧ x.f1.size ≤ 9223372036854775807) : Calls Try.prog 141 #[.slice A xs.length c, .func (.func 119) #[] #[]] w fun e w' => ∃ r : Int, e = .returned (.int .i64 r) ∧ (0 ≤ r ↔ xs.any tagW = true) ∧ Below w.heap.size w w' := by
 have HC := Aside0.mk hC
 have HW := Aside0.mk hw
 have HM := Aside0.mk hC.2.1
 clear hC hw
 go_enter Try.func141, Try.ntmps141
 go_wp2
 go_loopw [8] (fun v8 w' => ∃ x : Int, v8 = .int .i64 x ∧ 0 ≤ x ∧ x ≤ (xs.length : Int) ∧ Aside0 ((xs.take x.toNat).any tagW = false) ∧ Aside0 (Below w.heap.size w w')) (fun v8 _ => xs.length - (intOf v8).toNat)
 case atStart => exact ⟨0, rfl, by omega, by omega, ⟨by simp⟩, ⟨Below.refl _ _⟩⟩
 case round =>
  obtain ⟨x, rfl, h0, hi, HT, HB⟩ := hrel
  by_cases hlt : x < (xs.length : Int)
  ·have hd : decide (x < (xs.length : Int)) = true := decide_eq_true hlt
   have hd0 : decide ((0 : Int) ≤ x) = true := decide_eq_true h0
   obtain ⟨ad, ea, hx0, hx1⟩ := at_T81 HC.out x h0 hlt
   cases ea
   replace hx0 := (HB.out.cell (World.block_lt_of_cell? w _ hx0)).trans hx0
   replace hx1 := (HB.out.cell (World.block_lt_of_cell? w _ hx1)).trans hx1
   have HQ := Aside0.mk (HW.out _ (rd_memt xs x h0 hlt))
   have HZ := Aside0.mk (rd_memt xs x h0 hlt)
   have h0' := Aside0.mk h0
   have hlt' := Aside0.mk hlt
   have p8 := eq_true h0
   have q8 := eq_true hlt
   cases hq : tagW (rd_T81 xs x) with
   | true =>
    have HP := Aside0.mk hq
    clear hq h0 hlt hi
    go_wp2_with (first | (go_at_call 119; refine (tclos_calls (rd_T81 xs x) _ HQ.out).mono ?_; rintro e w1 ⟨rfl, hb⟩; rw [HP.out]))
    go_ret
    exact ⟨_, rfl, ⟨fun _ => List.any_eq_true.2 ⟨_, HZ.out, HP.out⟩, fun _ => h0'.out⟩, below_step HB.out hb⟩
   | false =>
    have HP := Aside0.mk hq
    clear hq h0 hlt hi
    go_wp2_with (first | (go_at_call 119; refine (tclos_calls (rd_T81 xs x) _ HQ.out).mono ?_; rintro e w1 ⟨rfl, hb⟩; rw [HP.out]; have HB2 := Aside0.mk (below_step HB.out hb); clear hb HB))
    have h0 := h0'.out
    have hlt := hlt'.out
    have hm := HM.out
    have hww := IntWalk.wrap64_in (x + 1) (by omega)
    go_roundw
    case rel => exact ⟨x + 1, by rw [hww], by omega, by omega, ⟨take_anyt xs tagW x h0 hlt HT.out HP.out⟩, HB2⟩
    case measure => simp [intOf, hww]; omega
  ·have hd : decide (x < (xs.length : Int)) = false := decide_eq_false hlt
   have HE := Aside0.mk (show xs.any tagW = false by have h := HT.out; rwa [show xs.take x.toNat = xs from List.take_of_length_le (by omega)] at h)
   clear h0 hi hlt
   go_wp2
   go_ret
   exact ⟨-1, rfl, ⟨fun h => absurd h (by decide), fun h => by rw [HE.out] at h; exact absurd h (by decide)⟩, HB.out⟩
set_option maxHeartbeats 4000000 in
set_option maxRecDepth 100000 in
theorem thas_calls (xs : List TagS) (A : Option Addr) (c : Nat) (w : World) (hC : kTag.C w A xs.length xs) (hw : ∀ x ∈ xs, x.f0.size ≤ 9223372036854775807 ∧ x.f1.size ≤ 9223372036854775807) : Calls Try.prog 118 #[.slice A xs.length c, .func (.func 119) #[] #[]] w fun e w' => e = .returned (.bool (xs.any tagW)) ∧ Below w.heap.size w w' := by
 have HC := Aside0.mk hC
 have HW := Aside0.mk hw
 clear hC hw
 go_enter Try.func118, Try.ntmps118
 go_wp2_with fail
 refine (tindex_calls xs A c _ HC.out HW.out).mono ?_
 rintro e w1 ⟨r, rfl, hr, hb⟩
 have HR := Aside0.mk hr
 have HB := Aside0.mk hb
 clear hr hb
 go_wp2
 go_ret
 refine ⟨?_, HB.out⟩
 have h := HR.out
 cases hz : xs.any tagW with
 | true => rw [hz] at h; rw [show decide (0 ≤ r) = true from decide_eq_true (h.2 rfl)] <;> rfl
 | false => rw [hz] at h; rw [show decide (0 ≤ r) = false from decide_eq_false (fun hh => absurd (h.1 hh) (by decide))] <;> rfl
end Go.Proofs.Ytclbmdblalgdjaa
/- Package metric: the parts of Check; no condition. -/
namespace Go.Proofs.Ytclbmdblalgdjaa
open Go.RowKit Go.Proofs.YtclbmdblalgdjaaW.PrintWords Go.Proofs.YtclbmdblalgdjaaW.PrintLast Go.Proofs.YtclbmdblalgdjaaW.PrintMore Go.Proofs.Ytclbmdblalgdjaa.PE
set_option linter.unusedVariables false
set_option linter.unusedSimpArgs false
theorem MetC.alloc {m : MetS} {Av At : Option Addr} {cv ct : Nat} {w : World} (h : MetC m Av cv At ct w) (o : Obj) : MetC m Av cv At ct (w.alloc o) := h.below (below_alloc (Below.refl _ _) _)
section
attribute [local go_sem high] eqFault
set_option maxHeartbeats 4000000 in
set_option maxRecDepth 100000 in
theorem lookname_calls (m : MetS) (Av : Option Addr) (cv : Nat) (At : Option Addr) (ct : Nat) (w : World) (hm : MetC m Av cv At ct w) : Calls Try.prog 81 #[.agg #[.string m.f0, .int .i64 m.f1, .slice Av m.f2.length cv, .int .i64 m.f3, .slice At m.f4.length ct, .int .i64 m.f5]] w fun e w' => e = .returned (.bool (metPart m 0)) ∧ Below w.heap.size w w' := by
 have HB := Aside0.mk (below_alloc (Below.refl w.heap.size w) (.cells #[.string m.f0, .int .i64 m.f1, .slice Av m.f2.length cv, .int .i64 m.f3, .slice At m.f4.length ct, .int .i64 m.f5] 131 (0, 0)))
 have HN := Aside0.mk (fun w : World => text_calls 1 m.f0 1 200 w hm.wn)
 have HE := Aside0.mk (show metPart m 0 = ((textW 1 m.f0 1 200).1 == 0 && ((textW 1 m.f0 1 200).2 == 0)) from rfl)
 clear hm
 generalize (textW 1 m.f0 1 200).1 = a at HN HE
 generalize (textW 1 m.f0 1 200).2 = b at HN HE
 go_enter Try.func81, Try.ntmps81
 go_wp2_with fail
 refine (HN.out _).mono ?_
 rintro e w1 ⟨rfl, hb⟩
 go_wp2
 go_ret
 exact ⟨by rw [HE.out]; rfl, below_step HB.out hb⟩
end
set_option maxHeartbeats 4000000 in
set_option maxRecDepth 100000 in
theorem lookkind_calls (m : MetS) (Av : Option Addr) (cv : Nat) (At : Option Addr) (ct : Nat) (w : World) (hm : MetC m Av cv At ct w) : Calls Try.prog 82 #[.agg #[.string m.f0, .int .i64 m.f1, .slice Av m.f2.length cv, .int .i64 m.f3, .slice At m.f4.length ct, .int .i64 m.f5]] w fun e w' => e = .returned (.bool (metPart m 1)) ∧ Below w.heap.size w w' := by
 have HB := Aside0.mk (below_alloc (Below.refl w.heap.size w) (.cells #[.string m.f0, .int .i64 m.f1, .slice Av m.f2.length cv, .int .i64 m.f3, .slice At m.f4.length ct, .int .i64 m.f5] 131 (0, 0)))
 have HE := Aside0.mk (show metPart m 1 = betB m.f1 1 5 from rfl)
 clear hm
 go_enter Try.func82, Try.ntmps82
 go_wp2_with fail
 with_reducible refine Calls.stepEq (mbet_calls m.f1 1 5 _) ?_
 go_wp2
 go_ret
 exact ⟨by rw [HE.out]; rfl, HB.out⟩
set_option maxHeartbeats 4000000 in
set_option maxRecDepth 100000 in
theorem looktime_calls (m : MetS) (Av : Option Addr) (cv : Nat) (At : Option Addr) (ct : Nat) (w : World) (hm : MetC m Av cv At ct w) : Calls Try.prog 86 #[.agg #[.string m.f0, .int .i64 m.f1, .slice Av m.f2.length cv, .int .i64 m.f3, .slice At m.f4.length ct, .int .i64 m.f5]] w fun e w' => e = .returned (.bool (metPart m 5)) ∧ Below w.heap.size w w' := by
 have HB := Aside0.mk (below_alloc (Below.refl w.heap.size w) (.cells #[.string m.f0, .int .i64 m.f1, .slice Av m.f2.length cv, .int .i64 m.f3, .slice At m.f4.length ct, .int .i64 m.f5] 131 (0, 0)))
 have HE := Aside0.mk (show metPart m 5 = betB m.f5 0 1099511627776 from rfl)
 clear hm
 go_enter Try.func86, Try.ntmps86
 go_wp2_with fail
 with_reducible refine Calls.stepEq (mbet_calls m.f5 0 1099511627776 _) ?_
 go_wp2
 go_ret
 exact ⟨by rw [HE.out]; rfl, HB.out⟩
set_option maxHeartbeats 4000000 in
set_option maxRecDepth 100000 in
theorem lookvalues_calls (m : MetS) (Av : Option Addr) (cv : Nat) (At : Option Addr) (ct : Nat) (w : World) (hm : MetC m Av cv At ct w) : Calls Try.prog 83 #[.agg #[.string m.f0, .int .i64 m.f1, .slice Av m.f2.length cv, .int .i64 m.f3, .slice At m.f4.length ct, .int .i64 m.f5]] w fun e w' => e = .returned (.bool (metPart m 2)) ∧ Below w.heap.size w w' := by
 have HB := Aside0.mk (below_alloc (Below.refl w.heap.size w) (.cells #[.string m.f0, .int .i64 m.f1, .slice Av m.f2.length cv, .int .i64 m.f3, .slice At m.f4.length ct, .int .i64 m.f5] 131 (0, 0)))
 have HE := Aside0.mk (show metPart m 2 = (betB m.f2.length 1 64 && !(m.f2.any decW)) from rfl)
 have HC := Aside0.mk (MetC.alloc hm (.cells #[.string m.f0, .int .i64 m.f1, .slice Av m.f2.length cv, .int .i64 m.f3, .slice At m.f4.length ct, .int .i64 m.f5] 131 (0, 0))).v
 have HW := Aside0.mk hm.wv
 clear hm
 cases hb : betB m.f2.length 1 64 with
 | false =>
  have HK := Aside0.mk hb
  clear hb
  go_enter Try.func83, Try.ntmps83
  go_wp2_with fail
  with_reducible refine Calls.stepEq (mbet_calls m.f2.length 1 64 _) ?_
  rw [HK.out]
  go_wp2
  go_ret
  exact ⟨by rw [HE.out, HK.out]; rfl, HB.out⟩
 | true =>
  have HK := Aside0.mk hb
  clear hb
  go_enter Try.func83, Try.ntmps83
  go_wp2_with fail
  with_reducible refine Calls.stepEq (mbet_calls m.f2.length 1 64 _) ?_
  rw [HK.out]
  go_wp2_with fail
  refine (vhas_calls m.f2 Av cv _ HC.out HW.out).mono ?_
  rintro e w1 ⟨rfl, hb⟩
  go_wp2
  go_ret
  exact ⟨by rw [HE.out, HK.out]; rfl, below_step HB.out hb⟩
set_option maxHeartbeats 4000000 in
set_option maxRecDepth 100000 in
theorem looktags_calls (m : MetS) (Av : Option Addr) (cv : Nat) (At : Option Addr) (ct : Nat) (w : World) (hm : MetC m Av cv At ct w) : Calls Try.prog 85 #[.agg #[.string m.f0, .int .i64 m.f1, .slice Av m.f2.length cv, .int .i64 m.f3, .slice At m.f4.length ct, .int .i64 m.f5]] w fun e w' => e = .returned (.bool (metPart m 4)) ∧ Below w.heap.size w w' := by
 have HB := Aside0.mk (below_alloc (Below.refl w.heap.size w) (.cells #[.string m.f0, .int .i64 m.f1, .slice Av m.f2.length cv, .int .i64 m.f3, .slice At m.f4.length ct, .int .i64 m.f5] 131 (0, 0)))
 have HE := Aside0.mk (show metPart m 4 = (decide ((m.f4.length : Int) ≤ 32) && !(m.f4.any tagW)) from rfl)
 have HC := Aside0.mk (MetC.alloc hm (.cells #[.string m.f0, .int .i64 m.f1, .slice Av m.f2.length cv, .int .i64 m.f3, .slice At m.f4.length ct, .int .i64 m.f5] 131 (0, 0))).t
 have HW := Aside0.mk hm.wt
 clear hm
 by_cases hl : (m.f4.length : Int) ≤ 32
 ·have hd : decide ((m.f4.length : Int) ≤ 32) = true := decide_eq_true hl
  have hd2 : decide (m.f4.length ≤ 32) = true := decide_eq_true (by omega)
  have HK := Aside0.mk hd
  clear hl
  go_enter Try.func85, Try.ntmps85
  go_wp2_with fail
  refine (thas_calls m.f4 At ct _ HC.out HW.out).mono ?_
  rintro e w1 ⟨rfl, hb⟩
  go_wp2
  go_ret
  exact ⟨by rw [HE.out, HK.out]; rfl, below_step HB.out hb⟩
 ·have hd : decide ((m.f4.length : Int) ≤ 32) = false := decide_eq_false hl
  have hd2 : decide (m.f4.length ≤ 32) = false := decide_eq_false (by omega)
  have HK := Aside0.mk hd
  clear hl
  go_enter Try.func85, Try.ntmps85
  go_wp2
  go_ret
  exact ⟨by rw [HE.out, HK.out]; rfl, HB.out⟩
set_option maxHeartbeats 4000000 in
set_option maxRecDepth 100000 in
theorem lookrate_calls (m : MetS) (Av : Option Addr) (cv : Nat) (At : Option Addr) (ct : Nat) (w : World) (hm : MetC m Av cv At ct w) : Calls Try.prog 84 #[.agg #[.string m.f0, .int .i64 m.f1, .slice Av m.f2.length cv, .int .i64 m.f3, .slice At m.f4.length ct, .int .i64 m.f5]] w fun e w' => e = .returned (.bool (metPart m 3)) ∧ Below w.heap.size w w' := by
 have HB := Aside0.mk (below_alloc (Below.refl w.heap.size w) (.cells #[.string m.f0, .int .i64 m.f1, .slice Av m.f2.length cv, .int .i64 m.f3, .slice At m.f4.length ct, .int .i64 m.f5] 131 (0, 0)))
 have HE := Aside0.mk (show metPart m 3 = (betB m.f3 1 1000000 && (m.f1 != 2 || m.f3 == 1000000)) from rfl)
 clear hm
 cases hb : betB m.f3 1 1000000 with
 | false =>
  have HK := Aside0.mk hb
  clear hb
  go_enter Try.func84, Try.ntmps84
  go_wp2_with fail
  with_reducible refine Calls.stepEq (mbet_calls m.f3 1 1000000 _) ?_
  rw [HK.out]
  go_wp2
  go_ret
  exact ⟨by rw [HE.out, HK.out]; rfl, HB.out⟩
 | true =>
  have HK := Aside0.mk hb
  clear hb
  cases hk : (m.f1 != 2) with
  | true =>
   have HQ := Aside0.mk hk
   go_enter Try.func84, Try.ntmps84
   go_wp2_with fail
   with_reducible refine Calls.stepEq (mbet_calls m.f3 1 1000000 _) ?_
   rw [HK.out]
   go_wp2
   go_ret
   exact ⟨by rw [HE.out, HK.out, HQ.out]; rfl, HB.out⟩
  | false =>
   have HQ := Aside0.mk hk
   go_enter Try.func84, Try.ntmps84
   go_wp2_with fail
   with_reducible refine Calls.stepEq (mbet_calls m.f3 1 1000000 _) ?_
   rw [HK.out]
   go_wp2
   go_ret
   exact ⟨by rw [HE.out, HK.out, HQ.out]; rfl, HB.out⟩
theorem chk0 (m : MetS) (Av : Option Addr) (cv : Nat) (At : Option Addr) (ct : Nat) (W : World) : (Instr.index 133 (.agg #[.func (.func 81) #[.agg #[.string m.f0, .int .i64 m.f1, .slice Av m.f2.length cv, .int .i64 m.f3, .slice At m.f4.length ct, .int .i64 m.f5]] #[], .int .i64 15, .func (.func 82) #[.agg #[.string m.f0, .int .i64 m.f1, .slice Av m.f2.length cv, .int .i64 m.f3, .slice At m.f4.length ct, .int .i64 m.f5]] #[], .int .i64 16, .func (.func 83) #[.agg #[.string m.f0, .int .i64 m.f1, .slice Av m.f2.length cv, .int .i64 m.f3, .slice At m.f4.length ct, .int .i64 m.f5]] #[], .int .i64 17, .func (.func 84) #[.agg #[.string m.f0, .int .i64 m.f1, .slice Av m.f2.length cv, .int .i64 m.f3, .slice At m.f4.length ct, .int .i64 m.f5]] #[], .int .i64 18, .func (.func 85) #[.agg #[.string m.f0, .int .i64 m.f1, .slice Av m.f2.length cv, .int .i64 m.f3, .slice At m.f4.length ct, .int .i64 m.f5]] #[], .int .i64 19, .func (.func 86) #[.agg #[.string m.f0, .int .i64 m.f1, .slice Av m.f2.length cv, .int .i64 m.f3, .slice At m.f4.length ct, .int .i64 m.f5]] #[], .int .i64 20]) (.int .i64 0)).run Try.prog W = .ok (.agg #[.func (.func 81) #[.agg #[.string m.f0, .int .i64 m.f1, .slice Av m.f2.length cv, .int .i64 m.f3, .slice At m.f4.length ct, .int .i64 m.f5]] #[], .int .i64 15]) W := by kernel_rfl
theorem chk1 (m : MetS) (Av : Option Addr) (cv : Nat) (At : Option Addr) (ct : Nat) (W : World) : (Instr.index 133 (.agg #[.func (.func 81) #[.agg #[.string m.f0, .int .i64 m.f1, .slice Av m.f2.length cv, .int .i64 m.f3, .slice At m.f4.length ct, .int .i64 m.f5]] #[], .int .i64 15, .func (.func 82) #[.agg #[.string m.f0, .int .i64 m.f1, .slice Av m.f2.length cv, .int .i64 m.f3, .slice At m.f4.length ct, .int .i64 m.f5]] #[], .int .i64 16, .func (.func 83) #[.agg #[.string m.f0, .int .i64 m.f1, .slice Av m.f2.length cv, .int .i64 m.f3, .slice At m.f4.length ct, .int .i64 m.f5]] #[], .int .i64 17, .func (.func 84) #[.agg #[.string m.f0, .int .i64 m.f1, .slice Av m.f2.length cv, .int .i64 m.f3, .slice At m.f4.length ct, .int .i64 m.f5]] #[], .int .i64 18, .func (.func 85) #[.agg #[.string m.f0, .int .i64 m.f1, .slice Av m.f2.length cv, .int .i64 m.f3, .slice At m.f4.length ct, .int .i64 m.f5]] #[], .int .i64 19, .func (.func 86) #[.agg #[.string m.f0, .int .i64 m.f1, .slice Av m.f2.length cv, .int .i64 m.f3, .slice At m.f4.length ct, .int .i64 m.f5]] #[], .int .i64 20]) (.int .i64 1)).run Try.prog W = .ok (.agg #[.func (.func 82) #[.agg #[.string m.f0, .int .i64 m.f1, .slice Av m.f2.length cv, .int .i64 m.f3, .slice At m.f4.length ct, .int .i64 m.f5]] #[], .int .i64 16]) W := by kernel_rfl
theorem chk2 (m : MetS) (Av : Option Addr) (cv : Nat) (At : Option Addr) (ct : Nat) (W : World) : (Instr.index 133 (.agg #[.func (.func 81) #[.agg #[.string m.f0, .int .i64 m.f1, .slice Av m.f2.length cv, .int .i64 m.f3, .slice At m.f4.length ct, .int .i64 m.f5]] #[], .int .i64 15, .func (.func 82) #[.agg #[.string m.f0, .int .i64 m.f1, .slice Av m.f2.length cv, .int .i64 m.f3, .slice At m.f4.length ct, .int .i64 m.f5]] #[], .int .i64 16, .func (.func 83) #[.agg #[.string m.f0, .int .i64 m.f1, .slice Av m.f2.length cv, .int .i64 m.f3, .slice At m.f4.length ct, .int .i64 m.f5]] #[], .int .i64 17, .func (.func 84) #[.agg #[.string m.f0, .int .i64 m.f1, .slice Av m.f2.length cv, .int .i64 m.f3, .slice At m.f4.length ct, .int .i64 m.f5]] #[], .int .i64 18, .func (.func 85) #[.agg #[.string m.f0, .int .i64 m.f1, .slice Av m.f2.length cv, .int .i64 m.f3, .slice At m.f4.length ct, .int .i64 m.f5]] #[], .int .i64 19, .func (.func 86) #[.agg #[.string m.f0, .int .i64 m.f1, .slice Av m.f2.length cv, .int .i64 m.f3, .slice At m.f4.length ct, .int .i64 m.f5]] #[], .int .i64 20]) (.int .i64 2)).run Try.prog W = .ok (.agg #[.func (.func 83) #[.agg #[.string m.f0, .int .i64 m.f1, .slice Av m.f2.length cv, .int .i64 m.f3, .slice At m.f4.length ct, .int .i64 m.f5]] #[], .int .i64 17]) W := by kernel_rfl
theorem chk3 (m : MetS) (Av : Option Addr) (cv : Nat) (At : Option Addr) (ct : Nat) (W : World) : (Instr.index 133 (.agg #[.func (.func 81) #[.agg #[.string m.f0, .int .i64 m.f1, .slice Av m.f2.length cv, .int .i64 m.f3, .slice At m.f4.length ct, .int .i64 m.f5]] #[], .int .i64 15, .func (.func 82) #[.agg #[.string m.f0, .int .i64 m.f1, .slice Av m.f2.length cv, .int .i64 m.f3, .slice At m.f4.length ct, .int .i64 m.f5]] #[], .int .i64 16, .func (.func 83) #[.agg #[.string m.f0, .int .i64 m.f1, .slice Av m.f2.length cv, .int .i64 m.f3, .slice At m.f4.length ct, .int .i64 m.f5]] #[], .int .i64 17, .func (.func 84) #[.agg #[.string m.f0, .int .i64 m.f1, .slice Av m.f2.length cv, .int .i64 m.f3, .slice At m.f4.length ct, .int .i64 m.f5]] #[], .int .i64 18, .func (.func 85) #[.agg #[.string m.f0, .int .i64 m.f1, .slice Av m.f2.length cv, .int .i64 m.f3, .slice At m.f4.length ct, .int .i64 m.f5]] #[], .int .i64 19, .func (.func 86) #[.agg #[.string m.f0, .int .i64 m.f1, .slice Av m.f2.length cv, .int .i64 m.f3, .slice At m.f4.length ct, .int .i64 m.f5]] #[], .int .i64 20]) (.int .i64 3)).run Try.prog W = .ok (.agg #[.func (.func 84) #[.agg #[.string m.f0, .int .i64 m.f1, .slice Av m.f2.length cv, .int .i64 m.f3, .slice At m.f4.length ct, .int .i64 m.f5]] #[], .int .i64 18]) W := by kernel_rfl
theorem chk4 (m : MetS) (Av : Option Addr) (cv : Nat) (At : Option Addr) (ct : Nat) (W : World) : (Instr.index 133 (.agg #[.func (.func 81) #[.agg #[.string m.f0, .int .i64 m.f1, .slice Av m.f2.length cv, .int .i64 m.f3, .slice At m.f4.length ct, .int .i64 m.f5]] #[], .int .i64 15, .func (.func 82) #[.agg #[.string m.f0, .int .i64 m.f1, .slice Av m.f2.length cv, .int .i64 m.f3, .slice At m.f4.length ct, .int .i64 m.f5]] #[], .int .i64 16, .func (.func 83) #[.agg #[.string m.f0, .int .i64 m.f1, .slice Av m.f2.length cv, .int .i64 m.f3, .slice At m.f4.length ct, .int .i64 m.f5]] #[], .int .i64 17, .func (.func 84) #[.agg #[.string m.f0, .int .i64 m.f1, .slice Av m.f2.length cv, .int .i64 m.f3, .slice At m.f4.length ct, .int .i64 m.f5]] #[], .int .i64 18, .func (.func 85) #[.agg #[.string m.f0, .int .i64 m.f1, .slice Av m.f2.length cv, .int .i64 m.f3, .slice At m.f4.length ct, .int .i64 m.f5]] #[], .int .i64 19, .func (.func 86) #[.agg #[.string m.f0, .int .i64 m.f1, .slice Av m.f2.length cv, .int .i64 m.f3, .slice At m.f4.length ct, .int .i64 m.f5]] #[], .int .i64 20]) (.int .i64 4)).run Try.prog W = .ok (.agg #[.func (.func 85) #[.agg #[.string m.f0, .int .i64 m.f1, .slice Av m.f2.length cv, .int .i64 m.f3, .slice At m.f4.length ct, .int .i64 m.f5]] #[], .int .i64 19]) W := by kernel_rfl
theorem chk5 (m : MetS) (Av : Option Addr) (cv : Nat) (At : Option Addr) (ct : Nat) (W : World) : (Instr.index 133 (.agg #[.func (.func 81) #[.agg #[.string m.f0, .int .i64 m.f1, .slice Av m.f2.length cv, .int .i64 m.f3, .slice At m.f4.length ct, .int .i64 m.f5]] #[], .int .i64 15, .func (.func 82) #[.agg #[.string m.f0, .int .i64 m.f1, .slice Av m.f2.length cv, .int .i64 m.f3, .slice At m.f4.length ct, .int .i64 m.f5]] #[], .int .i64 16, .func (.func 83) #[.agg #[.string m.f0, .int .i64 m.f1, .slice Av m.f2.length cv, .int .i64 m.f3, .slice At m.f4.length ct, .int .i64 m.f5]] #[], .int .i64 17, .func (.func 84) #[.agg #[.string m.f0, .int .i64 m.f1, .slice Av m.f2.length cv, .int .i64 m.f3, .slice At m.f4.length ct, .int .i64 m.f5]] #[], .int .i64 18, .func (.func 85) #[.agg #[.string m.f0, .int .i64 m.f1, .slice Av m.f2.length cv, .int .i64 m.f3, .slice At m.f4.length ct, .int .i64 m.f5]] #[], .int .i64 19, .func (.func 86) #[.agg #[.string m.f0, .int .i64 m.f1, .slice Av m.f2.length cv, .int .i64 m.f3, .slice At m.f4.length ct, .int .i64 m.f5]] #[], .int .i64 20]) (.int .i64 5)).run Try.prog W = .ok (.agg #[.func (.func 86) #[.agg #[.string m.f0, .int .i64 m.f1, .slice Av m.f2.length cv, .int .i64 m.f3, .slice At m.f4.length ct, .int .i64 m.f5]] #[], .int .i64 20]) W := by kernel_rfl
set_option maxHeartbeats 8000000 in
set_option maxRecDepth 100000 in
theorem mcheck_calls (m : MetS) (Av : Option Addr) (cv : Nat) (At : Option Addr) (ct : Nat) (w : World) (hm : MetC m Av cv At ct w) : Calls Try.prog 37 #[.agg #[.string m.f0, .int .i64 m.f1, .slice Av m.f2.length cv, .int .i64 m.f3, .slice At m.f4.length ct, .int .i64 m.f5]] w fun e w' => e = .returned (.int .i64 (metBad m)) ∧ Below w.heap.size w w' := by
 have HM := Aside0.mk hm
 clear hm
 go_enter Try.func37, Try.ntmps37
 go_wp2
 go_loopw [27] (fun v27 w' => ∃ x : Nat, v27 = .int .i64 (x : Int) ∧ x ≤ 6 ∧ Aside0 (∀ j, j < x → metPart m j = true) ∧ Aside0 (Below w.heap.size w w')) (fun v27 _ => 6 - (intOf v27).toNat)
 case atStart => exact ⟨0, rfl, by omega, ⟨fun j hj => absurd hj (by omega)⟩, ⟨by with_reducible repeat (first | exact Below.refl _ _ | apply below_alloc | apply pw_below_drewN | apply below_drew1 | refine Below.setCell ?_ (by simp) _)⟩⟩
 case round =>
  obtain ⟨x, rfl, hx, HP, HB⟩ := hrel
  rcases (show x = 0 ∨ x = 1 ∨ x = 2 ∨ x = 3 ∨ x = 4 ∨ x = 5 ∨ x = 6 by omega) with rfl | rfl | rfl | rfl | rfl | rfl | rfl
  ·clear hx
   have hi := chk0 m Av cv At ct
   have HM2 := Aside0.mk (MetC.alloc (MetC.below HM.out HB.out) (.cells #[.func (.func 81) #[.agg #[.string m.f0, .int .i64 m.f1, .slice Av m.f2.length cv, .int .i64 m.f3, .slice At m.f4.length ct, .int .i64 m.f5]] #[], .int .i64 15] 132 (0, 0)))
   have HB2 := Aside0.mk (below_alloc HB.out (.cells #[.func (.func 81) #[.agg #[.string m.f0, .int .i64 m.f1, .slice Av m.f2.length cv, .int .i64 m.f3, .slice At m.f4.length ct, .int .i64 m.f5]] #[], .int .i64 15] 132 (0, 0)))
   have HX := Aside0.mk (blk_new wr (.cells #[.func (.func 81) #[.agg #[.string m.f0, .int .i64 m.f1, .slice Av m.f2.length cv, .int .i64 m.f3, .slice At m.f4.length ct, .int .i64 m.f5]] #[], .int .i64 15] 132 (0, 0)))
   go_wp2_with fail
   with_reducible refine (lookname_calls m Av cv At ct _ HM2.out).mono ?_
   rintro e w1 ⟨rfl, hb⟩
   have HB3 := Aside0.mk (below_step HB2.out hb)
   have hc1 : w1.cell? ⟨wr.heap.size, 1, none⟩ = some (.int .i64 15) := (blk_cell (blk_below HX.out hb) 1).trans rfl
   clear hb HM2 HB2 HX hi
   cases hp : metPart m 0 with
   | false =>
    have HE := Aside0.mk (metBad_at m 0 (by omega) HP.out hp)
    clear hp
    go_wp2
    go_ret
    exact ⟨by rw [HE.out]; rfl, HB3.out⟩
   | true =>
    have HP2 := Aside0.mk (show ∀ j, j < 1 → metPart m j = true from fun j hj => by
     rcases Nat.lt_or_eq_of_le (Nat.le_of_lt_succ hj) with h | h
     ·exact HP.out j h
     ·rw [h]; exact hp)
    clear hp
    go_wp2
    go_roundw
    case rel => exact ⟨1, by go_num, by omega, HP2, HB3⟩
    case measure => simp [intOf]
  ·clear hx
   have hi := chk1 m Av cv At ct
   have HM2 := Aside0.mk (MetC.alloc (MetC.below HM.out HB.out) (.cells #[.func (.func 82) #[.agg #[.string m.f0, .int .i64 m.f1, .slice Av m.f2.length cv, .int .i64 m.f3, .slice At m.f4.length ct, .int .i64 m.f5]] #[], .int .i64 16] 132 (0, 0)))
   have HB2 := Aside0.mk (below_alloc HB.out (.cells #[.func (.func 82) #[.agg #[.string m.f0, .int .i64 m.f1, .slice Av m.f2.length cv, .int .i64 m.f3, .slice At m.f4.length ct, .int .i64 m.f5]] #[], .int .i64 16] 132 (0, 0)))
   have HX := Aside0.mk (blk_new wr (.cells #[.func (.func 82) #[.agg #[.string m.f0, .int .i64 m.f1, .slice Av m.f2.length cv, .int .i64 m.f3, .slice At m.f4.length ct, .int .i64 m.f5]] #[], .int .i64 16] 132 (0, 0)))
   go_wp2_with fail
   with_reducible refine (lookkind_calls m Av cv At ct _ HM2.out).mono ?_
   rintro e w1 ⟨rfl, hb⟩
   have HB3 := Aside0.mk (below_step HB2.out hb)
   have hc1 : w1.cell? ⟨wr.heap.size, 1, none⟩ = some (.int .i64 16) := (blk_cell (blk_below HX.out hb) 1).trans rfl
   clear hb HM2 HB2 HX hi
   cases hp : metPart m 1 with
   | false =>
    have HE := Aside0.mk (metBad_at m 1 (by omega) HP.out hp)
    clear hp
    go_wp2
    go_ret
    exact ⟨by rw [HE.out]; rfl, HB3.out⟩
   | true =>
    have HP2 := Aside0.mk (show ∀ j, j < 2 → metPart m j = true from fun j hj => by
     rcases Nat.lt_or_eq_of_le (Nat.le_of_lt_succ hj) with h | h
     ·exact HP.out j h
     ·rw [h]; exact hp)
    clear hp
    go_wp2
    go_roundw
    case rel => exact ⟨2, by go_num, by omega, HP2, HB3⟩
    case measure => simp [intOf]
  ·clear hx
   have hi := chk2 m Av cv At ct
   have HM2 := Aside0.mk (MetC.alloc (MetC.below HM.out HB.out) (.cells #[.func (.func 83) #[.agg #[.string m.f0, .int .i64 m.f1, .slice Av m.f2.length cv, .int .i64 m.f3, .slice At m.f4.length ct, .int .i64 m.f5]] #[], .int .i64 17] 132 (0, 0)))
   have HB2 := Aside0.mk (below_alloc HB.out (.cells #[.func (.func 83) #[.agg #[.string m.f0, .int .i64 m.f1, .slice Av m.f2.length cv, .int .i64 m.f3, .slice At m.f4.length ct, .int .i64 m.f5]] #[], .int .i64 17] 132 (0, 0)))
   have HX := Aside0.mk (blk_new wr (.cells #[.func (.func 83) #[.agg #[.string m.f0, .int .i64 m.f1, .slice Av m.f2.length cv, .int .i64 m.f3, .slice At m.f4.length ct, .int .i64 m.f5]] #[], .int .i64 17] 132 (0, 0)))
   go_wp2_with fail
   with_reducible refine (lookvalues_calls m Av cv At ct _ HM2.out).mono ?_
   rintro e w1 ⟨rfl, hb⟩
   have HB3 := Aside0.mk (below_step HB2.out hb)
   have hc1 : w1.cell? ⟨wr.heap.size, 1, none⟩ = some (.int .i64 17) := (blk_cell (blk_below HX.out hb) 1).trans rfl
   clear hb HM2 HB2 HX hi
   cases hp : metPart m 2 with
   | false =>
    have HE := Aside0.mk (metBad_at m 2 (by omega) HP.out hp)
    clear hp
    go_wp2
    go_ret
    exact ⟨by rw [HE.out]; rfl, HB3.out⟩
   | true =>
    have HP2 := Aside0.mk (show ∀ j, j < 3 → metPart m j = true from fun j hj => by
     rcases Nat.lt_or_eq_of_le (Nat.le_of_lt_succ hj) with h | h
     ·exact HP.out j h
     ·rw [h]; exact hp)
    clear hp
    go_wp2
    go_roundw
    case rel => exact ⟨3, by go_num, by omega, HP2, HB3⟩
    case measure => simp [intOf]
  ·clear hx
   have hi := chk3 m Av cv At ct
   have HM2 := Aside0.mk (MetC.alloc (MetC.below HM.out HB.out) (.cells #[.func (.func 84) #[.agg #[.string m.f0, .int .i64 m.f1, .slice Av m.f2.length cv, .int .i64 m.f3, .slice At m.f4.length ct, .int .i64 m.f5]] #[], .int .i64 18] 132 (0, 0)))
   have HB2 := Aside0.mk (below_alloc HB.out (.cells #[.func (.func 84) #[.agg #[.string m.f0, .int .i64 m.f1, .slice Av m.f2.length cv, .int .i64 m.f3, .slice At m.f4.length ct, .int .i64 m.f5]] #[], .int .i64 18] 132 (0, 0)))
   have HX := Aside0.mk (blk_new wr (.cells #[.func (.func 84) #[.agg #[.string m.f0, .int .i64 m.f1, .slice Av m.f2.length cv, .int .i64 m.f3, .slice At m.f4.length ct, .int .i64 m.f5]] #[], .int .i64 18] 132 (0, 0)))
   go_wp2_with fail
   with_reducible refine (lookrate_calls m Av cv At ct _ HM2.out).mono ?_
   rintro e w1 ⟨rfl, hb⟩
   have HB3 := Aside0.mk (below_step HB2.out hb)
   have hc1 : w1.cell? ⟨wr.heap.size, 1, none⟩ = some (.int .i64 18) := (blk_cell (blk_below HX.out hb) 1).trans rfl
   clear hb HM2 HB2 HX hi
   cases hp : metPart m 3 with
   | false =>
    have HE := Aside0.mk (metBad_at m 3 (by omega) HP.out hp)
    clear hp
    go_wp2
    go_ret
    exact ⟨by rw [HE.out]; rfl, HB3.out⟩
   | true =>
    have HP2 := Aside0.mk (show ∀ j, j < 4 → metPart m j = true from fun j hj => by
     rcases Nat.lt_or_eq_of_le (Nat.le_of_lt_succ hj) with h | h
     ·exact HP.out j h
     ·rw [h]; exact hp)
    clear hp
    go_wp2
    go_roundw
    case rel => exact ⟨4, by go_num, by omega, HP2, HB3⟩
    case measure => simp [intOf]
  ·clear hx
   have hi := chk4 m Av cv At ct
   have HM2 := Aside0.mk (MetC.alloc (MetC.below HM.out HB.out) (.cells #[.func (.func 85) #[.agg #[.string m.f0, .int .i64 m.f1, .slice Av m.f2.length cv, .int .i64 m.f3, .slice At m.f4.length ct, .int .i64 m.f5]] #[], .int .i64 19] 132 (0, 0)))
   have HB2 := Aside0.mk (below_alloc HB.out (.cells #[.func (.func 85) #[.agg #[.string m.f0, .int .i64 m.f1, .slice Av m.f2.length cv, .int .i64 m.f3, .slice At m.f4.length ct, .int .i64 m.f5]] #[], .int .i64 19] 132 (0, 0)))
   have HX := Aside0.mk (blk_new wr (.cells #[.func (.func 85) #[.agg #[.string m.f0, .int .i64 m.f1, .slice Av m.f2.length cv, .int .i64 m.f3, .slice At m.f4.length ct, .int .i64 m.f5]] #[], .int .i64 19] 132 (0, 0)))
   go_wp2_with fail
   with_reducible refine (looktags_calls m Av cv At ct _ HM2.out).mono ?_
   rintro e w1 ⟨rfl, hb⟩
   have HB3 := Aside0.mk (below_step HB2.out hb)
   have hc1 : w1.cell? ⟨wr.heap.size, 1, none⟩ = some (.int .i64 19) := (blk_cell (blk_below HX.out hb) 1).trans rfl
   clear hb HM2 HB2 HX hi
   cases hp : metPart m 4 with
   | false =>
    have HE := Aside0.mk (metBad_at m 4 (by omega) HP.out hp)
    clear hp
    go_wp2
    go_ret
    exact ⟨by rw [HE.out]; rfl, HB3.out⟩
   | true =>
    have HP2 := Aside0.mk (show ∀ j, j < 5 → metPart m j = true from fun j hj => by
     rcases Nat.lt_or_eq_of_le (Nat.le_of_lt_succ hj) with h | h
     ·exact HP.out j h
     ·rw [h]; exact hp)
    clear hp
    go_wp2
    go_roundw
    case rel => exact ⟨5, by go_num, by omega, HP2, HB3⟩
    case measure => simp [intOf]
  ·clear hx
   have hi := chk5 m Av cv At ct
   have HM2 := Aside0.mk (MetC.alloc (MetC.below HM.out HB.out) (.cells #[.func (.func 86) #[.agg #[.string m.f0, .int .i64 m.f1, .slice Av m.f2.length cv, .int .i64 m.f3, .slice At m.f4.length ct, .int .i64 m.f5]] #[], .int .i64 20] 132 (0, 0)))
   have HB2 := Aside0.mk (below_alloc HB.out (.cells #[.func (.func 86) #[.agg #[.string m.f0, .int .i64 m.f1, .slice Av m.f2.length cv, .int .i64 m.f3, .slice At m.f4.length ct, .int .i64 m.f5]] #[], .int .i64 20] 132 (0, 0)))
   have HX := Aside0.mk (blk_new wr (.cells #[.func (.func 86) #[.agg #[.string m.f0, .int .i64 m.f1, .slice Av m.f2.length cv, .int .i64 m.f3, .slice At m.f4.length ct, .int .i64 m.f5]] #[], .int .i64 20] 132 (0, 0)))
   go_wp2_with fail
   with_reducible refine (looktime_calls m Av cv At ct _ HM2.out).mono ?_
   rintro e w1 ⟨rfl, hb⟩
   have HB3 := Aside0.mk (below_step HB2.out hb)
   have hc1 : w1.cell? ⟨wr.heap.size, 1, none⟩ = some (.int .i64 20) := (blk_cell (blk_below HX.out hb) 1).trans rfl
   clear hb HM2 HB2 HX hi
   cases hp : metPart m 5 with
   | false =>
    have HE := Aside0.mk (metBad_at m 5 (by omega) HP.out hp)
    clear hp
    go_wp2
    go_ret
    exact ⟨by rw [HE.out]; rfl, HB3.out⟩
   | true =>
    have HP2 := Aside0.mk (show ∀ j, j < 6 → metPart m j = true from fun j hj => by
     rcases Nat.lt_or_eq_of_le (Nat.le_of_lt_succ hj) with h | h
     ·exact HP.out j h
     ·rw [h]; exact hp)
    clear hp
    go_wp2
    go_roundw
    case rel => exact ⟨6, by go_num, by omega, HP2, HB3⟩
    case measure => simp [intOf]
  ·have HE := Aside0.mk (metBad_ok m HP.out)
   clear hx
   go_wp2
   go_ret
   exact ⟨by rw [HE.out]; rfl, HB.out⟩
end Go.Proofs.Ytclbmdblalgdjaa
/- The contract of package metric's Check in the printed form; no condition. -/
namespace Go.Proofs.Ytclbmdblalgdjaa.PE
open Go.RowKit Go.Proofs.YtclbmdblalgdjaaW.PrintWords Go.Proofs.YtclbmdblalgdjaaW.PrintLast Go.Proofs.YtclbmdblalgdjaaW.PrintMore
set_option linter.unusedVariables false
set_option linter.unusedSimpArgs false
def decIn (d : S48) : Bool := (decide (0 ≤ d.f1) && decide (d.f1 < 18446744073709551616)) && (decide (-9223372036854775808 ≤ d.f2) && decide (d.f2 ≤ 9223372036854775807))
def tagIn (t : S81) : Bool := decide (t.f0.size ≤ 9223372036854775807) && decide (t.f1.size ≤ 9223372036854775807)
def metIn (m : S26) : Bool := decide (m.f0.size ≤ 9223372036854775807) && (m.f2.all decIn && m.f4.all tagIn)
theorem metC_of {m : S26} {Av At : Option Addr} {cv ct : Nat} {w : World} (hv : Kd.C k48 w Av m.f2.length m.f2) (hvc : m.f2.length ≤ cv) (ht : Kd.C k81 w At m.f4.length m.f4) (htc : m.f4.length ≤ ct) (h : metIn m = true) : MetC m Av cv At ct w := by
 unfold metIn at h
 simp only [Bool.and_eq_true, decide_eq_true_eq, List.all_eq_true] at h
 refine ⟨hv, hvc, ht, htc, fun x hx => ?_, fun x hx => ?_, h.1⟩
 ·have := h.2.1 x hx
  unfold decIn at this
  simp only [Bool.and_eq_true, decide_eq_true_eq] at this
  exact this.1
 ·have := h.2.2 x hx
  unfold tagIn at this
  simpa using this
def metric_Check.f (a0_0 : ByteArray) (a0_1 : Int) (l0_2 : List S48) (a0_3 : Int) (l0_4 : List S81) (a0_5 : Int) : Option Int := if metIn (⟨a0_0, a0_1, l0_2, a0_3, l0_4, a0_5⟩ : S26) = true then some (metBad (⟨a0_0, a0_1, l0_2, a0_3, l0_4, a0_5⟩ : S26)) else none
theorem metric_Check.calls (a0_0 : ByteArray) (a0_1 : Int) (A0_2 : Option Addr) (c0_2 : Nat) (l0_2 : List S48) (a0_3 : Int) (A0_4 : Option Addr) (c0_4 : Nat) (l0_4 : List S81) (a0_5 : Int) (r : Int) (w : World) (hr0_2 : Kd.C k48 w A0_2 l0_2.length l0_2) (hc0_2 : l0_2.length ≤ c0_2) (hr0_4 : Kd.C k81 w A0_4 l0_4.length l0_4) (hc0_4 : l0_4.length ≤ c0_4) (h : metric_Check.f a0_0 a0_1 l0_2 a0_3 l0_4 a0_5 = some r) :
  Calls Try.prog 37 #[.agg #[.string a0_0, .int .i64 a0_1, .slice A0_2 l0_2.length c0_2, .int .i64 a0_3, .slice A0_4 l0_4.length c0_4, .int .i64 a0_5]] w fun e w' => e = .returned (.int .i64 r) ∧ Below w.heap.size w w' := by
 unfold metric_Check.f at h
 split at h
 ·rename_i hq
  cases h
  exact mcheck_calls (⟨a0_0, a0_1, l0_2, a0_3, l0_4, a0_5⟩ : S26) A0_2 c0_2 A0_4 c0_4 w (metC_of hr0_2 hc0_2 hr0_4 hc0_4 hq)
 ·cases h
def forebayref04_Text.f (a0 : Int) (a1 : ByteArray) (a2 : Int) (a3 : Int) : Option (Int × Int) := if betB a0 1 4 = true ∧ (0 ≤ a2 ∧ a2 ≤ a3) ∧ a1.size ≤ 9223372036854775807 then some (textW a0 a1 a2 a3) else none
end Go.Proofs.Ytclbmdblalgdjaa.PE
/- What the laws' rows open: a slice of whole numbers that came in; no condition. -/
namespace Go.Proofs.Ytclbmdblalgdjaa
open Go.RowKit Go.ChangeShapes Go.WideShapes Go.Proofs.YtclbmdblalgdjaaW.PrintWords
theorem open_row {H : Type} {enc : TypeId × Value → H} {P : Program} {W : World} {base : Nat} {spare : Nat → Bool} {held : Bool} {t e : TypeId} {k : IntKind} {a : Option Addr} {len cap : Nat} {d : DataW H} {ps : List MemPlace}
  (hu : P.underlying t = some (.slice e)) (he : P.underlying e = some (.int k)) (hc : P.cellsOf e = 1) (hb : len ≤ 9223372036854775807) (h : DataW.Trod enc P W base spare held t (.slice a len cap) d ps) :
  ∃ xs : List Int, (Kd.int k).C W a len xs ∧ (∀ x ∈ xs, (Lit.int k x).wf = true) ∧ len ≤ cap := by
 obtain ⟨fuel, hf⟩ := h
 rcases open_ints hu he hc hf with ⟨hcs, _⟩ | ⟨x, l, c, zs, hcs, _, hl, hm, hz, _, hcell, hwz⟩
 ·simp [Value.cells] at hcs
  obtain ⟨rfl, rfl, rfl⟩ := hcs
  exact ⟨[], Kd.C_nil _ _, by simp, Nat.le_refl _⟩
 ·simp [Value.cells] at hcs
  obtain ⟨rfl, rfl, rfl⟩ := hcs
  have hz' : len ≤ zs.length := by
   rw [hz]
   split
   ·exact hl
   ·exact Nat.le_refl _
  refine ⟨zs.take len, Kd.C_of_reads (enc := Value.int k) (d := (0 : Int)) (h1 := fun _ => rfl) ⟨by simp; omega, hb, fun _ => ⟨_, rfl, fun j hj => ?_⟩⟩, fun y hy => hwz y (List.mem_of_mem_take hy), hl⟩
  rw [hcell j (by omega)]
  congr 2
  rw [List.getD_eq_getElem?_getD, List.getD_eq_getElem?_getD, List.getElem?_take_of_lt hj]
theorem open_srow {H : Type} {enc : TypeId × Value → H} {P : Program} {W : World} {base : Nat} {spare : Nat → Bool} {held : Bool} {t e : TypeId} {a : Option Addr} {len cap : Nat} {d : DataW H} {ps : List MemPlace}
  (hu : P.underlying t = some (.slice e)) (he : P.underlying e = some .string) (hc : P.cellsOf e = 1) (hb : len ≤ 9223372036854775807) (h : DataW.Trod enc P W base spare held t (.slice a len cap) d ps) :
  ∃ xs : List ByteArray, Kd.string.C W a len xs ∧ (∀ x ∈ xs, x.size ≤ 9223372036854775807) ∧ len ≤ cap := by
 obtain ⟨fuel, hf⟩ := h
 rcases open_strings hu he hc hf with ⟨hcs, _⟩ | ⟨x, l, c, zs, hcs, _, hl, hm, hz, _, hcell, hwz⟩
 ·simp [Value.cells] at hcs
  obtain ⟨rfl, rfl, rfl⟩ := hcs
  exact ⟨[], Kd.C_nil _ _, by simp, Nat.le_refl _⟩
 ·simp [Value.cells] at hcs
  obtain ⟨rfl, rfl, rfl⟩ := hcs
  have hz' : len ≤ zs.length := by
   rw [hz]
   split
   ·exact hl
   ·exact Nat.le_refl _
  refine ⟨zs.take len, Kd.C_of_reads (enc := Value.string) (d := ByteArray.empty) (h1 := fun _ => rfl) ⟨by simp; omega, hb, fun _ => ⟨_, rfl, fun j hj => ?_⟩⟩, fun y hy => by have := hwz y (List.mem_of_mem_take hy); simpa [maxLen] using this, hl⟩
  rw [hcell j (by omega)]
  congr 2
  rw [List.getD_eq_getElem?_getD, List.getD_eq_getElem?_getD, List.getElem?_take_of_lt hj]
theorem sized_strs {H : Type} {enc : TypeId × Value → H} {P : Program} {W : World} {base : Nat} {spare : Nat → Bool} {held : Bool} {t e : TypeId} {a : Option Addr} {len cap : Nat} {d : DataW H} {ps : List MemPlace} {ts : List TypeId} {ds : List (DataW H)} {j : Nat}
  (hsz : (DataW.weightsEach P ts ds).all (· ≤ reachBytes) = true) (ht : ts[j]? = some t) (hd : ds[j]? = some d) (hu : P.underlying t = some (.slice e)) (he : P.underlying e = some .string) (hc : P.cellsOf e = 1) {B : Nat} (hB : P.bytesOf e = B)
  (h : DataW.Trod enc P W base spare held t (.slice a len cap) d ps) : len * B ≤ 140737488351232 := by
 obtain ⟨fuel, hf⟩ := h
 rcases open_strings hu he hc hf with ⟨hcs, _⟩ | ⟨x, l, c, zs, hcs, _, hl, _, hz, hx, _, _⟩
 ·simp [Value.cells] at hcs
  obtain ⟨rfl, rfl, rfl⟩ := hcs
  simp
 ·simp [Value.cells] at hcs
  obtain ⟨rfl, rfl, rfl⟩ := hcs
  obtain ⟨hx, _⟩ := Prod.mk.inj hx
  subst hx
  have z := sized_slice hsz ht hd hu
  rw [hB] at z
  have hl2 : len ≤ zs.length := by
   rw [hz]
   split
   ·exact hl
   ·exact Nat.le_refl _
  have h1 : (strs (H := H) (zs.take len)).length + (strs (H := H) (zs.drop len)).length = zs.length := by
   simp [strs]
   omega
  rw [h1] at z
  exact Nat.le_trans (Nat.mul_le_mul_right _ hl2) z
theorem bytes_of_wf {xs : List Int} (h : ∀ x ∈ xs, (Lit.int .u8 x).wf = true) : ∀ x ∈ xs, 0 ≤ x ∧ x < 256 := fun x hx => by
 have := bounds_u8 (h x hx)
 omega
end Go.Proofs.Ytclbmdblalgdjaa
/- What the laws' rows open: a struct of slices of structs, by value; no condition. -/
namespace Go.Proofs.Ytclbmdblalgdjaa
open Go.RowKit Go.ChangeShapes Go.WideShapes Go.Proofs.YtclbmdblalgdjaaW.PrintWords
section
variable {H : Type} {enc : TypeId × Value → H} {P : Program} {w : World} {base b0 : Nat} {spare : Nat → Bool} {held : Bool} {t e f : TypeId} {v : Value} {d : DataW H} {ps : List MemPlace} {r : Reach}
theorem one_bool {n : Nat} {cs : List Value} {y : DataW H × List MemPlace} (hu : P.underlying t = some .bool) (h : DataW.trod enc P w base spare held n t cs = some y) : ∃ b, cs = [.bool b] := by
 cases n with
 | zero => simp [DataW.trod] at h
 | succ n =>
  unfold DataW.trod at h
  rw [hu] at h
  split at h <;> simp_all
theorem one_int {k : IntKind} {n : Nat} {cs : List Value} {y : DataW H × List MemPlace} (hu : P.underlying t = some (.int k)) (h : DataW.trod enc P w base spare held n t cs = some y) : ∃ x, cs = [.int k x] ∧ (Lit.int k x).wf = true := by
 cases n with
 | zero => simp [DataW.trod] at h
 | succ n =>
  unfold DataW.trod at h
  rw [hu] at h
  split at h <;> simp_all
theorem one_str {n : Nat} {cs : List Value} {y : DataW H × List MemPlace} (hu : P.underlying t = some .string) (h : DataW.trod enc P w base spare held n t cs = some y) : ∃ s, cs = [.string s] ∧ s.size ≤ maxLen := by
 cases n with
 | zero => simp [DataW.trod] at h
 | succ n =>
  unfold DataW.trod at h
  rw [hu] at h
  split at h <;> simp_all
theorem one_rowK {α : Type} {dk : Kd α} (z : α) {Q : α → Prop} (hu : P.underlying t = some (.slice e)) (hc : P.cellsOf e = dk.sz)
  (hel : ∀ n cs y, DataW.trod enc P w base spare held n e cs = some y → ∃ x, dk.K w x cs ∧ Q x) {n : Nat} {cs : List Value} {y : DataW H × List MemPlace} (h : DataW.trod enc P w base spare held n t cs = some y) :
  ∃ A c, ∃ xs : List α, cs = [.slice A xs.length c] ∧ dk.C w A xs.length xs ∧ (∀ x ∈ xs, Q x) ∧ xs.length ≤ c ∧ xs.length ≤ maxLen := by
 rcases Deep.open_slice hu h with ⟨rfl, _⟩ | ⟨a, len, cap, m, n1, D, Pl, rfl, _, hl, hm, hmm, _, hx⟩
 ·exact ⟨none, 0, [], rfl, Kd.C_nil _ _, by simp, Nat.le_refl _, by simp⟩
 have hlm : len ≤ m := by rw [hmm]; split <;> omega
 have : Inhabited α := ⟨z⟩
 obtain ⟨X, hX⟩ := Deep.choose_lt (α := α) (n := len) (p := fun i x => Q x ∧ ∃ c, c.length = dk.sz ∧ dk.K w x c ∧ ∀ j u, c[j]? = some u → w.cell? (a.add (i * dk.sz + j)) = some u) (fun i hi => by
  obtain ⟨cs', h1, h2⟩ := hx i (by omega)
  obtain ⟨x, hK, hQ⟩ := hel _ _ _ h2
  rw [hc] at h1
  obtain ⟨_, hlen, hcell⟩ := World.cells?_some h1
  refine ⟨x, hQ, cs', hlen, hK, fun j u hj => ?_⟩
  have hjl : j < dk.sz := by
   obtain ⟨hj', _⟩ := List.getElem?_eq_some_iff.1 hj
   omega
  have := hcell j hjl
  rw [Deep.add_add] at this
  rw [this, hj])
 refine ⟨some a, cap, (List.range len).map X, by simp, ⟨rfl, by simp only [maxLen] at hm; simp; omega, fun _ => ⟨a, rfl, fun j p hj => ?_⟩⟩, ?_, by simpa using hl, by simp; omega⟩
 ·obtain ⟨hj', rfl⟩ := List.getElem?_eq_some_iff.1 hj
  have hj2 : j < len := by simpa using hj'
  obtain ⟨_, c, h1, h2, h3⟩ := hX j hj2
  simp only [List.getElem_map, List.getElem_range]
  exact ⟨c, h1, h2, h3⟩
 ·intro x hxm
  obtain ⟨i, hi, rfl⟩ := List.mem_map.1 hxm
  exact (hX i (List.mem_range.1 hi)).1
end
end Go.Proofs.Ytclbmdblalgdjaa
/- What the laws' rows open: a metric, by value or in a row; no condition. -/
namespace Go.Proofs.Ytclbmdblalgdjaa
open Go.RowKit Go.ChangeShapes Go.WideShapes Go.Deep Go.Proofs.YtclbmdblalgdjaaW.PrintWords Go.Proofs.Ytclbmdblalgdjaa.PE
set_option linter.unusedVariables false
section
variable {H : Type} {enc : TypeId × Value → H} {P : Program} {w : World} {base b0 : Nat} {spare : Nat → Bool} {held : Bool} {t e : TypeId} {v : Value} {d : DataW H} {ps : List MemPlace} {r : Reach}
theorem fields_of {fs : Array Field} {fuel : Nat} {cs : List Value} {x : DataW H × List MemPlace} (ht : P.underlying t = some (.struct fs)) (hone : oneCellFields P fs = true) (h : DataW.trod enc P w base spare held fuel t cs = some x) :
  cs.length = P.cellsOf t ∧ ∃ n, ∀ (i : Nat) (f : Field) (c : Value), fs[i]? = some f → cs[i]? = some c → ∃ y, DataW.trod enc P w base spare held n f.type [c] = some y := by
 obtain ⟨xs, n, _, _, hl, hx, hf⟩ := DataW.trod_struct ht h
 refine ⟨hl, n, fun i f c hi hc => ?_⟩
 obtain ⟨ho, hk⟩ := hone_of hone i f hi
 have h1 := hf i f hi
 obtain ⟨hlt, hc'⟩ := List.getElem?_eq_some_iff.1 hc
 rw [ho, hk, List.drop_eq_getElem_cons hlt, hc'] at h1
 have hlx : i < xs.length := by rw [hx]; exact (Array.getElem?_eq_some_iff.1 hi).1
 rw [List.getElem?_eq_getElem hlx] at h1
 exact ⟨_, h1⟩
end
section
variable {H : Type} {enc : TypeId × Value → H} {w : World} {base b0 : Nat} {spare : Nat → Bool} {held : Bool} {v : Value} {d : DataW H} {ps : List MemPlace} {r : Reach}
theorem dec_cells (n : Nat) (cs : List Value) (y : DataW H × List MemPlace) (h : DataW.trod enc Try.prog w base spare held n 48 cs = some y) : ∃ x : S48, k48.K w x cs ∧ decIn x = true := by
 obtain ⟨hl, n1, hf⟩ := fields_of Try.underlying48 (by kernel_rfl) h
 rw [show Try.prog.cellsOf 48 = 3 from by kernel_rfl] at hl
 match cs, hl with
 | [c0, c1, c2], _ =>
  obtain ⟨y0, h0⟩ := hf 0 _ c0 rfl rfl
  obtain ⟨y1, h1⟩ := hf 1 _ c1 rfl rfl
  obtain ⟨y2, h2⟩ := hf 2 _ c2 rfl rfl
  obtain ⟨b, hb⟩ := one_bool Try.underlying4 h0
  obtain ⟨x1, hx1, hw1⟩ := one_int Try.underlying46 h1
  obtain ⟨x2, hx2, hw2⟩ := one_int Try.underlying3 h2
  injection hb with hb _
  injection hx1 with hx1 _
  injection hx2 with hx2 _
  subst hb hx1 hx2
  refine ⟨⟨b, x1, x2⟩, k48_mk w _, ?_⟩
  have := bounds_u64 hw1
  have := bounds_i64 hw2
  unfold decIn
  simp
  omega
theorem tag_cells (n : Nat) (cs : List Value) (y : DataW H × List MemPlace) (h : DataW.trod enc Try.prog w base spare held n 81 cs = some y) : ∃ x : S81, k81.K w x cs ∧ tagIn x = true := by
 obtain ⟨hl, n1, hf⟩ := fields_of Try.underlying81 (by kernel_rfl) h
 rw [show Try.prog.cellsOf 81 = 2 from by kernel_rfl] at hl
 match cs, hl with
 | [c0, c1], _ =>
  obtain ⟨y0, h0⟩ := hf 0 _ c0 rfl rfl
  obtain ⟨y1, h1⟩ := hf 1 _ c1 rfl rfl
  obtain ⟨s0, hs0, hw0⟩ := one_str Try.underlying9 h0
  obtain ⟨s1, hs1, hw1⟩ := one_str Try.underlying9 h1
  injection hs0 with hs0 _
  injection hs1 with hs1 _
  subst hs0 hs1
  refine ⟨⟨s0, s1⟩, k81_mk w _, ?_⟩
  unfold maxLen at hw0 hw1
  unfold tagIn
  simp
  omega
theorem met_cells (n : Nat) (cs : List Value) (y : DataW H × List MemPlace) (h : DataW.trod enc Try.prog w base spare held n 26 cs = some y) :
  ∃ (m : S26) (Av : Option Addr) (cv : Nat) (At : Option Addr) (ct : Nat), cs = [.string m.f0, .int .i64 m.f1, .slice Av m.f2.length cv, .int .i64 m.f3, .slice At m.f4.length ct, .int .i64 m.f5] ∧ MetC m Av cv At ct w ∧ metIn m = true := by
 obtain ⟨hl, n1, hf⟩ := fields_of Try.underlying26 (by kernel_rfl) h
 rw [show Try.prog.cellsOf 26 = 6 from by kernel_rfl] at hl
 match cs, hl with
 | [c0, c1, c2, c3, c4, c5], _ =>
  obtain ⟨y0, h0⟩ := hf 0 _ c0 rfl rfl
  obtain ⟨y1, h1⟩ := hf 1 _ c1 rfl rfl
  obtain ⟨y2, h2⟩ := hf 2 _ c2 rfl rfl
  obtain ⟨y3, h3⟩ := hf 3 _ c3 rfl rfl
  obtain ⟨y4, h4⟩ := hf 4 _ c4 rfl rfl
  obtain ⟨y5, h5⟩ := hf 5 _ c5 rfl rfl
  obtain ⟨s0, hs0, hw0⟩ := one_str Try.underlying9 h0
  obtain ⟨x1, hx1, _⟩ := one_int Try.underlying3 h1
  obtain ⟨Av, cv, vs, hx2, hC2, hq2, hl2, _⟩ := one_rowK (dk := k48) z48 (Q := fun x => decIn x = true) Try.underlying23 (by kernel_rfl) dec_cells h2
  obtain ⟨x3, hx3, _⟩ := one_int Try.underlying3 h3
  obtain ⟨At, ct, ts, hx4, hC4, hq4, hl4, _⟩ := one_rowK (dk := k81) z81 (Q := fun x => tagIn x = true) Try.underlying24 (by kernel_rfl) tag_cells h4
  obtain ⟨x5, hx5, _⟩ := one_int Try.underlying3 h5
  injection hs0 with hs0 _
  injection hx1 with hx1 _
  injection hx2 with hx2 _
  injection hx3 with hx3 _
  injection hx4 with hx4 _
  injection hx5 with hx5 _
  subst hs0 hx1 hx2 hx3 hx4 hx5
  have hin : metIn (⟨s0, x1, vs, x3, ts, x5⟩ : S26) = true := by
   unfold metIn
   unfold maxLen at hw0
   simp only [Bool.and_eq_true, decide_eq_true_eq, List.all_eq_true]
   exact ⟨by omega, hq2, hq4⟩
  exact ⟨⟨s0, x1, vs, x3, ts, x5⟩, Av, cv, At, ct, rfl, metC_of hC2 hl2 hC4 hl4 hin, hin⟩
set_option maxRecDepth 100000 in
theorem open_metric (hv : Value.okWide Try.prog w r b0 26 v) (h : DataW.Trod enc Try.prog w base spare held 26 v d ps) :
  ∃ (m : S26) (Av : Option Addr) (cv : Nat) (At : Option Addr) (ct : Nat), v = .agg #[.string m.f0, .int .i64 m.f1, .slice Av m.f2.length cv, .int .i64 m.f3, .slice At m.f4.length ct, .int .i64 m.f5] ∧ MetC m Av cv At ct w ∧ metIn m = true := by
 obtain ⟨cs, rfl, _⟩ := okWide_struct Try.underlying26 hv
 obtain ⟨fuel, hf⟩ := h
 obtain ⟨m, Av, cv, At, ct, hcs, h1, h2⟩ := met_cells _ _ _ hf
 refine ⟨m, Av, cv, At, ct, ?_, h1, h2⟩
 exact congrArg Value.agg (Array.ext' hcs)
end
end Go.Proofs.Ytclbmdblalgdjaa
/- Plain laws of numbers as bytes; no program in sight; no condition. -/
namespace Go.Proofs.Ytclbmdblalgdjaa
open Go.RowKit Go.Proofs.YtclbmdblalgdjaaW.PrintWords
def vput (n : Nat) : List Int := if h : n < 128 then [(n : Int)] else (((n % 128 + 128 : Nat) : Int)) :: vput (n / 128)
termination_by n
decreasing_by omega
theorem vput_lt {n : Nat} (h : n < 128) : vput n = [(n : Int)] := by rw [vput, dif_pos h]
theorem vput_ge {n : Nat} (h : ¬ n < 128) : vput n = (((n % 128 + 128 : Nat) : Int)) :: vput (n / 128) := by rw [vput, dif_neg h]
theorem bits_or_u8_128 (x : Int) (h0 : 0 ≤ x) (h1 : x < 256) : bits .or .u8 x 128 = x % 128 + 128 := by
 obtain ⟨n, rfl⟩ := Int.eq_ofNat_of_zero_le h0
 have h : ∀ n : Fin 256, bits .or .u8 (n.val : Int) 128 = (n.val : Int) % 128 + 128 := by decide +kernel
 exact h ⟨n, by omega⟩
theorem bits_and_u8_127 (x : Int) (h0 : 0 ≤ x) (h1 : x < 256) : bits .and .u8 x 127 = x % 128 := by
 obtain ⟨n, rfl⟩ := Int.eq_ofNat_of_zero_le h0
 have h : ∀ n : Fin 256, bits .and .u8 (n.val : Int) 127 = (n.val : Int) % 128 := by decide +kernel
 exact h ⟨n, by omega⟩
theorem vput_len (k : Nat) : ∀ n : Nat, n < 128 ^ (k + 1) → (vput n).length ≤ k + 1 := by
 induction k with
 | zero => intro n h; rw [vput_lt (by omega)]; simp
 | succ k ih =>
  intro n h
  by_cases hl : n < 128
  ·rw [vput_lt hl]; simp
  ·rw [vput_ge hl]
   have := ih (n / 128) (by rw [Nat.pow_succ] at h; omega)
   simp; omega
theorem vput_len10 (n : Nat) (h : n < 18446744073709551616) : (vput n).length ≤ 10 := vput_len 9 n (Nat.lt_of_lt_of_le h (by decide))
theorem vput_len1 (n : Nat) : 1 ≤ (vput n).length := by
 by_cases hl : n < 128
 ·rw [vput_lt hl]; simp
 ·rw [vput_ge hl]; simp
theorem vput_round {done : List Int} {m n : Nat} (h : done ++ vput m = vput n) (hg : ¬ m < 128) : (done ++ [bits .or .u8 ((m : Int) % 256) 128]) ++ vput (m / 128) = vput n := by
 rw [← h, vput_ge hg, bits_or_u8_128 _ (by omega) (by omega)]
 have e : (m : Int) % 256 % 128 + 128 = (((m % 128 + 128 : Nat)) : Int) := by omega
 rw [e]
 simp
theorem vput_round2 {done : List Int} {m n : Nat} (h : done ++ vput m = vput n) (hg : ¬ m < 128) : (done ++ [(m : Int) % 128 + 128]) ++ vput (m / 128) = vput n := by
 rw [← vput_round h hg, bits_or_u8_128 _ (by omega) (by omega)]
 have e : (m : Int) % 256 % 128 = (m : Int) % 128 := by omega
 rw [e]
theorem vput_done {done : List Int} {m n : Nat} (h : done ++ vput m = vput n) (hn : n < 18446744073709551616) : done.length < 140737488355328 := by
 have h1 := vput_len10 n hn
 rw [← h, List.length_append] at h1
 omega
def vrd : List Int → Nat → Nat → Nat × Nat × Int
 | [], i, _ => (0, i, 13)
 | b :: t, i, n =>
  if i = 9 ∧ 1 < b then (0, i + 1, 10)
  else if b < 128 then (if b = 0 ∧ 0 < i then (0, i + 1, 21) else (n + b.toNat % 128 * 128 ^ i, i + 1, 0))
  else vrd t (i + 1) (n + b.toNat % 128 * 128 ^ i)
theorem vrd_at {l : List Int} {i n : Nat} {b : Int} (hlt : i < l.length) (hb : b = l.getD i 0) : vrd (l.drop i) i n =
  (if i = 9 ∧ 1 < b then (0, i + 1, 10) else if b < 128 then (if b = 0 ∧ 0 < i then (0, i + 1, 21) else (n + b.toNat % 128 * 128 ^ i, i + 1, 0)) else vrd (l.drop (i + 1)) (i + 1) (n + b.toNat % 128 * 128 ^ i)) := by
 rw [List.drop_eq_getElem_cons hlt, vrd]
 have e : l[i] = b := by rw [hb, List.getD_eq_getElem?_getD, List.getElem?_eq_getElem hlt]; rfl
 rw [e]
theorem vrd_end (l : List Int) (i n : Nat) (h : l.length ≤ i) : vrd (l.drop i) i n = (0, i, 13) := by
 rw [List.drop_eq_nil_of_le h, vrd]
theorem wrap_u64_nat {d : Nat} (h : d < 18446744073709551616) : IntKind.u64.wrap (d : Int) = (d : Int) := IntWalk.u64_in _ (by omega)
theorem vor_step {n i : Nat} {b : Int} (hn : n < 128 ^ i) (hi : i ≤ 9) (hb0 : 0 ≤ b) (hb1 : b < 256) (h9 : i = 9 → b ≤ 1) :
  bits .or .u64 (n : Int) (IntKind.u64.wrap (IntKind.u64.wrap (bits .and .u8 b 127) * 2 ^ (7 * i))) = ((n + b.toNat % 128 * 128 ^ i : Nat) : Int) := by
 rw [bits_and_u8_127 b hb0 hb1]
 obtain ⟨c, rfl⟩ := Int.eq_ofNat_of_zero_le hb0
 have ec : ((c : Int) % 128) = ((c % 128 : Nat) : Int) := by omega
 have e2 : ((2 : Int) ^ (7 * i)) = ((128 ^ i : Nat) : Int) := by
  rw [show 128 ^ i = 2 ^ (7 * i) from by rw [Nat.pow_mul], Int.natCast_pow]
  rfl
 have w1 : IntKind.u64.wrap ((c % 128 : Nat) : Int) = ((c % 128 : Nat) : Int) := by
  have h : c % 128 < 128 := Nat.mod_lt _ (by decide)
  exact wrap_u64_nat (by omega)
 have hp : c % 128 * 128 ^ i < 18446744073709551616 := by
  rcases Nat.lt_or_ge i 9 with h | h
  ·have h1 : 128 ^ i ≤ 128 ^ 8 := Nat.pow_le_pow_right (by decide) (by omega)
   have h2 : c % 128 < 128 := Nat.mod_lt _ (by decide)
   have h3 : c % 128 * 128 ^ i ≤ 127 * 128 ^ 8 := Nat.mul_le_mul (by omega) h1
   exact Nat.lt_of_le_of_lt h3 (by decide)
  ·have e : i = 9 := by omega
   subst e
   have := h9 rfl
   have h3 : c % 128 * 128 ^ 9 ≤ 1 * 128 ^ 9 := Nat.mul_le_mul (by omega) (Nat.le_refl _)
   exact Nat.lt_of_le_of_lt h3 (by decide)
 have hn2 : n < 18446744073709551616 := by
  have h1 : 128 ^ i ≤ 128 ^ 9 := Nat.pow_le_pow_right (by decide) hi
  exact Nat.lt_of_lt_of_le hn (Nat.le_trans h1 (by decide))
 rw [ec, w1, e2, ← Int.natCast_mul]
 have w2 : IntKind.u64.wrap ((c % 128 * 128 ^ i : Nat) : Int) = ((c % 128 * 128 ^ i : Nat) : Int) := by
  exact wrap_u64_nat hp
 rw [w2, u64_or_nat _ _ hn2 hp]
 congr 1
 have e3 : 128 ^ i = 2 ^ (7 * i) := by rw [Nat.pow_mul]
 rw [Int.toNat_natCast, e3, Nat.mul_comm, Nat.or_comm, ← Nat.two_pow_add_eq_or_of_lt (by rw [← e3]; exact hn), Nat.add_comm]
theorem vor_bound {n i : Nat} (c : Nat) (hn : n < 128 ^ i) : n + c % 128 * 128 ^ i < 128 ^ (i + 1) := by
 have h : c % 128 ≤ 127 := by omega
 have h2 : c % 128 * 128 ^ i ≤ 127 * 128 ^ i := Nat.mul_le_mul h (Nat.le_refl _)
 rw [Nat.pow_succ]
 omega
/-! signs -/
def zigN (n : Int) : Nat := if n < 0 then (-2 * n - 1).toNat else (2 * n).toNat
def zagZ (m : Nat) : Int := if m % 2 = 1 then -((m / 2 : Nat) : Int) - 1 else ((m / 2 : Nat) : Int)
theorem zag_zig (n : Int) : zagZ (zigN n) = n := by
 unfold zigN zagZ
 by_cases h : n < 0
 ·rw [if_pos h, if_pos (by omega)]; omega
 ·rw [if_neg h, if_neg (by omega)]; omega
theorem wrapu (x : Int) : IntKind.u64.wrap x = x % 18446744073709551616 := by simp [IntKind.wrap, IntKind.bits, IntKind.signed]
theorem xor_max {x : Nat} (h : x < 2 ^ 64) : (2 ^ 64 - 1) ^^^ x = 2 ^ 64 - (x + 1) := by
 apply Nat.eq_of_testBit_eq
 intro i
 rw [Nat.testBit_xor, Nat.testBit_two_pow_sub_one, Nat.testBit_two_pow_sub_succ h]
 by_cases hi : i < 64
 ·simp [hi]
 ·have h2 : x.testBit i = false := Nat.testBit_lt_two_pow (Nat.lt_of_lt_of_le h (Nat.pow_le_pow_right (by decide) (by omega)))
  simp [hi, h2]
theorem xor_max_u64 {x : Nat} (h : x < 18446744073709551616) : bits .xor .u64 IntKind.u64.max (x : Int) = ((18446744073709551616 - (x + 1) : Nat) : Int) := by
 have h2 := u64_xor_nat 18446744073709551615 x (by decide) h
 have h3 := xor_max (x := x) h
 rw [show (18446744073709551615 : Nat) = 2 ^ 64 - 1 from rfl, h3] at h2
 exact h2
theorem or_one_u64 {x : Nat} (h : x < 18446744073709551616) (he : x % 2 = 0) : bits .or .u64 (x : Int) 1 = ((x + 1 : Nat) : Int) := by
 have h2 := u64_or_nat x 1 h (by decide)
 have h3 := Nat.two_pow_add_eq_or_of_lt (i := 1) (b := 1) (by decide) (x / 2)
 rw [show 2 ^ 1 * (x / 2) = x from by omega] at h3
 rw [← h3] at h2
 exact h2
theorem zig_neg {n : Int} (h0 : -9223372036854775808 ≤ n) (h1 : n < 0) :
  bits BinOp.or IntKind.u64 (IntKind.u64.wrap (bits BinOp.xor IntKind.u64 IntKind.u64.max (IntKind.u64.wrap n) * 2)) 1 = (zigN n : Int) := by
 have e1 : IntKind.u64.wrap n = ((n + 18446744073709551616).toNat : Int) := by rw [wrapu]; omega
 rw [e1, xor_max_u64 (by omega)]
 have e2 : IntKind.u64.wrap (((18446744073709551616 - ((n + 18446744073709551616).toNat + 1) : Nat) : Int) * 2) = (((-2 * n - 2).toNat : Nat) : Int) := by rw [wrapu]; omega
 rw [e2, or_one_u64 (by omega) (by omega)]
 unfold zigN
 rw [if_pos h1]
 omega
theorem zig_pos {n : Int} (h0 : ¬ n < 0) (h1 : n ≤ 9223372036854775807) : IntKind.u64.wrap (IntKind.u64.wrap n * 2) = (zigN n : Int) := by
 unfold zigN
 rw [if_neg h0, wrapu, wrapu]
 omega
theorem zag_odd {m : Nat} (h : m < 18446744073709551616) (ho : m % 2 = 1) : wrap64 (bits BinOp.xor IntKind.u64 IntKind.u64.max ((m : Int) / 2)) = zagZ m := by
 rw [show ((m : Int) / 2) = ((m / 2 : Nat) : Int) from by omega, xor_max_u64 (by omega)]
 unfold zagZ wrap64
 rw [if_pos ho]
 omega
theorem wrap_u64_div128 {m : Nat} (h : m < 18446744073709551616) : IntKind.u64.wrap ((m : Int) / 128) = ((m / 128 : Nat) : Int) := wrap_u64_nat (d := m / 128) (by omega)
end Go.Proofs.Ytclbmdblalgdjaa
/- Package varint: what its functions tell; no condition. -/
namespace Go.Proofs.Ytclbmdblalgdjaa
open Go.RowKit Go.Proofs.YtclbmdblalgdjaaW.PrintWords Go.Proofs.YtclbmdblalgdjaaW.PrintLast Go.Proofs.YtclbmdblalgdjaaW.PrintMore
set_option linter.unusedVariables false
theorem uB : Try.prog.underlying 34 = some (.slice 5) := by kernel_rfl
theorem iB : (Try.prog.info? 5).map (fun i => (i.zero, i.size, i.bytes)) = some (some (.int .u8 0), 1, 1) := by kernel_rfl
theorem mk10 : ∀ w : World, (Instr.makeSlice 34 (.int .i64 0) (.int .i64 10)).run Try.prog w = .ok (.slice (some ⟨w.heap.size, 0, none⟩) 0 10) (w.alloc (.cells (madeCells #[.int .u8 0] 10) 5)) := fun _ => by kernel_rfl
set_option maxHeartbeats 1000000 in
set_option maxRecDepth 100000 in
theorem put_calls (n : Nat) (hn : n < 18446744073709551616) (w : World) :
  Calls Try.prog 41 #[.int .u64 n] w fun e w' => ∃ v, e = .returned v ∧ (Kd.int .u8).R 5 w' w.heap.size (fun _ => True) v (vput n) ∧ Below w.heap.size w w' := by
 have HN := Aside0.mk hn
 clear hn
 have HB := Aside0.mk (Below.refl w.heap.size w)
 go_enter Try.func41, Try.ntmps41
 go_wp2_with (first | ((with_reducible refine gate_dst (N := 4) rfl ?_); refine R_make0 (Kd.int .u8) w.heap.size 5 rfl (madeCells #[.int .u8 0] 10) 10 ?hr (size_madeCells _ _) (by decide) (ok := fun _ => True) trivial HB.out (Nat.le_refl _) ?_; (case hr => (go_simp; rw [mk10]; go_simp)); intro v w1 hv hb; have HV := Aside0.mk hv; clear HB hv; have HB := Aside0.mk hb; clear hb))
 go_loopw [0, 3] (fun v0 v3 w' => ∃ (m : Nat) (done : List Int), v0 = .int .u64 m ∧ Aside0 (m < 18446744073709551616) ∧ Aside0 (done ++ vput m = vput n) ∧ Aside0 ((Kd.int .u8).R 5 w' w.heap.size (fun _ => True) v3 done) ∧ Aside0 (Below w.heap.size w w')) (fun v0 _ _ => (intOf v0).toNat)
 case atStart => exact ⟨n, [], rfl, HN, ⟨rfl⟩, HV, HB⟩
 case round =>
  obtain ⟨m, done, rfl, HM, HD, HV, HB⟩ := hrel
  have HL := Aside0.mk (vput_done HD.out HN.out)
  by_cases hlt : m < 128
  ·go_wp2_with (first | ((with_reducible refine gate_dst (N := 19) rfl ?_); at_builtin; go_must (refine R_app_u8 rfl rfl rfl rfl uB iB HV HB HL ?_); intro v1 w1 ho hb; clear HB HV; have HB := hb; have HV := ho; clear ho hb))
   go_ret
   refine ⟨_, rfl, ?_, HB.out⟩
   have e : done ++ [(m : Int)] = vput n := by rw [← HD.out, vput_lt hlt]
   rw [← e]
   exact HV.out
  ·go_wp2_with (first | ((with_reducible refine gate_dst (N := 14) rfl ?_); at_builtin; go_must (refine R_app_u8 rfl rfl rfl rfl uB iB HV HB HL ?_); intro v1 w1 ho hb; clear HB HV; have HB := hb; have HV := ho; clear ho hb))
   go_roundw
   case rel => exact ⟨m / 128, done ++ [_], by go_num, ⟨by have := HM.out; omega⟩, ⟨vput_round HD.out hlt⟩, HV, HB⟩
   case measure => simp [intOf]; omega
def ReadEnd (l : List Int) (I : Nat → World → Prop) (J : World → Prop) (w' : World) : Prop := if (vrd l 0 0).2.2 = 13 then J w' else I (vrd l 0 0).2.1 w'
set_option maxHeartbeats 1000000 in
set_option maxRecDepth 100000 in
theorem read_calls (F : FuncId) (fn : Func) (hf : Try.prog.funcs[F]? = some fn) (hname : (fn.name == "runtime.NumGoroutine") = false) (hb : fn.body.isSome = true) (caps : Array Value) (l : List Int) (I : Nat → World → Prop) (J : World → Prop)
  (h1 : ∀ i W, I i W → i < l.length → Calls Try.prog F caps W fun e W' => e = .returned (.tuple #[.int .u8 (l.getD i 0), .bool true]) ∧ I (i + 1) W')
  (h2 : ∀ W, I l.length W → Calls Try.prog F caps W fun e W' => e = .returned (.tuple #[.int .u8 0, .bool false]) ∧ J W')
  (hl : ∀ x ∈ l, 0 ≤ x ∧ x < 256)
  (w : World) (hI : I 0 w) :
  Calls Try.prog 92 #[.func (.func F) #[] caps] w fun e w' => e = .returned (.tuple #[.int .u64 ((vrd l 0 0).1 : Nat), .int .i64 ((vrd l 0 0).2.1 : Nat), .int .i64 (vrd l 0 0).2.2]) ∧ ReadEnd l I J w' := by
 have H1 := Aside0.mk h1
 have H2 := Aside0.mk h2
 have HL := Aside0.mk hl
 have HI := Aside0.mk hI
 have HF := Aside0.mk hf
 have HF1 := Aside0.mk hname
 have HF2 := Aside0.mk hb
 clear h1 h2 hl hI hf hname hb
 go_enter Try.func92, Try.ntmps92
 go_wp2
 go_step3
 go_wp2
 go_step3
 go_wp2
 go_loopw [5, 6] (fun v5 v6 w' => ∃ (i n : Nat), v5 = .int .u64 n ∧ v6 = .int .i64 i ∧ Aside0 (vrd (l.drop i) i n = vrd l 0 0) ∧ i ≤ l.length ∧ Aside0 (n < 128^i) ∧ i ≤ 9 ∧ Aside0 (I i w')) (fun _ v6 _ => l.length - (intOf v6).toNat)
 case atStart => exact ⟨0, 0, rfl, rfl, ⟨rfl⟩, Nat.zero_le _, ⟨by decide⟩, by omega, HI⟩
 case round =>
  obtain ⟨i, n, rfl, rfl, HD, hi, HN, hi9, HI1⟩ := hrel
  by_cases hlt : i < l.length
  ·obtain ⟨b, hbe⟩ : ∃ b : Int, b = l.getD i 0 := ⟨_, rfl⟩
   obtain ⟨hb0, hb1⟩ : 0 ≤ b ∧ b < 256 := by
    rw [hbe, List.getD_eq_getElem?_getD, List.getElem?_eq_getElem hlt]
    exact HL.out _ (List.getElem_mem hlt)
   have HV := Aside0.mk (vrd_at (n := n) hlt hbe)
   have HBE := Aside0.mk hbe
   clear hbe
   by_cases h9 : i = 9 ∧ 1 < b
   ·have hd : vrd l 0 0 = (0, i + 1, 10) := by rw [← HD.out, HV.out, if_pos h9]
    have HD2 := Aside0.mk hd
    clear hd HD HV
    obtain ⟨h9, hb9⟩ := h9
    have h9b : ((i : Int) + 1 == 10) = true := by simp; omega
    have H9 := Aside0.mk h9
    clear h9
    go_wp2_with (first | ((with_reducible refine gate_dst (N := 11) rfl ?_); go_must (refine goesV_ (some 11) rfl rfl rfl rfl HF.out HF1.out HF2.out caps (by simp) ?_); refine (H1.out i _ HI1.out hlt).mono ?_; rintro e w1 ⟨rfl, hi1⟩; rw [← HBE.out]; clear HI1; have HI1 := Aside0.mk hi1; clear hi1; refine ⟨_, rfl, ?_⟩))
    try rw [Exit.noGoto_ret]
    go_ret3
    unfold ReadEnd
    rw [HD2.out]
    exact ⟨rfl, by rw [if_neg (by simp)]; exact HI1.out⟩
   ·have hd : vrd l 0 0 = (if b < 128 then (if b = 0 ∧ 0 < i then (0, i + 1, 21) else (n + b.toNat % 128 * 128 ^ i, i + 1, 0)) else vrd (l.drop (i + 1)) (i + 1) (n + b.toNat % 128 * 128 ^ i)) := by rw [← HD.out, HV.out, if_neg h9]
    have HVS := Aside0.mk (vor_step (i := i) HN.out hi9 hb0 hb1 (fun e => by omega))
    have HVB := Aside0.mk (vor_bound b.toNat HN.out)
    have HD2 := Aside0.mk hd
    clear hd HD HV
    have H9 := Aside0.mk h9
    clear h9
    by_cases h128 : b < 128
    ·have hd : vrd l 0 0 = (if b = 0 ∧ 0 < i then (0, i + 1, 21) else (n + b.toNat % 128 * 128 ^ i, i + 1, 0)) := by rw [HD2.out, if_pos h128]
     have HD3 := Aside0.mk hd
     clear hd HD2
     have hi10 : ((i : Int) + 1 == 10) = true ∧ ¬ 1 < b ∨ ((i : Int) + 1 == 10) = false := by
      by_cases e : i = 9
      ·exact .inl ⟨by simp; omega, fun h => H9.out ⟨e, h⟩⟩
      ·exact .inr (by simp; omega)
     by_cases hz : b = 0 ∧ 0 < i
     ·have hd : vrd l 0 0 = (0, i + 1, 21) := by rw [HD3.out, if_pos hz]
      have HD4 := Aside0.mk hd
      clear hd HD3
      obtain ⟨hz1, hz2⟩ := hz
      have hz3 : (b == 0) = true := by simp [hz1]
      have HZ := Aside0.mk hz1
      clear hz1
      rcases hi10 with ⟨hi10, hb2⟩ | hi10
      all_goals
       go_wp2_with (first | ((with_reducible refine gate_dst (N := 11) rfl ?_); go_must (refine goesV_ (some 11) rfl rfl rfl rfl HF.out HF1.out HF2.out caps (by simp) ?_); refine (H1.out i _ HI1.out hlt).mono ?_; rintro e w1 ⟨rfl, hi1⟩; rw [← HBE.out]; clear HI1; have HI1 := Aside0.mk hi1; clear hi1; refine ⟨_, rfl, ?_⟩))
       try rw [Exit.noGoto_ret]
       go_ret3
       unfold ReadEnd
       rw [HD4.out]
       exact ⟨rfl, by rw [if_neg (by simp)]; exact HI1.out⟩
     ·have hd : vrd l 0 0 = (n + b.toNat % 128 * 128 ^ i, i + 1, 0) := by rw [HD3.out, if_neg hz]
      have HD4 := Aside0.mk hd
      clear hd HD3
      have hz3 : (b == 0) = true ∧ ¬ 1 < (i : Int) + 1 ∨ (b == 0) = false := by
       by_cases e : b = 0
       ·exact .inl ⟨by simp [e], fun h => hz ⟨e, by omega⟩⟩
       ·exact .inr (by simp [e])
      have HZ := Aside0.mk hz
      clear hz
      rcases hi10 with ⟨hi10, hb2⟩ | hi10
      all_goals rcases hz3 with ⟨hz3, hz4⟩ | hz3
      all_goals
       go_wp2_with (first | ((with_reducible refine gate_dst (N := 11) rfl ?_); go_must (refine goesV_ (some 11) rfl rfl rfl rfl HF.out HF1.out HF2.out caps (by simp) ?_); refine (H1.out i _ HI1.out hlt).mono ?_; rintro e w1 ⟨rfl, hi1⟩; rw [← HBE.out]; clear HI1; have HI1 := Aside0.mk hi1; clear hi1; refine ⟨_, rfl, ?_⟩))
       try rw [Exit.noGoto_ret]
       go_ret3
       unfold ReadEnd
       rw [HD4.out]
       exact ⟨by rw [HVS.out]; rfl, by rw [if_neg (by simp)]; exact HI1.out⟩
    ·have hd : vrd l 0 0 = vrd (l.drop (i + 1)) (i + 1) (n + b.toNat % 128 * 128 ^ i) := by rw [HD2.out, if_neg h128]
     have HD3 := Aside0.mk hd
     clear hd HD2
     have h9 : i < 9 := by
      by_cases e : i = 9
      ·exact absurd ⟨e, by omega⟩ H9.out
      ·omega
     have h9b : ((i : Int) + 1 == 10) = false := by simp; omega
     go_wp2_with (first | ((with_reducible refine gate_dst (N := 11) rfl ?_); go_must (refine goesV_ (some 11) rfl rfl rfl rfl HF.out HF1.out HF2.out caps (by simp) ?_); refine (H1.out i _ HI1.out hlt).mono ?_; rintro e w1 ⟨rfl, hi1⟩; rw [← HBE.out]; clear HI1; have HI1 := Aside0.mk hi1; clear hi1; refine ⟨_, rfl, ?_⟩))
     refine ⟨⟨i + 1, _, by rw [HVS.out], by go_num, ⟨HD3.out.symm⟩, by omega, ⟨HVB.out⟩, by omega, HI1⟩, ?_⟩
     simp [intOf]; omega
  ·have hd : vrd l 0 0 = (0, i, 13) := by rw [← HD.out, vrd_end l i n (by omega)]
   have HD2 := Aside0.mk hd
   clear hd HD
   have HE := Aside0.mk (show I l.length wr by rw [show l.length = i from by omega]; exact HI1.out)
   go_wp2_with (first | ((with_reducible refine gate_dst (N := 11) rfl ?_); go_must (refine goesV_ (some 11) rfl rfl rfl rfl HF.out HF1.out HF2.out caps (by simp) ?_); refine (H2.out _ HE.out).mono ?_; rintro e w1 ⟨rfl, hj⟩; have HJ := Aside0.mk hj; clear hj; refine ⟨_, rfl, ?_⟩))
   try rw [Exit.noGoto_ret]
   go_ret3
   unfold ReadEnd
   rw [HD2.out]
   exact ⟨rfl, by rw [if_pos rfl]; exact HJ.out⟩
end Go.Proofs.Ytclbmdblalgdjaa
/- forebayref02.Put: what it tells; no condition. -/
namespace Go.Proofs.Ytclbmdblalgdjaa
open Go.RowKit Go.Proofs.YtclbmdblalgdjaaW.PrintWords Go.Proofs.YtclbmdblalgdjaaW.PrintLast Go.Proofs.YtclbmdblalgdjaaW.PrintMore
set_option linter.unusedVariables false
set_option maxHeartbeats 1000000 in
set_option maxRecDepth 100000 in
theorem refput_calls (n : Nat) (hn : n < 18446744073709551616) (w : World) :
  Calls Try.prog 46 #[.int .u64 n] w fun e w' => ∃ v, e = .returned v ∧ (Kd.int .u8).R 5 w' w.heap.size (fun _ => True) v (vput n) ∧ Below w.heap.size w w' := by
 have HN := Aside0.mk hn
 clear hn
 have HB := Aside0.mk (Below.refl w.heap.size w)
 go_enter Try.func46, Try.ntmps46
 go_wp2
 go_loopw [0, 3] (fun v0 v3 w' => ∃ (m : Nat) (done : List Int), v0 = .int .u64 m ∧ Aside0 (m < 18446744073709551616) ∧ Aside0 (done ++ vput m = vput n) ∧ Aside0 ((Kd.int .u8).R 5 w' w.heap.size (fun _ => True) v3 done) ∧ Aside0 (Below w.heap.size w w')) (fun v0 _ _ => (intOf v0).toNat)
 case atStart => exact ⟨n, [], rfl, HN, ⟨rfl⟩, ⟨R_lit_u8 5 (Nat.le_refl _) [] (by simp)⟩, ⟨below_alloc (Below.refl _ _) _⟩⟩
 case round =>
  obtain ⟨m, done, rfl, HM, HD, HV, HB⟩ := hrel
  have HL := Aside0.mk (vput_done HD.out HN.out)
  have HW := Aside0.mk (wrap_u64_div128 HM.out)
  by_cases hlt : m < 128
  ·have hlt2 : ¬ 127 < (m : Int) := by omega
   go_wp2_with (first | ((with_reducible refine gate_dst (N := 20) rfl ?_); at_builtin; go_must (refine R_app_u8 rfl rfl rfl rfl uB iB HV HB HL ?_); intro v1 w1 ho hb; clear HB HV; have HB := hb; have HV := ho; clear ho hb))
   go_ret
   refine ⟨_, rfl, ?_, HB.out⟩
   have e : done ++ [(m : Int)] = vput n := by rw [← HD.out, vput_lt hlt]
   rw [← e]
   exact HV.out
  ·have hlt2 : 127 < (m : Int) := by omega
   go_wp2_with (first | ((with_reducible refine gate_dst (N := 13) rfl ?_); at_builtin; go_must (refine R_app_u8 rfl rfl rfl rfl uB iB HV HB HL ?_); intro v1 w1 ho hb; clear HB HV; have HB := hb; have HV := ho; clear ho hb))
   go_roundw
   case rel => 
    exact ⟨m / 128, done ++ [_], by rw [HW.out], ⟨by have := HM.out; omega⟩, ⟨vput_round2 HD.out hlt⟩, HV, HB⟩
   case measure => have h := HW.out; simp [intOf]; omega
end Go.Proofs.Ytclbmdblalgdjaa
/- varint.Zig, Zag, and the reference's answers: what they tell; no condition. -/
namespace Go.Proofs.Ytclbmdblalgdjaa
open Go.RowKit Go.Proofs.YtclbmdblalgdjaaW.PrintWords Go.Proofs.YtclbmdblalgdjaaW.PrintLast Go.Proofs.YtclbmdblalgdjaaW.PrintMore
set_option linter.unusedVariables false
set_option maxHeartbeats 1000000 in
set_option maxRecDepth 100000 in
theorem zig_calls (n : Int) (h0 : -9223372036854775808 ≤ n) (h1 : n ≤ 9223372036854775807) (w : World) :
  Calls Try.prog 48 #[.int .i64 n] w fun e w' => e = .returned (.int .u64 (zigN n)) ∧ Below w.heap.size w w' := by
 have HB := Aside0.mk (And.intro h0 h1)
 clear h0 h1
 by_cases h : n < 0
 ·have H := Aside0.mk h
  go_enter Try.func48, Try.ntmps48
  go_wp2
  go_ret
  exact ⟨by rw [← zig_neg HB.out.1 H.out]; rfl, by repeat (first | exact Below.refl _ _ | apply below_alloc | apply below_drew1)⟩
 ·have H := Aside0.mk h
  go_enter Try.func48, Try.ntmps48
  go_wp2
  go_ret
  exact ⟨by rw [← zig_pos (by have := H.out; omega) HB.out.2]; rfl, by repeat (first | exact Below.refl _ _ | apply below_alloc | apply below_drew1)⟩
set_option maxHeartbeats 1000000 in
set_option maxRecDepth 100000 in
theorem zag_calls (m : Nat) (hm : m < 18446744073709551616) (w : World) :
  Calls Try.prog 52 #[.int .u64 m] w fun e w' => e = .returned (.int .i64 (zagZ m)) ∧ w = w' := by
 have HB := Aside0.mk hm
 have ha : bits .and .u64 (m : Int) 1 = ((m % 2 : Nat) : Int) := by rw [and_one_u64 _ (by omega) (by omega)]; rfl
 clear hm
 by_cases h : m % 2 = 1
 ·have hb : (bits .and .u64 (m : Int) 1 == 1) = true := by rw [ha, h]; rfl
  have H := Aside0.mk h
  clear h ha
  go_enter Try.func52, Try.ntmps52
  go_wp2
  go_ret
  exact ⟨by rw [← zag_odd HB.out H.out]; rfl, rfl⟩
 ·have hb : (bits .and .u64 (m : Int) 1 == 1) = false := by rw [ha, show m % 2 = 0 from by omega]; rfl
  have H := Aside0.mk h
  clear h ha
  have hz : zagZ m = wrap64 ((m : Int) / 2) := by
   have := HB.out
   unfold zagZ wrap64; rw [if_neg H.out]; omega
  have HZ := Aside0.mk hz
  clear hz
  go_enter Try.func52, Try.ntmps52
  go_wp2
  go_ret
  exact ⟨by rw [HZ.out]; rfl, rfl⟩
end Go.Proofs.Ytclbmdblalgdjaa
/- varint.Put and Zig, dec.Check, the document's Put and Zig, in the printed form; no condition. -/
namespace Go.Proofs.Ytclbmdblalgdjaa.PE
open Go.RowKit Go.Proofs.YtclbmdblalgdjaaW.PrintWords Go.Proofs.YtclbmdblalgdjaaW.PrintLast Go.Proofs.YtclbmdblalgdjaaW.PrintMore
set_option linter.unusedVariables false
set_option linter.unusedSimpArgs false
def varint_Put.f (a0 : Int) : Option (List Int) := if 0 ≤ a0 ∧ a0 < 18446744073709551616 then some (vput a0.toNat) else none
theorem varint_Put.calls (a0 : Int) (r : List Int) (w : World) (h : varint_Put.f a0 = some r) :
  Calls Try.prog 41 #[.int .u64 a0] w fun e w' => ∃ v0_ : Value, e = .returned (v0_) ∧ Kd.R (Kd.int .u8) 5 w' w.heap.size (fun _ => True) v0_ r ∧ Below w.heap.size w w' := by
 unfold varint_Put.f at h
 split at h
 ·rename_i hq
  rw [← Option.some.inj h]
  obtain ⟨n, rfl⟩ := Int.eq_ofNat_of_zero_le hq.1
  exact put_calls n (by omega) w
 ·cases h
def varint_Zig.f (a0 : Int) : Option Int := if -9223372036854775808 ≤ a0 ∧ a0 ≤ 9223372036854775807 then some (zigN a0 : Int) else none
theorem varint_Zig.calls (a0 : Int) (r : Int) (w : World) (h : varint_Zig.f a0 = some r) : Calls Try.prog 48 #[.int .i64 a0] w fun e w' => e = .returned (.int .u64 r) ∧ Below w.heap.size w w' := by
 unfold varint_Zig.f at h
 split at h
 ·rename_i hq
  rw [← Option.some.inj h]
  exact zig_calls a0 hq.1 hq.2 w
 ·cases h
def dec_Check.f (a0 : Bool) (a1 a2 : Int) : Option Int := if 0 ≤ a1 ∧ a1 < 18446744073709551616 then some (decBad a0 a1 a2) else none
theorem dec_Check.calls (a0 : Bool) (a1 a2 : Int) (r : Int) (w : World) (h : dec_Check.f a0 a1 a2 = some r) : Calls Try.prog 47 #[.agg #[.bool a0, .int .u64 a1, .int .i64 a2]] w fun e w' => e = .returned (.int .i64 r) ∧ Below w.heap.size w w' := by
 unfold dec_Check.f at h
 split at h
 ·rename_i hq
  rw [← Option.some.inj h]
  exact deccheck_calls a0 a1 a2 w hq
 ·cases h
end Go.Proofs.Ytclbmdblalgdjaa.PE
