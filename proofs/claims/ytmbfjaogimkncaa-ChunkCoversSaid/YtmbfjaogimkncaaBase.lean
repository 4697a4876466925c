/- The ground of this seat's own texts: what the walks import; no condition. -/
import Derived.Test.YtmbfjaogimkncaaProg
import Derived.Below
import Derived.Deep.Draws
import Derived.Deep.AppendLies
import Derived.Maps.AppendAt
import Derived.OwnWalk
import Derived.Laws.BytesArg
import Derived.Laws.MakeOwn
import Derived.Laws.OwnMore
import Derived.Deep.OwnRows
import Derived.Tactics
import Derived.Lib.ConvBytes
import Derived.Laws.Slices
import Derived.WalkKit
import Derived.KernelRfl
import Derived.RowKit3
import Derived.Deep.LoopGhost
import Derived.Deep.QuietTactic
import Derived.BigQuiet
import Derived.WideLaws
import Derived.Deep.DeepCutAuto
import Derived.Deep.CutBlock
import Derived.Deep.RegionHeld3
import Derived.Laws.Rows
import Derived.Lib.AppendStr
import Derived.ArgAppend
import Derived.Laws.IdiomCopy
import Derived.OrdersHeld
import Derived.Laws.BitsLemmas
import Derived.RowKit
import Derived.Lib.Hide
import Derived.WalkSpells
import Derived.OpenShut
import Derived.Test.YtmbfjaogimkncaaWWords
import Derived.Test.YtmbfjaogimkncaaWLast
import Derived.Test.YtmbfjaogimkncaaWTab
import Derived.Test.YtmbfjaogimkncaaWFour
import Derived.Test.YtmbfjaogimkncaaWQPut
import Derived.Test.YtmbfjaogimkncaaWApart
import Derived.Test.YtmbfjaogimkncaaWArr
import Derived.Test.YtmbfjaogimkncaaWZeros
import Derived.Test.YtmbfjaogimkncaaWFoot
import Derived.Test.YtmbfjaogimkncaaWKept
import Derived.Test.YtmbfjaogimkncaaWShare
import Derived.Test.YtmbfjaogimkncaaWN
import Derived.Test.YtmbfjaogimkncaaWFootNe
import Derived.Test.YtmbfjaogimkncaaWAt
import Derived.Test.YtmbfjaogimkncaaWEqStruct
import Derived.Test.YtmbfjaogimkncaaWRepsOne
import Derived.Test.YtmbfjaogimkncaaWInv
import Derived.Test.YtmbfjaogimkncaaWInvWords
import Derived.Test.YtmbfjaogimkncaaWGuard
import Derived.Test.YtmbfjaogimkncaaWNEv
import Derived.Test.YtmbfjaogimkncaaWMore
namespace Go.Proofs.Ytmbfjaogimkncaa
open Go.RowKit Go.Proofs.YtmbfjaogimkncaaW.PrintWords Go.Proofs.YtmbfjaogimkncaaW.PrintLast Go.Proofs.YtmbfjaogimkncaaW.PrintMore

/-- A world behind another one: what is old stays, but for the blocks of S. -/
structure Chg (S : Nat → Prop) (w w' : World) : Prop where
  os : w'.os = w.os
  tape : w'.tape = w.tape
  output : w'.output = w.output
  size : w.heap.size ≤ w'.heap.size
  block : ∀ k, k < w.heap.size → ¬ S k → w'.heap[k]? = w.heap[k]?

section
variable {S S' : Nat → Prop} {w w' w'' : World}
theorem Chg.refl (S : Nat → Prop) (w : World) : Chg S w w := ⟨rfl, rfl, rfl, Nat.le_refl _, fun _ _ _ => rfl⟩
theorem Chg.mono (h : Chg S w w') (hs : ∀ k, k < w.heap.size → S k → S' k) : Chg S' w w' :=
  ⟨h.os, h.tape, h.output, h.size, fun k hk hn => h.block k hk (fun hs1 => hn (hs k hk hs1))⟩
theorem Chg.trans (h : Chg S w w') (k : Chg S' w' w'') (hs : ∀ k, S' k → S k ∨ w.heap.size ≤ k) : Chg S w w'' :=
  ⟨k.os.trans h.os, k.tape.trans h.tape, k.output.trans h.output, Nat.le_trans h.size k.size, fun i hi hn =>
    (k.block i (Nat.lt_of_lt_of_le hi h.size) (fun h2 => (hs i h2).elim hn (fun h3 => by omega))).trans (h.block i hi hn)⟩
theorem Chg.of_below (h : Below w.heap.size w w') (S : Nat → Prop) : Chg S w w' := ⟨h.os, h.tape, h.output, h.size, fun k hk _ => h.block k hk⟩
theorem Chg.to_below {B : Nat} (h : Chg S w w') (hs : ∀ k, S k → B ≤ k) (hB : B ≤ w.heap.size) : Below B w w' :=
  ⟨h.os, h.tape, h.output, h.size, fun k hk => h.block k (by omega) (fun h1 => by have := hs k h1; omega)⟩
theorem Chg.below (h : Chg S w w') (hb : Below w'.heap.size w' w'') : Chg S w w'' := h.trans (Chg.of_below hb (fun _ => False)) (fun _ h => h.elim)
theorem Chg.alloc (h : Chg S w w') (o : Obj) : Chg S w (w'.alloc o) := h.below (below_alloc (Below.refl _ _) o)
theorem Chg.drew (h : Chg S w w') : Chg S w w'.drew := h.below (below_drew1 (Below.refl _ _))
theorem Chg.drewN (h : Chg S w w') (n : Nat) : Chg S w (w'.drewN n) := h.below (pw_below_drewN (Below.refl _ _) n)
end
section
variable {P : Program} {ops : Array Oper} {rest : List Oper} {o : Oper} {a : Act} {Q : Exit → Act → World → Prop} {α : Type}
/-- 'make([]T, 0, c)'. -/
theorem R_make0 (d : Kd α) {w0 W : World} (base e : Nat) (hgd : o.guard = none) (cur : Array Value) (c : Nat)
    (hrun : (execOp a.eval o).run P W = .ok (.value (.slice (some ⟨W.heap.size, 0, none⟩) 0 c)) (W.alloc (.cells cur e))) (hcur : cur.size = c * d.sz) (hc : c ≤ maxLen) {ok : Nat → Prop} (hfresh : ok W.heap.size)
    (HB : Below base w0 W) (hbase : base ≤ W.heap.size)
    (h : ∀ v1 w1, d.R e w1 base ok v1 [] → Below base w0 w1 → wpList P ops Q rest (a.put o.dst v1) w1) : wpList P ops Q (o :: rest) a W := by
  refine Kd.event_run hgd hrun (h _ _ ⟨fun k hk => ?_, [], ?_, Reps.none _ _⟩ (HB.alloc hbase _))
  · have : W.heap.size = k := by simpa [Value.ownBlock] using hk
    subst this
    exact hfresh
  · exact World.ownsRow_made (base := base) (e := e) (size := d.sz) W cur c hbase hc hcur
/-- '[]T{}'. -/
theorem R_lit0 (d : Kd α) {w0 W : World} (e : Nat) (hgd : o.guard = none)
    (hrun : (execOp a.eval o).run P W = .ok (.value (.slice (some ⟨W.heap.size, 0, none⟩) 0 0)) (W.alloc (.cells #[] e))) {ok : Nat → Prop} (hfresh : ok W.heap.size)
    (HB : Aside0 (Below w0.heap.size w0 W))
    (h : ∀ v1 w1, Aside0 (d.R e w1 w0.heap.size ok v1 []) → Aside0 (Below w0.heap.size w0 w1) → wpList P ops Q rest (a.put o.dst v1) w1) : wpList P ops Q (o :: rest) a W :=
  R_make0 d w0.heap.size e hgd #[] 0 hrun (by simp) (Nat.zero_le _) hfresh HB.out (below_size HB.out) (fun v1 w1 h1 h2 => h v1 w1 ⟨h1⟩ ⟨h2⟩)
/-- One byte appended to a row of the call's own. -/
theorem R_app_u8 {w0 W : World} {s x : Operand} {t e : TypeId} {v : Value} {xs : List Int} {p : Int} (hgd : o.guard = none)
    (ho : o.op = .call { callee := .builtin .append, args := #[s, x], argTypes := #[t, t] }) (hs : a.eval s = v) (hx : a.eval x = .slice (some ⟨W.heap.size, 0, none⟩) 1 1)
    (ht : P.underlying t = some (.slice e)) (hinfo : (P.info? e).map (fun i => (i.zero, i.size, i.bytes)) = some (some (.int .u8 0), 1, 1))
    (HO : Aside0 ((Kd.int .u8).R e W w0.heap.size (fun _ => True) v xs)) (HB : Aside0 (Below w0.heap.size w0 W)) (hl : Aside0 (xs.length < 140737488355328))
    (h : ∀ v1 w1, Aside0 ((Kd.int .u8).R e w1 w0.heap.size (fun _ => True) v1 (xs ++ [p])) → Aside0 (Below w0.heap.size w0 w1) → wpList P ops Q rest (a.put o.dst v1) w1) :
    wpList P ops Q (o :: rest) a (W.alloc (.cells #[.int .u8 p] e)) := by
  have hl' := hl.out
  refine Kd.R_append (Kd.int .u8) (w0 := w0) w0.heap.size hgd s x t e (.int .u8 0) 1 ho ht hinfo rfl (by decide) (by omega) v xs p [.int .u8 p] (fun _ => True) (fun _ => False) hs hx rfl (fun _ hk => hk.elim) (fun _ _ => trivial) HO.out HB.out (below_size HB.out) (by omega) ?_
  intro v1 w1 ho hb _ _
  exact h v1 w1 ⟨ho⟩ ⟨hb⟩
end

section
variable {P : Program} {ops : Array Oper} {Q : Exit → Act → World → Prop}
/-- A call of a function value (a closure): its function's number may be a variable. -/
theorem goesV_ {rest : List Oper} {oi : Oper} {a : Act} {w : World} (N : Option Tmp) (hd : oi.dst = N) (hg : oi.guard = none) {f : FuncId} {fn : Func} {ops1 : Array Operand} {ts : Array TypeId} {x : Operand} {caps : Array Value}
    (hop : oi.op = .call { callee := .value x, args := ops1, argTypes := ts }) (hx : a.eval x = .func (.func f) #[] caps) (hf : P.funcs[f]? = some fn) (hname : (fn.name == "runtime.NumGoroutine") = false) (hb : fn.body.isSome = true) (args : Array Value)
    (hargs : ops1.map a.eval ++ caps = args)
    (h : Calls P f args w fun e w' => ∃ v, e = .returned v ∧ wpList P ops Q rest (a.put N v) w') : wpList P ops Q (oi :: rest) a w := by
  refine wpList_plain hg fun K hK => ?_
  have he := enters_ hf hname hb args w
  have hrun : (execOp a.eval oi).run P w = .ok (.enter f args) w := by
    unfold execOp
    simp [hop, resolve, Deferred.ofValue, invoke, hx, hargs, he]
  unfold Oper.wp
  rw [hrun, Oper.upon_enter]
  refine h.mono fun e w'' hh => ?_
  obtain ⟨v, rfl, hk⟩ := hh
  subst hd
  exact hK _ _ hk
end
theorem add_block (a : Addr) (i : Nat) : (a.add i).block = a.block := by unfold Addr.add; split <;> rfl
theorem R_lit_u8 {w : World} {base : Nat} (e : TypeId) (hb : base ≤ w.heap.size) (xs : List Int) (hl : xs.length ≤ 9223372036854775807) :
    (Kd.int .u8).R e (w.alloc (.cells (nums .u8 xs).toArray e)) base (fun _ => True) (.slice (some ⟨w.heap.size, 0, none⟩) xs.length xs.length) xs := by
  refine ⟨fun _ _ => trivial, nums .u8 xs, ?_, ?_⟩
  · have h2 := World.ownsRow_lit (base := base) (e := e) (size := 1) w (nums .u8 xs).toArray xs.length hb (by simpa [maxLen] using hl) (by simp [nums])
    have e2 : (nums IntKind.u8 xs).toArray.toList = nums IntKind.u8 xs := rfl
    rw [e2] at h2
    exact h2
  · refine ⟨by show (nums .u8 xs).length = xs.length * 1; simp [nums], fun j p hj => ?_⟩
    have hj' := List.getElem?_eq_some_iff.1 hj
    obtain ⟨hl2, hp⟩ := hj'
    show List.take 1 (List.drop (j * 1) (nums .u8 xs)) = [.int .u8 p]
    rw [Nat.mul_one, List.drop_eq_getElem_cons (by simpa [nums] using hl2)]
    simp [nums, hp]
theorem C_blk {k : IntKind} {w : World} {A : Option Addr} {n : Nat} {xs : List Int} (h : (Kd.int k).C w A n xs) (hn : 0 < n) : ∀ ad, A = some ad → ad.block < w.heap.size := by
  intro ad e
  obtain ⟨ad', e', hx⟩ := Kd.at_int h 0 (by omega) (by omega)
  rw [e] at e'
  injection e' with e'
  subst e'
  have := World.block_lt_of_cell? w _ hx
  rwa [add_block] at this

section
variable {P : Program} {f : FuncId} {args : Array Value} {w W : World} {Q : Ending → World → Prop}
/-- A call that tells a value and makes memory at most. -/
theorem Calls.stepB {v : Value} (h : Calls P f args W (fun e w' => e = .returned v ∧ Below W.heap.size W w')) (HB : Aside0 (Below w.heap.size w W))
    (k : ∀ w', Aside0 (Below W.heap.size W w') → Aside0 (Below w.heap.size w w') → Q (.returned v) w') : Calls P f args W Q := by
  refine h.mono ?_
  rintro e w' ⟨rfl, hb⟩
  exact k w' ⟨hb⟩ ⟨below_step HB.out hb⟩
theorem Calls.dB {v : Value} (h : Calls P f args W (fun e w' => e = .returned v ∧ Drawn0 W w')) : Calls P f args W (fun e w' => e = .returned v ∧ Below W.heap.size W w') := by
  refine h.mono ?_
  rintro e w' ⟨rfl, ⟨nd, rfl⟩⟩
  exact ⟨rfl, pw_below_drewN (Below.refl _ _) nd⟩
theorem Calls.stepEq {v : Value} (h : Calls P f args W (fun e w' => e = .returned v ∧ W = w')) (k : Q (.returned v) W) : Calls P f args W Q := by
  refine h.mono ?_
  rintro e w' ⟨rfl, rfl⟩
  exact k
/-- A call that tells a row of its own. -/
theorem Calls.stepR {α : Type} {d : Kd α} {e : Nat} {ok : Nat → Prop} {xs : List α} (h : Calls P f args W (fun en w' => ∃ v, en = .returned v ∧ d.R e w' W.heap.size ok v xs ∧ Below W.heap.size W w')) (HB : Aside0 (Below w.heap.size w W))
    (k : ∀ A c w', Aside0 (Below W.heap.size W w') → Aside0 (d.R e w' w.heap.size ok (.slice A xs.length c) xs) → Aside0 (d.C w' A xs.length xs) → Aside0 (Below w.heap.size w w') → Q (.returned (.slice A xs.length c)) w') : Calls P f args W Q := by
  refine h.mono ?_
  rintro e w' ⟨v, rfl, hv, hb⟩
  obtain ⟨A, c, rfl, _, hC⟩ := Kd.R_reads hv
  exact k A c w' ⟨hb⟩ ⟨Kd.R_lower hv (below_size HB.out)⟩ ⟨hC⟩ ⟨below_step HB.out hb⟩
end

section
variable {P : Program} {ops : Array Oper} {rest : List Oper} {o : Oper} {a : Act} {Q : Exit → Act → World → Prop}
/-- A row of bytes appended to a row of the call's own. -/
theorem R_apps_u8 {w0 W : World} {s x : Operand} {t e : TypeId} {v : Value} {xs ys : List Int} {A : Option Addr} {m c : Nat} (hgd : o.guard = none)
    (ho : o.op = .call { callee := .builtin .append, args := #[s, x], argTypes := #[t, t] }) (hs : a.eval s = v) (hx : a.eval x = .slice A m c)
    (ht : P.underlying t = some (.slice e)) (hinfo : (P.info? e).map (fun i => (i.zero, i.size, i.bytes)) = some (some (.int .u8 0), 1, 1))
    (HO : Aside0 ((Kd.int .u8).R e W w0.heap.size (fun _ => True) v xs)) (HR : (Kd.int .u8).C W A m ys) (HB : Aside0 (Below w0.heap.size w0 W)) (hl : Aside0 (xs.length + m ≤ 140737488355328))
    (h : ∀ v1 w1, Aside0 ((Kd.int .u8).R e w1 w0.heap.size (fun _ => True) v1 (xs ++ ys)) → Aside0 (Below w0.heap.size w0 w1) → wpList P ops Q rest (a.put o.dst v1) w1) :
    wpList P ops Q (o :: rest) a W := by
  have hl' := hl.out
  refine Kd.R_append_rows (Kd.int .u8) (Rr := (Kd.int .u8).K W) (w0 := w0) w0.heap.size hgd s x t e (.int .u8 0) 1 ho ht hinfo rfl (by decide) (by omega) v xs ys A m c (fun _ => True) (fun _ => False) hs hx HO.out HR (fun x cs h => h) (fun _ hk => hk.elim) (fun _ _ => trivial) HB.out (below_size HB.out) (by omega) ?_
  intro v1 w1 ho hb _ _
  exact h v1 w1 ⟨ho⟩ ⟨hb⟩
end
theorem C_take {k : IntKind} {w : World} {A : Option Addr} {n : Nat} {xs : List Int} (h : (Kd.int k).C w A n xs) (j : Nat) (hj : j ≤ n) : (Kd.int k).C w A j (xs.take j) := by
  obtain ⟨h1, h2, h3⟩ := h
  refine ⟨by rw [List.length_take]; omega, by omega, fun hn => ?_⟩
  obtain ⟨ad, e, hc⟩ := h3 (by omega)
  refine ⟨ad, e, fun i p hp => hc i p ?_⟩
  obtain ⟨hl, hp⟩ := List.getElem?_eq_some_iff.1 hp
  rw [List.length_take] at hl
  rw [List.getElem_take] at hp
  rw [List.getElem?_eq_getElem (by omega), hp]
end Go.Proofs.Ytmbfjaogimkncaa
