/- Package chunk: take: what it tells and turns; no condition. -/
import Derived.Test.YtmbfjaogimkncaaFr
import Derived.Test.YtmbfjaogimkncaaDict
namespace Go.Proofs.Ytmbfjaogimkncaa
open Go.RowKit Go.Proofs.YtmbfjaogimkncaaW.PrintWords Go.Proofs.YtmbfjaogimkncaaW.PrintLast Go.Proofs.YtmbfjaogimkncaaW.PrintMore
set_option linter.unusedVariables false
set_option linter.unusedSimpArgs false
theorem R_apps_row {ops : Array Oper} {rest : List Oper} {o : Oper} {a : Act} {Q : Exit → Act → World → Prop} {W : World} {base : Nat} {ok : Nat → Prop} {s x : Operand} {t : TypeId} {v : Value} {xs ys : List Int} {A : Option Addr} {m c : Nat} (hgd : o.guard = none)
    (ho : o.op = .call { callee := .builtin .append, args := #[s, x], argTypes := #[t, t] }) (hs : a.eval s = v) (hx : a.eval x = .slice A m c)
    (ht : Try.prog.underlying t = some (.slice 5))
    (HO : (Kd.int .u8).R 5 W base ok v xs) (HR : (Kd.int .u8).C W A m ys) (hb : base ≤ W.heap.size) (hl : xs.length + m ≤ 140737488355328) {n1 : Nat} (hn1 : n1 = xs.length + m)
    (h : ∀ A1 c1 w1, (Kd.int .u8).R 5 w1 base (fun k => some k = (Value.slice A1 n1 c1).ownBlock) (.slice A1 n1 c1) (xs ++ ys) → W.grownBy w1 v.ownBlock → ((Value.slice A1 n1 c1).ownBlock = v.ownBlock ∨ ∃ k, (Value.slice A1 n1 c1).ownBlock = some k ∧ W.heap.size ≤ k) → wpList Try.prog ops Q rest (a.put o.dst (.slice A1 n1 c1)) w1) :
    wpList Try.prog ops Q (o :: rest) a W := by
  refine Kd.R_append_rows (Kd.int .u8) (Rr := (Kd.int .u8).K W) (w0 := W) base hgd s x t 5 (.int .u8 0) 1 ho ht iB rfl (by decide) (by omega) v xs ys A m c (fun _ => True) (fun _ => False) hs hx (Kd.R_reok rfl HO (fun _ _ => trivial)) HR (fun x cs h => h) (fun _ hk => hk.elim) (fun _ _ => trivial) ((Below.refl _ _).mono hb) hb (by omega) ?_
  intro v1 w1 hR hb hg hat
  obtain ⟨A1, c1, rfl, _, _⟩ := Kd.R_reads hR
  have e1 : (xs ++ ys).length = n1 := by rw [List.length_append, hn1, HR.1]
  rw [e1] at hR hat ⊢
  exact h A1 c1 w1 (Kd.R_tight rfl hR) hg (hat.imp id (fun ⟨b, h1, h2⟩ => ⟨b, h1, h2⟩))
def FrTurn (f : Fr) (f' : Value → Fr) (w w' : World) : Prop := ∃ v', FrAt (f' v') w' ∧ Chg f.F w w' ∧ (v'.ownBlock = f.v.ownBlock ∨ ∃ k, v'.ownBlock = some k ∧ w.heap.size ≤ k)
set_option maxHeartbeats 4000000 in
set_option maxRecDepth 100000 in
theorem frtake_calls (f : Fr) (A : Option Addr) (c : Nat) (xs : List Int) (n : Nat) (hn : xs.length = n) (w : World) (h : FrAt f w) (hC : (Kd.int .u8).C w A n xs) (hx : ∀ x ∈ xs, 0 ≤ x ∧ x < 256) (hb : f.pos + n ≤ 140737488350000) :
    Calls Try.prog 95 #[.pointer (some ⟨f.g, 0, none⟩), .slice A n c] w fun e w' => e = .returned (.tuple #[]) ∧ FrTurn f (fun v' => ⟨f.g, f.most, f.pos + n, v', f.op ++ xs, f.need, f.ended⟩) w w' := by
  have H := Aside0.mk h
  have HC := Aside0.mk hC
  have HX := Aside0.mk hx
  have HN := Aside0.mk hn
  have hle := h.le
  obtain ⟨A0, c0, hv, _, _⟩ := h.slice
  have HV := Aside0.mk hv
  have hR := h.row
  have hb0 := h.blk
  rw [hv] at hR hb0
  have HR := Aside0.mk hR
  have HBL := Aside0.mk hb0
  have c2 := (blk_cell hb0 2).trans rfl
  have hpb : (f.pos : Int) + (n : Int) ≤ 140737488350000 := by omega
  have hll : f.op.length + n ≤ 140737488355328 := by omega
  obtain ⟨n1, hn1⟩ : ∃ n1, n1 = f.op.length + n := ⟨_, rfl⟩
  have HN1 := Aside0.mk hn1
  clear h hC hx hn hv hR hb0 hn1
  go_enter Try.func95, Try.ntmps95
  go_wp2_with (first | ((with_reducible refine gate_dst (N := 10) rfl ?_); at_builtin; go_must (refine R_apps_row (v := .slice A0 f.op.length c0) rfl rfl rfl rfl uB HR.out HC.out (Nat.zero_le _) hll HN1.out ?_); intro A1 c1 w1 hr1 hg1 hat1; have HR1 := Aside0.mk hr1; have HGR := Aside0.mk hg1; have HAT := Aside0.mk hat1; have hblk := (hg1.block _ (blk_lt HBL.out) (by have h := H.out.own_g; rwa [HV.out] at h)).trans HBL.out; have HBLK := Aside0.mk hblk; have f2 := blk_frozen hblk 2; have c21 := (blk_cell hblk 2).trans rfl; have HBS := Aside0.mk ((blk_put hblk 2 (.slice A1 n1 c1) rfl).trans rfl); have f1 := blk_frozen HBS.out 1; have c1b := (blk_cell HBS.out 1).trans rfl; clear hr1 hg1 hat1 hblk))
  go_end0
  have hg1 : some f.g ≠ (Value.slice A1 n1 c1).ownBlock := by
    have e1 := H.out.own_g
    have e2 := blk_lt H.out.blk
    rcases HAT.out with hat | ⟨k, hk, hl⟩
    · rw [HV.out, ← hat] at e1
      exact e1
    · intro e
      rw [hk] at e
      injection e with e
      omega
  refine ⟨rfl, .slice A1 n1 c1, ⟨?_, ?_, ?_, hb, ?_⟩, ?_, ?_⟩
  · exact (blk_put HBS.out 1 (.int .i64 ((f.pos : Int) + (n : Int))) rfl).trans rfl
  · refine Kd.R_step HR1.out (fun k hk hl => ?_)
    have hne : k ≠ f.g := fun e => hg1 (e ▸ hk)
    rw [Below.heap_setCell _ _ _ k hne, Below.heap_setCell _ _ _ k hne]
  · show (f.op ++ xs).length ≤ f.pos + n
    rw [List.length_append, HN.out]
    omega
  · intro x hx
    rcases List.mem_append.1 hx with hx | hx
    · exact H.out.bytes x hx
    · exact HX.out x hx
  · have e1 : Chg f.F w w1 := Chg.of_grown HGR.out (fun k hk => .inr (by rw [HV.out, hk]))
    have e2 : Chg f.F w (w1.setCell ⟨f.g, 2, none⟩ (.slice A1 n1 c1)) := e1.setCell (.inl (show f.F f.g from .inl rfl)) _
    exact e2.setCell (.inl (show f.F f.g from .inl rfl)) _
  · rcases HAT.out with hat | hat
    · left
      rw [HV.out]
      exact hat
    · exact .inr hat
end Go.Proofs.Ytmbfjaogimkncaa
