/- Package batch: Normal; no condition. -/
import Derived.Test.YteamldgngknmfaaZKBatch
import Derived.Test.YteamldgngknmfaaZKEachX
import Derived.Test.YteamldgngknmfaaZKMNorm
import Derived.Test.YteamldgngknmfaaZKRNormM
import Derived.Test.YteamldgngknmfaaZKPEx11
import Derived.Maps.OwnOps
import Derived.Maps.OwnSet
import Derived.StringKeys
namespace Go.Proofs.Yteamldgngknmfaa
open Go.RowKit Go.Proofs.YteamldgngknmfaaW.PrintWords Go.Proofs.YteamldgngknmfaaW.PrintLast Go.Proofs.YteamldgngknmfaaW.PrintMore Go.Proofs.Yteamldgngknmfaa.PE
set_option linter.unusedVariables false
set_option linter.unusedSimpArgs false
attribute [local go_sem] ea_fn ea_depth Fence.wide_round Oper.semAt_some
structure YM where
 n : MetS
 e : Int
 A2 : Option Addr
 c2 : Nat
 A4 : Option Addr
 c4 : Nat
structure OkY (m : MetS) (B : Nat) (x : YM) (W : World) : Prop where
 n : x.n = (metNorm m).1
 e : x.e = (metNorm m).2
 l2 : x.n.f2.length ≤ x.c2
 l4 : x.n.f4.length ≤ x.c4
 r2 : Kd.F k40 W (fun k => B ≤ k) x.A2 x.n.f2.length x.n.f2
 r4 : Kd.F k37 W (fun k => B ≤ k) x.A4 x.n.f4.length x.n.f4
theorem OkY.below {m : MetS} {B : Nat} {x : YM} {W W' : World} (h : OkY m B x W) (hb : Below W.heap.size W W') : OkY m B x W' := ⟨h.n, h.e, h.l2, h.l4, Kd.F_below h.r2 hb, Kd.F_below h.r4 hb⟩
theorem OkY.lower {m : MetS} {B B' : Nat} {x : YM} {W : World} (h : OkY m B x W) (hb : B' ≤ B) : OkY m B' x W := ⟨h.n, h.e, h.l2, h.l4, Kd.F_mono h.r2 (fun k hk => Nat.le_trans hb hk), Kd.F_mono h.r4 (fun k hk => Nat.le_trans hb hk)⟩
theorem OkY.chg {m : MetS} {B : Nat} {x : YM} {W W' : World} (h : OkY m B x W) (hc : Chg (fun k => k < B) W W') : OkY m B x W' :=
 ⟨h.n, h.e, h.l2, h.l4, Kd.F_step h.r2 (fun k hk hl => hc.block k hl (by omega)), Kd.F_step h.r4 (fun k hk hl => hc.block k hl (by omega))⟩
theorem normfn_calls (m : MetS) (hi : PE.metIn m = true) (h2 : m.f2.length < 1000000) (h4 : m.f4.length < 1000000) (Av : Option Addr) (cv : Nat) (At : Option Addr) (ct : Nat) (W : World) (hm : MetC m Av cv At ct W) :
  Calls Try.prog 18 #[.agg #[.string m.f0, .int .i64 m.f1, .slice Av m.f2.length cv, .int .i64 m.f3, .slice At m.f4.length ct, .int .i64 m.f5]] W fun e W' => ∃ x : YM, e = .returned (.tuple #[.agg #[.string x.n.f0, .int .i64 x.n.f1, .slice x.A2 x.n.f2.length x.c2, .int .i64 x.n.f3, .slice x.A4 x.n.f4.length x.c4, .int .i64 x.n.f5], .int .i64 x.e]) ∧ OkY m W.heap.size x W' ∧ Below W.heap.size W W' := by
 refine (mnorm_calls m Av cv At ct W hm hi h2 h4).mono ?_
 rintro e W' ⟨v2, v4, rfl, hr, hv, hb⟩
 have hr2 := Kd.R_mono (Kd.R_bound hr) (ok' := fun k => W.heap.size ≤ k) (fun k hk => hk.2.1)
 obtain ⟨A2, c2, rfl, l2, f2⟩ := Kd.R_V (base' := 0) hr2
 obtain ⟨A4, c4, rfl, l4, f4⟩ := Kd.V_mono hv (ok' := fun k => W.heap.size ≤ k) (fun k hk => hk.1)
 exact ⟨⟨(metNorm m).1, (metNorm m).2, A2, c2, A4, c4⟩, rfl, ⟨rfl, rfl, l2, l4, f2, f4⟩, hb⟩
def ngo (m : MetS) : Int := (metNorm m).2
theorem N_putOther {e base : Nat} {W : World} {v : Value} {xs : List MetS} (h : Kd.N kMet e W base (fun k => base ≤ k) v xs) {r : Nat} (hr : r < base) (o' : Obj) : Kd.N kMet e (W.putObj r o') base (fun k => base ≤ k) v xs :=
 Kd.N_step h (fun k hk _ => World.putObj_heap_other (by omega))
def batNorm (l : List MetS) : List MetS × Int × Int := if 1000 < (l.length : Int) then ([], 1000, 12) else if (batGo ngo l 0).2 = 0 then (l.map fun m => (metNorm m).1, 0, 0) else ([], batGo ngo l 0)
set_option maxHeartbeats 4000000 in
set_option maxRecDepth 100000 in
theorem all_eachm_m (okx : MetS → Nat → YM → World → Prop) (hokb : ∀ m B x W W', okx m B x W → Below W.heap.size W W' → okx m B x W') (hokl : ∀ m B B' x W, okx m B x W → B' ≤ B → okx m B' x W)
  (ms : List MetS) (A : Option Addr) (c : Nat) (w0 : World) (hC : kMet.C w0 A ms.length ms) (hin : ∀ m ∈ ms, PE.metIn m = true)
  (hof : ∀ m ∈ ms, ∀ Av cv At ct W, MetC m Av cv At ct W → Calls Try.prog 18 #[.agg #[.string m.f0, .int .i64 m.f1, .slice Av m.f2.length cv, .int .i64 m.f3, .slice At m.f4.length ct, .int .i64 m.f5]] W fun e W' => ∃ x, e = .returned (.tuple #[.agg #[.string x.n.f0, .int .i64 x.n.f1, .slice x.A2 x.n.f2.length x.c2, .int .i64 x.n.f3, .slice x.A4 x.n.f4.length x.c4, .int .i64 x.n.f5], .int .i64 x.e]) ∧ okx m W.heap.size x W' ∧ Below W.heap.size W W')
  (bl bo : Nat) (T : Nat → Prop) (hT : ∀ k, T k → w0.heap.size ≤ k) (hTl : ¬ T bl) (hTo : ¬ T bo) (n : Nat) (w : World) (hb : Below w0.heap.size w0 w)
  (hbl : w.heap[bl]? = some (.cells #[.slice A ms.length c] 42 (0, 0))) (hbo : w.heap[bo]? = some (.cells #[.func (.func 18) #[] #[]] 31 (0, 0))) :
  SeqEach n Try.prog 98 #[.pointer (some ⟨bl, 0, none⟩), .pointer (some ⟨bo, 0, none⟩)] (fun x : YM => #[.agg #[.string x.n.f0, .int .i64 x.n.f1, .slice x.A2 x.n.f2.length x.c2, .int .i64 x.n.f3, .slice x.A4 x.n.f4.length x.c4, .int .i64 x.n.f5], .int .i64 x.e])
   (fun pre B x W => ∃ m, ms[pre.length]? = some m ∧ okx m B x W) T (fun xs => xs.length = ms.length ∨ ∃ x ∈ xs, x.e ≠ 0) ms.length w := by
 intro l J Jx W hW hJ hJx hY h0
 have HJ := Aside0.mk hJ
 have HJX := Aside0.mk hJx
 have HY := Aside0.mk hY
 have H0 := Aside0.mk h0
 have HB0 : Aside0 (Below w0.heap.size w0 W) := ⟨hb.trans (hW.mono hb.size)⟩
 have HBL : Aside0 (W.heap[bl]? = some (.cells #[.slice A ms.length c] 42 (0, 0))) := ⟨(hW.block _ (blk_lt hbl)).trans hbl⟩
 have HBO : Aside0 (W.heap[bo]? = some (.cells #[.func (.func 18) #[] #[]] 31 (0, 0))) := ⟨(hW.block _ (blk_lt hbo)).trans hbo⟩
 have HC := Aside0.mk hC
 have HIN := Aside0.mk hin
 have HOF := Aside0.mk hof
 have HOL := Aside0.mk hokl
 have HOBB := Aside0.mk hokb
 have HT : Aside0 ((∀ k, T k → w0.heap.size ≤ k) ∧ ¬ T bl ∧ ¬ T bo) := ⟨hT, hTl, hTo⟩
 clear hJ hJx hY h0 hb hW hbl hbo hC hin hof hokl hokb hT hTl hTo
 obtain ⟨N, hN⟩ : ∃ N, ms.length = N := ⟨_, rfl⟩
 have HN := Aside0.mk hN
 rw [hN] at HBL
 have kl : W.cell? ⟨bl, 0, none⟩ = some (.slice A N c) := (blk_cell HBL.out 0).trans rfl
 clear hN
 refine callsIn_of_wp Try.func98 rfl trivial ?_ rfl
 simp only [Try.ntmps98, List.size_toArray, List.length_cons, List.length_nil, Nat.reduceAdd, Nat.reduceSub, Array.replicate_succ, Array.replicate_zero, List.push_toArray, List.append_toArray, List.nil_append, List.cons_append]
 gi_wp2
 gi_loopw [10] (fun i wr => ∃ (k : Int) (pre : List YM), i = .int .i64 k ∧ Aside0 (k = (pre.length : Int)) ∧ Aside0 (pre.length ≤ N ∧ ∀ x ∈ pre, x.e = 0) ∧ Aside0 (J pre wr) ∧ Aside0 (Below w0.heap.size w0 wr) ∧ Aside0 (wr.heap[bl]? = some (.cells #[.slice A N c] 42 (0, 0))) ∧ Aside0 (wr.heap[bo]? = some (.cells #[.func (.func 18) #[] #[]] 31 (0, 0)))) (fun i wr => eaLeft N i)
 case atStart => exact ⟨0, [], rfl, ⟨rfl⟩, ⟨⟨Nat.zero_le _, fun x hx => by cases hx⟩⟩, H0, HB0, HBL, HBO⟩
 case round =>
  clear HBL HBO HB0 H0 kl
  obtain ⟨k, pre, rfl, HK, HP, H0, HB0, HBL, HBO⟩ := hrel
  have hk := HK.out
  by_cases hlt : pre.length < N
  ·have hi0 : 0 ≤ k := by omega
   have hi1 : k < (N : Int) := by omega
   have hd : decide (k < (N : Int)) = true := decide_eq_true hi1
   have hd0 : decide (0 ≤ k) = true := decide_eq_true hi0
   obtain ⟨ad, A2, c2, A4, c4, e0, x0, x1, x2, x3, x4, x5, l2, i2, l4, i4⟩ := at_T25 (Kd.C_below HC.out HB0.out) k hi0 (by rw [HN.out]; exact hi1)
   cases e0
   obtain ⟨m, hm⟩ : ∃ m, rd_T25 ms k = m := ⟨_, rfl⟩
   have hget : ms[pre.length]? = some m := by
    rw [← hm]
    unfold rd_T25
    rw [hk, Int.toNat_natCast, List.getD_eq_getElem?_getD, List.getElem?_eq_getElem (by rw [HN.out]; exact hlt)]
    rfl
   have hmem : m ∈ ms := List.mem_of_getElem? hget
   rw [hm] at x0 x1 x2 x3 x4 x5 l2 i2 l4 i4
   clear hm
   have HGET := Aside0.mk hget
   have HMC := Aside0.mk (PE.metC_of i2 l2 i4 l4 (HIN.out m hmem))
   have HCALL := Aside0.mk (fun W hW => HOF.out m hmem A2 c2 A4 c4 W (HMC.out.below hW))
   have kl : wr.cell? ⟨bl, 0, none⟩ = some (.slice (some ad) N c) := (blk_cell HBL.out 0).trans rfl
   have ko : (wr.alloc (.cells #[.string m.f0, .int .i64 m.f1, .slice A2 m.f2.length c2, .int .i64 m.f3, .slice A4 m.f4.length c4, .int .i64 m.f5] 25)).cell? ⟨bo, 0, none⟩ = some (.func (.func 18) #[] #[]) := (blk_cell (blk_alloc HBO.out _) 0).trans rfl
   have HLT := Aside0.mk hlt
   have HKK := Aside0.mk hk
   have hadd : wrap64 (k + 1) = k + 1 := by
    unfold wrap64
    have := HC.out.2.1
    have := HN.out
    omega
   clear i2 l2 i4 l4 hget hmem hlt hk
   gi_wp2_with fail
   refine (callsIn_wide.2 (HCALL.out _ (below_alloc (Below.refl _ _) _))).mono ?_
   rintro e w1 ⟨x, rfl, hox, hb1⟩
   have hbq : Below w1.heap.size w1 (w1.alloc (.cells #[.string x.n.f0, .int .i64 x.n.f1, .slice x.A2 x.n.f2.length x.c2, .int .i64 x.n.f3, .slice x.A4 x.n.f4.length x.c4, .int .i64 x.n.f5] 25)) := below_alloc (Below.refl _ _) _
   have hbw0 : Below wr.heap.size wr w1 := below_step (below_alloc (Below.refl _ _) _) hb1
   have hbw : Below wr.heap.size wr (w1.alloc (.cells #[.string x.n.f0, .int .i64 x.n.f1, .slice x.A2 x.n.f2.length x.c2, .int .i64 x.n.f3, .slice x.A4 x.n.f4.length x.c4, .int .i64 x.n.f5] 25)) := below_step hbw0 hbq
   obtain ⟨fn, tmps, assign, body, hy, hR⟩ := HY.out pre x wr _ H0.out hbw ⟨m, HGET.out, HOL.out _ _ _ _ _ (HOBB.out _ _ _ _ _ hox hbq) (by simp)⟩ (by rw [HN.out]; exact HLT.out)
   try dsimp only at hy
   have HRR := Aside0.mk hR
   have HBW := Aside0.mk hbw
   clear hR hox hbw hb1 hbw0 hbq
   gi_wp2_with fail
   generalize (w1.alloc (.cells #[.string x.n.f0, .int .i64 x.n.f1, .slice x.A2 x.n.f2.length x.c2, .int .i64 x.n.f3, .slice x.A4 x.n.f4.length x.c4, .int .i64 x.n.f5] 25)) = w1 at HRR HBW ⊢
   refine (ea_round HRR.out).mono ?_
   clear hy HRR
   have hb0 : Below w0.heap.size w0 w1 := HB0.out.trans (HBW.out.mono HB0.out.size)
   have hbl1 : w1.heap[bl]? = some (.cells #[.slice (some ad) N c] 42 (0, 0)) := (HBW.out.block _ (blk_lt HBL.out)).trans HBL.out
   have hbo1 : w1.heap[bo]? = some (.cells #[.func (.func 18) #[] #[]] 31 (0, 0)) := (HBW.out.block _ (blk_lt HBO.out)).trans HBO.out
   have HB1 := Aside0.mk hb0
   have HBL1 := Aside0.mk hbl1
   have HBO1 := Aside0.mk hbo1
   clear HCALL HBL HBO HB0 hb0 hbl1 hbo1 kl ko x0 x1 x2 x3 x4 x5 HMC
   rintro e W5 (⟨rfl, hJ5, hk5⟩ | ⟨rfl, hJ5⟩)
   ·have HJ5 := Aside0.mk hJ5
    have HB5 : Aside0 (Below w0.heap.size w0 W5) := ⟨HB1.out.trans (hk5.to_below (fun k hk => HT.out.1 k hk) HB1.out.size)⟩
    have HBL5 : Aside0 (W5.heap[bl]? = some (.cells #[.slice (some ad) N c] 42 (0, 0))) := ⟨(hk5.block _ (blk_lt HBL1.out) HT.out.2.1).trans HBL1.out⟩
    have HBO5 : Aside0 (W5.heap[bo]? = some (.cells #[.func (.func 18) #[] #[]] 31 (0, 0))) := ⟨(hk5.block _ (blk_lt HBO1.out) HT.out.2.2).trans HBO1.out⟩
    clear hJ5 hk5
    by_cases hc : x.e = 0
    ·have hcb : (x.e != 0) = false := bne_eq_false_iff_eq.mpr hc
     have HCX := Aside0.mk hc
     clear hc
     gi_wp2
     go_roundw
     case rel => exact ⟨k + 1, pre ++ [x], by rw [hadd], ⟨by rw [HKK.out]; simp⟩, ⟨by have := HLT.out; simp only [List.length_append, List.length_singleton]; omega, by
      intro y hy
      rcases List.mem_append.mp hy with hy | hy
      ·exact HP.out.2 y hy
      ·rw [List.mem_singleton.mp hy]; exact HCX.out⟩, HJ5, HB5, HBL5, HBO5⟩
     case measure => rw [hadd]; show N - (k + 1).toNat < N - k.toNat; omega
    ·have hcb : (x.e != 0) = true := bne_iff_ne.mpr hc
     have HCX := Aside0.mk hc
     clear hc
     gi_wp2
     refine bodyPost_ret (results_none rfl _ _ _) rfl ?_
     exact ⟨⟨_, rfl⟩, .inl ⟨pre ++ [x], .inr ⟨x, by simp, HCX.out⟩, HJ5.out⟩⟩
   ·gi_wp2
    refine bodyPost_ret (results_none rfl _ _ _) rfl ?_
    exact ⟨⟨_, rfl⟩, .inr ⟨_, hJ5⟩⟩
  ·have hd : decide (k < (N : Int)) = false := decide_eq_false (by omega)
   have hpn : pre.length = N := Nat.le_antisymm HP.out.1 (Nat.not_lt.mp hlt)
   have HPN := Aside0.mk hpn
   clear hlt hk hpn
   gi_wp2
   go_end0
   exact ⟨⟨_, rfl⟩, .inl ⟨pre, .inl (by rw [HN.out]; exact HPN.out), H0.out⟩⟩
theorem allc_m (A : Option Addr) (n c g : Nat) (w : World) : Calls Try.prog 84 #[.slice A n c, .func (.func g) #[] #[]] w fun e w' => e = .returned (.func (.func 98) #[] #[.pointer (some ⟨w.heap.size, 0, none⟩), .pointer (some ⟨w.heap.size + 1, 0, none⟩)]) ∧ w' = (w.alloc (.cells #[.slice A n c] 42)).alloc (.cells #[.func (.func g) #[] #[]] 31) := by
 go_enter Try.func84, Try.ntmps84
 go_wp2
 go_ret
 exact ⟨rfl, rfl⟩
structure EachM (ms : List MetS) (w : World) (pre : List YM) (B : Nat) (W : World) : Prop where
 bel : Below w.heap.size w W
 sz : w.heap.size + 6 ≤ W.heap.size
 r4 : W.heap[w.heap.size]? = some (.cells #[.slice none 0 0] 42 (0, 0))
 r5 : W.heap[w.heap.size + 1]? = some (.cells #[.int .i64 0] 3 (0, 0))
 r6 : W.heap[w.heap.size + 1 + 1]? = some (.cells #[.int .i64 0] 28 (0, 0))
 out : ∃ v, W.heap[w.heap.size + 1 + 1 + 1]? = some (.cells #[v] 42 (0, 0)) ∧ Kd.N kMet 25 W (w.heap.size + 8) (fun k => w.heap.size + 8 ≤ k) v (pre.map YM.n) ∧ ∀ k, v.ownBlock = some k → k < B
 len : pre.length ≤ ms.length
 eq : pre.map YM.n = (ms.take pre.length).map (fun m => (metNorm m).1)
 eqe : pre.map YM.e = (ms.take pre.length).map ngo
 ok : ∀ x ∈ pre, x.e = 0
structure EachMx (ms : List MetS) (w : World) (W : World) : Prop where
 bel : Below w.heap.size w W
 r4 : W.heap[w.heap.size]? = some (.cells #[.slice none 0 0] 42 (0, 0))
 r5 : W.heap[w.heap.size + 1]? = some (.cells #[.int .i64 (batGo ngo ms 0).1] 3 (0, 0))
 r6 : W.heap[w.heap.size + 1 + 1]? = some (.cells #[.int .i64 (batGo ngo ms 0).2] 28 (0, 0))
 bad : (batGo ngo ms 0).2 ≠ 0
theorem EachM.grow {ms : List MetS} {w : World} {pre : List YM} {B : Nat} {A A' : World} (h : EachM ms w pre B A) (hb : Below A.heap.size A A') : EachM ms w pre B A' where
 bel := below_step h.bel hb
 sz := Nat.le_trans h.sz hb.size
 r4 := (hb.block _ (blk_lt h.r4)).trans h.r4
 r5 := (hb.block _ (blk_lt h.r5)).trans h.r5
 r6 := (hb.block _ (blk_lt h.r6)).trans h.r6
 out := by
  obtain ⟨v, h1, h2, h3⟩ := h.out
  exact ⟨v, (hb.block _ (blk_lt h1)).trans h1, Kd.N_below h2 hb, h3⟩
 len := h.len
 eq := h.eq
 eqe := h.eqe
 ok := h.ok
theorem EachM.upto {ms : List MetS} {w : World} {pre : List YM} {B B' : Nat} {A : World} (h : EachM ms w pre B A) (hb : B ≤ B') : EachM ms w pre B' A where
 bel := h.bel
 sz := h.sz
 r4 := h.r4
 r5 := h.r5
 r6 := h.r6
 out := by
  obtain ⟨v, h1, h2, h3⟩ := h.out
  exact ⟨v, h1, h2, fun k hk => Nat.lt_of_lt_of_le (h3 k hk) hb⟩
 len := h.len
 eq := h.eq
 eqe := h.eqe
 ok := h.ok
theorem EachMx.grow {ms : List MetS} {w : World} {A A' : World} (h : EachMx ms w A) (hb : Below A.heap.size A A') : EachMx ms w A' where
 bel := below_step h.bel hb
 r4 := (hb.block _ (blk_lt h.r4)).trans h.r4
 r5 := (hb.block _ (blk_lt h.r5)).trans h.r5
 r6 := (hb.block _ (blk_lt h.r6)).trans h.r6
 bad := h.bad
theorem EachM.put {ms : List MetS} {w : World} {pre : List YM} {B : Nat} {A : World} (h : EachM ms w pre B A) {r : Nat} {o o' : Obj} (hr : r = w.heap.size + 6 ∨ r = w.heap.size + 7) (ho : A.heap[r]? = some o) (hc : o.isCells = false) : EachM ms w pre B (A.putObj r o') where
 bel := below_putObj h.bel (by omega) _
 sz := by rw [World.putObj_size]; exact h.sz
 r4 := blk_putOther h.r4 ho hc
 r5 := blk_putOther h.r5 ho hc
 r6 := blk_putOther h.r6 ho hc
 out := by
  obtain ⟨v, h1, h2, h3⟩ := h.out
  exact ⟨v, blk_putOther h1 ho hc, N_putOther h2 (by omega) _, h3⟩
 len := h.len
 eq := h.eq
 eqe := h.eqe
 ok := h.ok
theorem EachMx.put {ms : List MetS} {w : World} {A : World} (h : EachMx ms w A) {r : Nat} {o o' : Obj} (hr : w.heap.size ≤ r) (ho : A.heap[r]? = some o) (hc : o.isCells = false) : EachMx ms w (A.putObj r o') where
 bel := below_putObj h.bel hr _
 r4 := blk_putOther h.r4 ho hc
 r5 := blk_putOther h.r5 ho hc
 r6 := blk_putOther h.r6 ho hc
 bad := h.bad
theorem eachm_results {a : Act} {W : World} {b4 b5 b6 : Nat} {v4 v5 v6 : Value} (h4 : a.eval (.tmp 4) = .pointer (some ⟨b4, 0, none⟩)) (h5 : a.eval (.tmp 5) = .pointer (some ⟨b5, 0, none⟩)) (h6 : a.eval (.tmp 6) = .pointer (some ⟨b6, 0, none⟩))
  (q4 : W.heap[b4]? = some (.cells #[v4] 42 (0, 0))) (q5 : W.heap[b5]? = some (.cells #[v5] 3 (0, 0))) (q6 : W.heap[b6]? = some (.cells #[v6] 28 (0, 0))) :
  Sem.run Try.prog (results Try.f60 a.tmps) W = .ok (.tuple #[v4, v5, v6]) W := by
 have c4 : W.cell? ⟨b4, 0, none⟩ = some v4 := (blk_cell q4 0).trans rfl
 have c5 : W.cell? ⟨b5, 0, none⟩ = some v5 := (blk_cell q5 0).trans rfl
 have c6 : W.cell? ⟨b6, 0, none⟩ = some v6 := (blk_cell q6 0).trans rfl
 have k4 : a.tmps[4]?.getD undef = .pointer (some ⟨b4, 0, none⟩) := by rw [← Array.getD_eq_getD_getElem?]; exact h4
 have k5 : a.tmps[5]?.getD undef = .pointer (some ⟨b5, 0, none⟩) := by rw [← Array.getD_eq_getD_getElem?]; exact h5
 have k6 : a.tmps[6]?.getD undef = .pointer (some ⟨b6, 0, none⟩) := by rw [← Array.getD_eq_getD_getElem?]; exact h6
 simp [results, Try.results60, go_sem, k4, k5, k6, c4, c5, c6]
set_option maxHeartbeats 4000000 in
set_option maxRecDepth 100000 in
theorem eachm_calls (ms : List MetS) (A : Option Addr) (c : Nat) (w : World) (hC : kMet.C w A ms.length ms) (hin : ∀ m ∈ ms, PE.metIn m = true) (hlm : ∀ m ∈ ms, m.f2.length < 1000000 ∧ m.f4.length < 1000000) :
  Calls Try.prog 60 #[.slice A ms.length c, .func (.func 18) #[] #[]] w fun e w' => ∃ v, e = .returned (.tuple #[v, .int .i64 (batNorm ms).2.1, .int .i64 (batNorm ms).2.2]) ∧ Kd.N kMet 25 w' w.heap.size (fun k_ => w.heap.size ≤ k_) v (batNorm ms).1 ∧ Below w.heap.size w w' := by
 have HC := Aside0.mk hC
 have HIN := Aside0.mk hin
 have HLM := Aside0.mk hlm
 have HNM := hC.2.1
 clear hC hin hlm
 by_cases hbig : 1000 < (ms.length : Int)
 ·have hd : decide ((ms.length : Int) > 1000) = true := decide_eq_true hbig
  have hd1 : decide (1000 < (ms.length : Int)) = true := decide_eq_true hbig
  have hd2 : decide (1000 < ms.length) = true := decide_eq_true (by omega)
  have HE : Aside0 (batNorm ms = ([], 1000, 12)) := ⟨if_pos hbig⟩
  clear hbig
  go_enter Try.func60, Try.ntmps60
  go_wp2
  have q4 : (((w.alloc (.cells #[.slice none 0 0] 42)).alloc (.cells #[.int .i64 1000] 3)).alloc (.cells #[.int .i64 12] 28)).heap[w.heap.size]? = some (.cells #[.slice none 0 0] 42 (0, 0)) := blk_alloc (blk_alloc (blk_new w _) _) _
  have q5 : (((w.alloc (.cells #[.slice none 0 0] 42)).alloc (.cells #[.int .i64 1000] 3)).alloc (.cells #[.int .i64 12] 28)).heap[w.heap.size + 1]? = some (.cells #[.int .i64 1000] 3 (0, 0)) := by
   have := blk_alloc (blk_new (w.alloc (.cells #[.slice none 0 0] 42)) (.cells #[.int .i64 1000] 3)) (.cells #[.int .i64 12] 28)
   rwa [World.size_alloc] at this
  have q6 : (((w.alloc (.cells #[.slice none 0 0] 42)).alloc (.cells #[.int .i64 1000] 3)).alloc (.cells #[.int .i64 12] 28)).heap[w.heap.size + 1 + 1]? = some (.cells #[.int .i64 12] 28 (0, 0)) := by
   have := blk_new ((w.alloc (.cells #[.slice none 0 0] 42)).alloc (.cells #[.int .i64 1000] 3)) (.cells #[.int .i64 12] 28)
   rwa [World.size_alloc, World.size_alloc] at this
  refine bodyPost_ret (eachm_results (v4 := .slice none 0 0) (v5 := .int .i64 1000) (v6 := .int .i64 12) rfl rfl rfl q4 q5 q6) rfl ?_
  rw [HE.out]
  exact ⟨_, rfl, Kd.N_nil _ _ _ _ _, below_alloc (below_alloc (below_alloc (Below.refl _ _) _) _) _⟩
 ·have hd : decide ((ms.length : Int) > 1000) = false := decide_eq_false hbig
  have hd1 : decide (1000 < (ms.length : Int)) = false := decide_eq_false hbig
  have hd2 : decide (1000 < ms.length) = false := decide_eq_false (by omega)
  have HE : Aside0 (batNorm ms = if (batGo ngo ms 0).2 = 0 then (ms.map fun m => (metNorm m).1, 0, 0) else ([], batGo ngo ms 0)) := ⟨if_neg hbig⟩
  have HBIG := Aside0.mk hbig
  clear hbig
  obtain ⟨N, hN⟩ : ∃ N, ms.length = N := ⟨_, rfl⟩
  rw [hN] at hd hd1 hd2 HNM
  have HN := Aside0.mk hN
  have HNMX := Aside0.mk HNM
  rw [hN]
  clear hN HNM
  refine (callsIn_wide (n := 0)).1 ?_
  refine callsIn_of_wp_marks Try.func60 rfl trivial ?_ rfl
  simp only [Try.ntmps60, List.size_toArray, List.length_cons, List.length_nil, Nat.reduceAdd, Nat.reduceSub, Array.replicate_succ, Array.replicate_zero, List.push_toArray, List.append_toArray, List.nil_append, List.cons_append]
  gi_wp2_with fail
  refine (callsIn_wide.2 (allc_m _ _ _ _ _)).mono ?_
  rintro e w1 ⟨rfl, rfl⟩
  gi_wp2_with fail
  obtain ⟨W0, hW0⟩ : ∃ W0, ((((((w.alloc (.cells #[.slice none 0 0] 42)).alloc (.cells #[.int .i64 0] 3)).alloc (.cells #[.int .i64 0] 28)).alloc (.cells #[.slice none 0 0] 42)).alloc (.cells #[.slice A N c] 42)).alloc (.cells #[.func (.func 18) #[] #[]] 31)) = W0 := ⟨_, rfl⟩
  rw [hW0]
  have hbl : Below w.heap.size w W0 := by rw [← hW0]; exact below_alloc (below_alloc (below_alloc (below_alloc (below_alloc (below_alloc (Below.refl _ _) _) _) _) _) _) _
  have hs : W0.heap.size = w.heap.size + 6 := by rw [← hW0]; simp only [World.size_alloc]
  have q4 : W0.heap[w.heap.size]? = some (.cells #[.slice none 0 0] 42 (0, 0)) := by rw [← hW0]; exact blk_alloc (blk_alloc (blk_alloc (blk_alloc (blk_alloc (blk_new w _) _) _) _) _) _
  have q5 : W0.heap[w.heap.size + 1]? = some (.cells #[.int .i64 0] 3 (0, 0)) := by
   rw [← hW0]
   have := blk_new (w.alloc (.cells #[.slice none 0 0] 42)) (.cells #[.int .i64 0] 3)
   simp only [World.size_alloc] at this
   exact blk_alloc (blk_alloc (blk_alloc (blk_alloc this _) _) _) _
  have q6 : W0.heap[w.heap.size + 1 + 1]? = some (.cells #[.int .i64 0] 28 (0, 0)) := by
   rw [← hW0]
   have := blk_new ((w.alloc (.cells #[.slice none 0 0] 42)).alloc (.cells #[.int .i64 0] 3)) (.cells #[.int .i64 0] 28)
   simp only [World.size_alloc] at this
   exact blk_alloc (blk_alloc (blk_alloc this _) _) _
  have q7 : W0.heap[w.heap.size + 1 + 1 + 1]? = some (.cells #[.slice none 0 0] 42 (0, 0)) := by
   rw [← hW0]
   have := blk_new (((w.alloc (.cells #[.slice none 0 0] 42)).alloc (.cells #[.int .i64 0] 3)).alloc (.cells #[.int .i64 0] 28)) (.cells #[.slice none 0 0] 42)
   simp only [World.size_alloc] at this
   exact blk_alloc (blk_alloc this _) _
  have q8 : W0.heap[w.heap.size + 1 + 1 + 1 + 1]? = some (.cells #[.slice A ms.length c] 42 (0, 0)) := by
   rw [← hW0, HN.out]
   have := blk_new ((((w.alloc (.cells #[.slice none 0 0] 42)).alloc (.cells #[.int .i64 0] 3)).alloc (.cells #[.int .i64 0] 28)).alloc (.cells #[.slice none 0 0] 42)) (.cells #[.slice A N c] 42)
   simp only [World.size_alloc] at this
   exact blk_alloc this _
  have q9 : W0.heap[w.heap.size + 1 + 1 + 1 + 1 + 1]? = some (.cells #[.func (.func 18) #[] #[]] 31 (0, 0)) := by
   rw [← hW0]
   have := blk_new (((((w.alloc (.cells #[.slice none 0 0] 42)).alloc (.cells #[.int .i64 0] 3)).alloc (.cells #[.int .i64 0] 28)).alloc (.cells #[.slice none 0 0] 42)).alloc (.cells #[.slice A N c] 42)) (.cells #[.func (.func 18) #[] #[]] 31)
   simp only [World.size_alloc] at this
   exact this
  have HI0 : Aside0 (EachM ms w [] W0.heap.size W0) := ⟨⟨hbl, by omega, q4, q5, q6, ⟨_, q7, Kd.N_nil _ _ _ _ _, fun k hk => by simp [Value.ownBlock] at hk⟩, Nat.zero_le _, rfl, rfl, fun x hx => by cases hx⟩⟩
  have HS := Aside0.mk hs
  have HQ8 := Aside0.mk q8
  have HQ9 := Aside0.mk q9
  have HBL := Aside0.mk hbl
  clear hW0 hbl hs q4 q5 q6 q7 q8 q9
  refine range_eachb (α := YM) (gf := 98) (lb := #[.pointer (some ⟨w.heap.size + 1 + 1 + 1 + 1, 0, none⟩), .pointer (some ⟨w.heap.size + 1 + 1 + 1 + 1 + 1, 0, none⟩)]) rfl (enters_of Try.func98 (by kernel_rfl) rfl)
   (T := fun k => k = w.heap.size + 1 + 1 + 1 ∨ W0.heap.size ≤ k) (fun k hk => .inr hk) (fun pre B x W W' h hc => by obtain ⟨m, h1, h2⟩ := h; exact ⟨m, h1, OkY.chg h2 hc⟩)
   (all_eachm_m (fun m B x W => OkY m B x W) (fun m B x W W' h hb => OkY.below h hb) (fun m B B' x W h hb => OkY.lower h hb) ms A c w HC.out HIN.out ?of (w.heap.size + 1 + 1 + 1 + 1) (w.heap.size + 1 + 1 + 1 + 1 + 1)
    (fun k => k = w.heap.size + 1 + 1 + 1 ∨ W0.heap.size ≤ k) (fun k hk => by have := HS.out; omega) (by have := HS.out; omega) (by have := HS.out; omega) 0 W0 HBL.out HQ8.out HQ9.out)
   (fun _ => rfl) (fun pre B W => EachM ms w pre B W) (fun s B A A' h hb => h.grow hb) (fun s B B' A h hb => h.upto hb) (fun s B A r o o' h hr ho hc => h.put (by have := HS.out; omega) ho hc)
   (fun c s W => c = .ret ∧ EachMx ms w W) (fun c s A A' h hb => ⟨h.1, h.2.grow hb⟩) (fun c s A r o o' h hr ho hc => ⟨h.1, h.2.put (by have := HS.out; omega) ho hc⟩) HI0.out
   (fun x V => { tmps := #[.slice A N c, .func (.func 18) #[] #[], undef, undef, .pointer (some ⟨w.heap.size, 0, none⟩), .pointer (some ⟨w.heap.size + 1, 0, none⟩), .pointer (some ⟨w.heap.size + 1 + 1, 0, none⟩), .pointer (some ⟨w.heap.size + 1 + 1 + 1, 0, none⟩), .pointer (some ⟨V.heap.size, 0, none⟩), .int .i64 x.e, .slice A N c, .int .i64 N, .bool false, .slice A N c, .func (.func 18) #[] #[], .func (.func 98) #[] #[.pointer (some ⟨w.heap.size + 1 + 1 + 1 + 1, 0, none⟩), .pointer (some ⟨w.heap.size + 1 + 1 + 1 + 1 + 1, 0, none⟩)], .agg #[.string x.n.f0, .int .i64 x.n.f1, .slice x.A2 x.n.f2.length x.c2, .int .i64 x.n.f3, .slice x.A4 x.n.f4.length x.c4, .int .i64 x.n.f5], .int .i64 x.e, undef, undef, undef, undef, undef, undef, undef, undef, undef, undef], defers := [] })
   (fun x V => V.alloc (.cells #[.string x.n.f0, .int .i64 x.n.f1, .slice x.A2 x.n.f2.length x.c2, .int .i64 x.n.f3, .slice x.A4 x.n.f4.length x.c4, .int .i64 x.n.f5] 25)) (fun x V => below_alloc (Below.refl _ _) _) (fun x V W => W.heap[V.heap.size]? = some (.cells #[.string x.n.f0, .int .i64 x.n.f1, .slice x.A2 x.n.f2.length x.c2, .int .i64 x.n.f3, .slice x.A4 x.n.f4.length x.c4, .int .i64 x.n.f5] 25 (0, 0))) (fun x V => blk_new V _) (fun x V A r o o' h ho hc => blk_putOther h ho hc) ?assign ?body ?done ?stop
  case of =>
   intro m hm Av cv At ct W hmc
   exact normfn_calls m (HIN.out m hm) (HLM.out m hm).1 (HLM.out m hm).2 Av cv At ct W hmc
  case assign =>
   intro l x W K hK
   gi_wp2
   exact hK
  case body =>
   rintro l pre B x V W hi ⟨m, hm, hok⟩ hbx hB2 hBV hVW hpn
   obtain ⟨v, h7, hr, hvo⟩ := hi.out
   obtain ⟨A2, c2, hv2, hcc2, hC2⟩ := Kd.N_reads hr
   rw [List.length_map] at hv2 hcc2 hC2
   subst hv2
   have k7 : W.cell? ⟨w.heap.size + 1 + 1 + 1, 0, none⟩ = some (.slice A2 pre.length c2) := (blk_cell h7 0).trans rfl
   have x0 : W.cell? ⟨V.heap.size, 0, none⟩ = some (.string x.n.f0) := (blk_cell hbx 0).trans rfl
   have x1 : W.cell? ⟨V.heap.size, 1, none⟩ = some (.int .i64 x.n.f1) := (blk_cell hbx 1).trans rfl
   have x2 : W.cell? ⟨V.heap.size, 2, none⟩ = some (.slice x.A2 x.n.f2.length x.c2) := (blk_cell hbx 2).trans rfl
   have x3 : W.cell? ⟨V.heap.size, 3, none⟩ = some (.int .i64 x.n.f3) := (blk_cell hbx 3).trans rfl
   have x4 : W.cell? ⟨V.heap.size, 4, none⟩ = some (.slice x.A4 x.n.f4.length x.c4) := (blk_cell hbx 4).trans rfl
   have x5 : W.cell? ⟨V.heap.size, 5, none⟩ = some (.int .i64 x.n.f5) := (blk_cell hbx 5).trans rfl
   have f4 := blk_frozen hi.r4 0
   have f5 := blk_frozen hi.r5 0
   have f6 := blk_frozen hi.r6 0
   have f7 := blk_frozen h7 0
   have k4 : W.cell? ⟨w.heap.size, 0, none⟩ = some (.slice none 0 0) := (blk_cell hi.r4 0).trans rfl
   have k5 : W.cell? ⟨w.heap.size + 1, 0, none⟩ = some (.int .i64 0) := (blk_cell hi.r5 0).trans rfl
   have k6 : W.cell? ⟨w.heap.size + 1 + 1, 0, none⟩ = some (.int .i64 0) := (blk_cell hi.r6 0).trans rfl
   have HI := Aside0.mk hi
   have HM := Aside0.mk hm
   have H7 := Aside0.mk h7
   have HR := Aside0.mk hr
   have HVO := Aside0.mk hvo
   have HOK := Aside0.mk hok
   have HPN := Aside0.mk hpn
   have HB2 := Aside0.mk (And.intro hB2 (Nat.le_trans hBV hVW))
   have HB0 : Aside0 (W0.heap.size ≤ W.heap.size) := ⟨by rw [HS.out]; exact hi.sz⟩
   obtain ⟨y, hy⟩ : ∃ y, x.e = y := ⟨_, rfl⟩
   rw [hy]
   have HY := Aside0.mk hy
   clear hi hm h7 hr hvo hok hy hcc2 hC2 hB2 hBV hVW hbx hpn
   by_cases hx0 : y = 0
   ·have hxb : (y != 0) = false := bne_eq_false_iff_eq.mpr hx0
    have HX0 := Aside0.mk hx0
    clear hx0
    obtain ⟨hown, rows, hrl, hraw, hfk⟩ := HR.out
    have HRL := Aside0.mk hrl
    have HRAW := Aside0.mk (Kd.raw_any hraw)
    have HFK := Aside0.mk hfk
    have HLB : Aside0 ((rows.length + 1) * 88 ≤ 140737488355328) := ⟨by have := HPN.out; have := HBIG.out; have := HRL.out; rw [List.length_map] at this; omega⟩
    have HBS : Aside0 (w.heap.size + 8 ≤ W.heap.size) := ⟨by have := HB2.out; have := HS.out; omega⟩
    clear hown hrl hraw hfk
    gi_wp2_with (gi_at_builtin; refine ea_append (Kd.raw 6) (w.heap.size + 8) rfl (.tmp 23) (.tmp 25) 42 25 (.agg #[(.string ⟨#[]⟩), (.int .i64 0), (.slice none 0 0), (.int .i64 0), (.slice none 0 0), (.int .i64 0)]) 88 rfl (by kernel_rfl) info25 rfl (by decide) (by decide) (.slice A2 pre.length c2) rows [.string x.n.f0, .int .i64 x.n.f1, .slice x.A2 x.n.f2.length x.c2, .int .i64 x.n.f3, .slice x.A4 x.n.f4.length x.c4, .int .i64 x.n.f5] [.string x.n.f0, .int .i64 x.n.f1, .slice x.A2 x.n.f2.length x.c2, .int .i64 x.n.f3, .slice x.A4 x.n.f4.length x.c4, .int .i64 x.n.f5] (fun _ => True) (fun _ => False) rfl rfl ⟨rfl, rfl, by simp [Value.oneCell']⟩ (fun k hk => hk.elim) (fun _ _ => trivial) HRAW.out HBS.out HLB.out ?_; intro v1 w2 hr1 hg1 hat1; obtain ⟨A3, L3, c3, rfl⟩ : ∃ A3 L3 c3, v1 = .slice A3 L3 c3 := (by obtain ⟨A3, c3, hv3, _, _⟩ := Kd.R_reads hr1; exact ⟨A3, _, c3, hv3⟩); have HR1 := Aside0.mk hr1; have HG1 := Aside0.mk hg1; have HAT := Aside0.mk hat1; have hbo2 := (hg1.block _ (blk_lt H7.out) (Kd.R_ne HRAW.out H7.out (by decide))).trans H7.out; have HBO2 := Aside0.mk hbo2; have kb2 : w2.cell? ⟨w.heap.size + 1 + 1 + 1, 0, none⟩ = some (.slice A2 pre.length c2) := (blk_cell hbo2 0).trans rfl; have fb2 := blk_frozen hbo2 0; clear hr1 hg1 hat1 hbo2)
    have hvb : ∀ k, (Value.slice A2 pre.length c2).ownBlock = some k → w.heap.size + 8 ≤ k := fun k hk => Kd.N_base HR.out k hk
    have hct : Chg (fun k => k = w.heap.size + 1 + 1 + 1 ∨ W0.heap.size ≤ k) W (w2.setCell ⟨w.heap.size + 1 + 1 + 1, 0, none⟩ (.slice A3 L3 c3)) :=
     ea_setCell (ea_grown HG1.out (fun k hk => .inr (by have := hvb k hk; have := HS.out; omega))) (.inl (.inl rfl)) _
    have hkb : Below w.heap.size w (w2.setCell ⟨w.heap.size + 1 + 1 + 1, 0, none⟩ (.slice A3 L3 c3)) := HI.out.bel.trans (hct.to_below (fun k hk => by have := HS.out; omega) HI.out.bel.size)
    have hold : ∀ k, k < w.heap.size + 6 → k ≠ w.heap.size + 1 + 1 + 1 → (w2.setCell ⟨w.heap.size + 1 + 1 + 1, 0, none⟩ (.slice A3 L3 c3)).heap[k]? = W.heap[k]? := fun k hk hne => hct.block k (by have := HBS.out; omega) (by have := HS.out; omega)
    have hown3 : ∀ k, (Value.slice A3 L3 c3).ownBlock = some k → w.heap.size + 8 ≤ k := fun k hk => Kd.R_base HR1.out k hk
    have hN3 : Kd.N kMet 25 w2 (w.heap.size + 8) (fun k => w.heap.size + 8 ≤ k) (.slice A3 L3 c3) (pre.map YM.n ++ [x.n]) := by
     have hne3 : ∀ k, w.heap.size + 8 ≤ k → k < W.heap.size → some k ≠ (Value.slice A2 pre.length c2).ownBlock → some k ≠ (Value.slice A3 L3 c3).ownBlock := by
      intro k _ hk hne
      rcases HAT.out with h | ⟨b, h, hb⟩
      ·rw [h]; exact hne
      ·rw [h]; intro e; injection e with e; omega
     refine ⟨hown3, rows ++ [[.string x.n.f0, .int .i64 x.n.f1, .slice x.A2 x.n.f2.length x.c2, .int .i64 x.n.f3, .slice x.A4 x.n.f4.length x.c4, .int .i64 x.n.f5]], by rw [List.length_append, List.length_append, HRL.out]; rfl, by rw [show kMet.sz = 6 from rfl]; exact Kd.raw_tight HR1.out, fun j z cc hz hc => ?_⟩
     by_cases hj : j < rows.length
     ·rw [List.getElem?_append_left hj] at hc
      rw [List.getElem?_append_left (by rw [← HRL.out]; exact hj)] at hz
      have h1 := Kd.FK_bound (HFK.out j z cc hz hc)
      refine Kd.FK_mono (Kd.FK_step h1 (fun k hk hl => HG1.out.block k hl hk.1.2)) (fun k hk => ⟨hk.1.1, hne3 k hk.1.1 hk.2 hk.1.2⟩)
     ·have hjl : j = rows.length := by
       have h1 := (List.getElem?_eq_some_iff.1 hc).1
       rw [List.length_append, List.length_singleton] at h1
       omega
      subst hjl
      rw [List.getElem?_append_right (Nat.le_refl _), Nat.sub_self] at hc
      rw [HRL.out, List.getElem?_append_right (Nat.le_refl _), Nat.sub_self] at hz
      cases hc
      cases hz
      have hq : ∀ k, B ≤ k → some k ≠ (Value.slice A2 pre.length c2).ownBlock := fun k hk e => by have := HVO.out k e.symm; omega
      have g2 := Kd.F_mono (Kd.F_step (Kd.F_bound HOK.out.r2) (fun k hk hl => HG1.out.block k hl (hq k hk.1))) (ok' := fun k => w.heap.size + 8 ≤ k ∧ some k ≠ (Value.slice A3 L3 c3).ownBlock) (fun k hk => ⟨by have := hk.1; have := HB2.out; have := HS.out; omega, hne3 k (by have := hk.1; have := HB2.out; have := HS.out; omega) hk.2 (hq k hk.1)⟩)
      have g4 := Kd.F_mono (Kd.F_step (Kd.F_bound HOK.out.r4) (fun k hk hl => HG1.out.block k hl (hq k hk.1))) (ok' := fun k => w.heap.size + 8 ≤ k ∧ some k ≠ (Value.slice A3 L3 c3).ownBlock) (fun k hk => ⟨by have := hk.1; have := HB2.out; have := HS.out; omega, hne3 k (by have := hk.1; have := HB2.out; have := HS.out; omega) hk.2 (hq k hk.1)⟩)
      exact k25_mkF w2 _ x.n HOK.out.l2 g2 HOK.out.l4 g4
    refine ⟨?_, ⟨hkb, ?_, ?_, ?_, ?_, ⟨.slice A3 L3 c3, ?_, ?_, ?_⟩, ?_, ?_, ?_, ?_⟩, hct⟩
    ·refine (KeepsOthers.of_grownBy HG1.out (fun j o e ho => ?_)).trans (KeepsOthers.setCell _ _ _)
     obtain ⟨inner, hown⟩ := Kd.R_own HRAW.out
     obtain ⟨cells, hc⟩ := own_typed hown j e
     rw [hc] at ho
     cases ho
     rfl
    ·exact Nat.le_trans HI.out.sz hct.size
    ·exact (hold _ (by omega) (by omega)).trans HI.out.r4
    ·exact (hold _ (by omega) (by omega)).trans HI.out.r5
    ·exact (hold _ (by omega) (by omega)).trans HI.out.r6
    ·exact (blk_put HBO2.out 0 _ rfl).trans rfl
    ·rw [List.map_append]
     exact Kd.N_far hN3 (p := ⟨w.heap.size + 1 + 1 + 1, 0, none⟩) (fun k hk => by show k ≠ w.heap.size + 1 + 1 + 1; omega) _
    ·intro k hk
     have h1 := Kd.N_lt hN3 k hk
     simpa [World.setCell] using h1
    ·have := HPN.out
     simp only [List.length_append, List.length_singleton]
     omega
    ·rw [List.length_append, List.length_singleton, List.take_add_one, HM.out, List.map_append, List.map_append, ← HI.out.eq]
     simp [HOK.out.n]
    ·rw [List.length_append, List.length_singleton, List.take_add_one, HM.out, List.map_append, List.map_append, ← HI.out.eqe]
     simp [HOK.out.e, ngo]
    ·intro z hz
     rcases List.mem_append.mp hz with hz | hz
     ·exact HI.out.ok z hz
     ·rw [List.mem_singleton.mp hz, HY.out]; exact HX0.out
   ·have hxb : (y != 0) = true := bne_iff_ne.mpr hx0
    have HX0 := Aside0.mk hx0
    clear hx0
    have hb1 : Chg (fun k => k = w.heap.size ∨ k = w.heap.size + 1 ∨ k = w.heap.size + 1 + 1) W (((W.setCell ⟨w.heap.size, 0, none⟩ (.slice none 0 0)).setCell ⟨w.heap.size + 1, 0, none⟩ (.int .i64 pre.length)).setCell ⟨w.heap.size + 1 + 1, 0, none⟩ (.int .i64 y)).drew :=
     Chg.drew (ea_setCell (ea_setCell (ea_setCell (Chg.refl _ _) (.inl (.inl rfl)) _) (.inl (.inr (.inl rfl))) _) (.inl (.inr (.inr rfl))) _)
    have hny : ngo m = y := by rw [← HY.out, HOK.out.e]; rfl
    have hgo : batGo ngo ms 0 = ((pre.length : Int), y) := by
     rw [batGo_at ngo ms 0 pre.length m HM.out (fun z hz => ?_) (by rw [hny]; exact HX0.out), hny]
     ·congr 1; omega
     ·have hz2 : ngo z ∈ pre.map YM.e := by rw [HI.out.eqe]; exact List.mem_map_of_mem hz
      obtain ⟨q, hq, he⟩ := List.mem_map.1 hz2
      rw [← he]
      exact HI.out.ok q hq
    have hfin : KeepsOthers W (((W.setCell ⟨w.heap.size, 0, none⟩ (.slice none 0 0)).setCell ⟨w.heap.size + 1, 0, none⟩ (.int .i64 pre.length)).setCell ⟨w.heap.size + 1 + 1, 0, none⟩ (.int .i64 y)).drew ∧ (EachMx ms w (((W.setCell ⟨w.heap.size, 0, none⟩ (.slice none 0 0)).setCell ⟨w.heap.size + 1, 0, none⟩ (.int .i64 pre.length)).setCell ⟨w.heap.size + 1 + 1, 0, none⟩ (.int .i64 y)).drew) := by
     refine ⟨((KeepsOthers.setCell _ _ _).trans (KeepsOthers.setCell _ _ _)).trans ((KeepsOthers.setCell _ _ _).trans (KeepsOthers.drew _)), HI.out.bel.trans (hb1.to_below (fun k hk => by omega) HI.out.bel.size), ?_, ?_, ?_, ?_⟩
     ·refine blk_drew (blk_faro (blk_faro ((blk_put HI.out.r4 0 _ rfl).trans rfl) ?_ _) ?_ _) <;> omega
     ·rw [hgo]
      refine blk_drew (blk_faro ((blk_put (blk_faro HI.out.r5 ?_ _) 0 _ rfl).trans rfl) ?_ _) <;> omega
     ·rw [hgo]
      refine blk_drew ((blk_put (blk_faro (blk_faro HI.out.r6 ?_ _) ?_ _) 0 _ rfl).trans rfl) <;> omega
     ·rw [hgo]; exact HX0.out
    have HF := Aside0.mk hfin
    clear hfin hgo hb1 hny
    gi_wp2
    gi_region
    all_goals gi_wp2
    all_goals exact ⟨HF.out.1, rfl, HF.out.2⟩
  case done =>
   rintro D xs W hD hS hi hDef
   obtain ⟨v, h7, hr, hvo⟩ := hi.out
   obtain ⟨A2, c2, hv2, hcc2, hC2⟩ := Kd.N_reads hr
   rw [List.length_map] at hv2 hcc2 hC2
   subst hv2
   have hlen : xs.length = ms.length := by
    rcases hS with h | ⟨x, hx, hn⟩
    ·exact h
    ·exact absurd (hi.ok x hx) hn
   have hgo : batGo ngo ms 0 = (0, 0) := batGo_ok _ _ _ (fun m hm => by
    have hz2 : ngo m ∈ xs.map YM.e := by rw [hi.eqe, hlen, List.take_length]; exact List.mem_map_of_mem hm
    obtain ⟨q, hq, he⟩ := List.mem_map.1 hz2
    rw [← he]
    exact hi.ok q hq)
   have hbn : batNorm ms = (xs.map YM.n, 0, 0) := by
    rw [HE.out, hgo, if_pos rfl, hi.eq, hlen, List.take_length]
   have HBN := Aside0.mk hbn
   have HR := Aside0.mk hr
   have k7 : W.cell? ⟨w.heap.size + 1 + 1 + 1, 0, none⟩ = some (.slice A2 xs.length c2) := (blk_cell h7 0).trans rfl
   have f4 := blk_frozen hi.r4 0
   have f5 := blk_frozen hi.r5 0
   have f6 := blk_frozen hi.r6 0
   have k4 : W.cell? ⟨w.heap.size, 0, none⟩ = some (.slice none 0 0) := (blk_cell hi.r4 0).trans rfl
   have k5 : W.cell? ⟨w.heap.size + 1, 0, none⟩ = some (.int .i64 0) := (blk_cell hi.r5 0).trans rfl
   have k6 : W.cell? ⟨w.heap.size + 1 + 1, 0, none⟩ = some (.int .i64 0) := (blk_cell hi.r6 0).trans rfl
   have HI := Aside0.mk hi
   have HDF := Aside0.mk hDef
   have HDD := Aside0.mk hD
   clear hi h7 hr hvo hcc2 hC2 hS hlen hgo hbn hDef hD
   have hb1 : Chg (fun k => k = w.heap.size ∨ k = w.heap.size + 1 ∨ k = w.heap.size + 1 + 1) W (((W.setCell ⟨w.heap.size, 0, none⟩ (.slice A2 xs.length c2)).setCell ⟨w.heap.size + 1, 0, none⟩ (.int .i64 0)).setCell ⟨w.heap.size + 1 + 1, 0, none⟩ (.int .i64 0)) :=
    ea_setCell (ea_setCell (ea_setCell (Chg.refl _ _) (.inl (.inl rfl)) _) (.inl (.inr (.inl rfl))) _) (.inl (.inr (.inr rfl))) _
   gi_wp2
   have hDef2 : (((W.setCell ⟨w.heap.size, 0, none⟩ (.slice A2 xs.length c2)).setCell ⟨w.heap.size + 1, 0, none⟩ (.int .i64 0)).setCell ⟨w.heap.size + 1 + 1, 0, none⟩ (.int .i64 0)).heap[D]? = some (.deferred (some [])) := (hb1.block D (blk_lt HDF.out) (by have := HDD.out; have := HS.out; omega)).trans HDF.out
   refine ⟨by simp, .inl ⟨_, _, rfl, run_takeDeferred hDef2, ?_⟩⟩
   refine ⟨.tuple #[.slice A2 xs.length c2, .int .i64 0, .int .i64 0], eachm_results (a := { tmps := _, defers := [] }) rfl rfl rfl ?_ ?_ ?_, _, by rw [HBN.out], ?_, below_putObj (HI.out.bel.trans (hb1.to_below (fun k hk => by omega) HI.out.bel.size)) (by have := HDD.out; have := HS.out; omega) _⟩
   ·refine blk_putOther (blk_faro (blk_faro ((blk_put HI.out.r4 0 _ rfl).trans rfl) ?_ _) ?_ _) hDef2 rfl <;> omega
   ·refine blk_putOther (blk_faro ((blk_put (blk_faro HI.out.r5 ?_ _) 0 _ rfl).trans rfl) ?_ _) hDef2 rfl <;> omega
   ·refine blk_putOther ((blk_put (blk_faro (blk_faro HI.out.r6 ?_ _) ?_ _) 0 _ rfl).trans rfl) hDef2 rfl <;> omega
   ·rw [HBN.out]
    have hf1 := Kd.N_far HR.out (p := ⟨w.heap.size, 0, none⟩) (fun k hk => by show k ≠ w.heap.size; omega) (.slice A2 xs.length c2)
    have hf2 := Kd.N_far hf1 (p := ⟨w.heap.size + 1, 0, none⟩) (fun k hk => by show k ≠ w.heap.size + 1; omega) (.int .i64 0)
    have hf3 := Kd.N_far hf2 (p := ⟨w.heap.size + 1 + 1, 0, none⟩) (fun k hk => by show k ≠ w.heap.size + 1 + 1; omega) (.int .i64 0)
    exact Kd.N_mono (Kd.N_lower (N_putOther hf3 (by have := HDD.out; have := HS.out; omega) _) (by omega)) (fun k hk => by omega)
  case stop =>
   rintro D c pre W hD ⟨rfl, hi⟩ hDef
   have hbn : batNorm ms = ([], (batGo ngo ms 0).1, (batGo ngo ms 0).2) := by rw [HE.out, if_neg hi.bad]
   gi_wp2
   refine ⟨by simp, .inl ⟨_, _, rfl, run_takeDeferred hDef, ?_⟩⟩
   refine ⟨.tuple #[.slice none 0 0, .int .i64 (batGo ngo ms 0).1, .int .i64 (batGo ngo ms 0).2], eachm_results (a := { tmps := _, defers := [] }) rfl rfl rfl (blk_putOther hi.r4 hDef rfl) (blk_putOther hi.r5 hDef rfl) (blk_putOther hi.r6 hDef rfl), _, by rw [hbn], by rw [hbn]; exact Kd.N_nil _ _ _ _ _, below_putObj hi.bel (by have := HS.out; omega) _⟩
set_option maxHeartbeats 4000000 in
set_option maxRecDepth 100000 in
theorem batnorm_calls (ms : List MetS) (A : Option Addr) (c : Nat) (w : World) (hC : kMet.C w A ms.length ms) (hin : ∀ m ∈ ms, PE.metIn m = true) (hlm : ∀ m ∈ ms, m.f2.length < 1000000 ∧ m.f4.length < 1000000) :
  Calls Try.prog 32 #[.slice A ms.length c] w fun e w' => ∃ v, e = .returned (.tuple #[v, .int .i64 (batNorm ms).2.1, .int .i64 (batNorm ms).2.2]) ∧ Kd.N kMet 25 w' w.heap.size (fun k_ => w.heap.size ≤ k_) v (batNorm ms).1 ∧ Below w.heap.size w w' := by
 have HK := Aside0.mk (eachm_calls ms A c w hC hin hlm)
 clear hC hin hlm
 generalize (batNorm ms).2.1 = x at HK ⊢
 generalize (batNorm ms).2.2 = y at HK ⊢
 go_enter Try.func32, Try.ntmps32
 go_wp2_with fail
 refine HK.out.mono ?_
 rintro e w1 ⟨v, rfl, hn, hb⟩
 have HB := Aside0.mk hb
 have HN := Aside0.mk hn
 clear hb hn
 go_wp2
 go_ret3
 exact ⟨_, rfl, HN.out, HB.out⟩
end Go.Proofs.Yteamldgngknmfaa
/- Package batch: Equal (slices.EqualFunc over metric.Equal); no condition. -/
namespace Go.Proofs.Yteamldgngknmfaa
open Go.RowKit Go.Proofs.YteamldgngknmfaaW.PrintWords Go.Proofs.YteamldgngknmfaaW.PrintLast Go.Proofs.YteamldgngknmfaaW.PrintMore Go.Proofs.Yteamldgngknmfaa.PE
set_option linter.unusedVariables false
set_option linter.unusedSimpArgs false
def decsEq : List S40 → List S40 → Bool
 | [], [] => true
 | x :: l, y :: r => ((x.f0 == y.f0) && ((x.f1 == y.f1) && (x.f2 == y.f2))) && decsEq l r
 | _, _ => false
def tagsEq : List S37 → List S37 → Bool
 | [], [] => true
 | x :: l, y :: r => ((x.f0.toList == y.f0.toList) && (x.f1.toList == y.f1.toList)) && tagsEq l r
 | _, _ => false
def metEq (a b : MetS) : Bool := (a.f0.toList == b.f0.toList) && ((a.f1 == b.f1) && ((a.f3 == b.f3) && ((a.f5 == b.f5) && (decsEq a.f2 b.f2 && tagsEq a.f4 b.f4))))
def metsEq : List MetS → List MetS → Bool
 | [], [] => true
 | x :: l, y :: r => metEq x y && metsEq l r
 | _, _ => false
theorem decsEq_iff : ∀ a b : List S40, decsEq a b = true ↔ a = b
 | [], [] => by simp [decsEq]
 | [], _ :: _ => by simp [decsEq]
 | _ :: _, [] => by simp [decsEq]
 | x :: l, y :: r => by
  have ih := decsEq_iff l r
  cases x; cases y
  simp only [decsEq, Bool.and_eq_true, beq_iff_eq, ih, List.cons.injEq]
  constructor
  ·rintro ⟨⟨h1, h2, h3⟩, h4⟩; subst h1 h2 h3 h4; exact ⟨rfl, rfl⟩
  ·rintro ⟨h1, h2⟩; injection h1 with h1 h3 h4; exact ⟨⟨h1, h3, h4⟩, h2⟩
theorem tagsEq_iff : ∀ a b : List S37, tagsEq a b = true ↔ a = b
 | [], [] => by simp [tagsEq]
 | [], _ :: _ => by simp [tagsEq]
 | _ :: _, [] => by simp [tagsEq]
 | x :: l, y :: r => by
  have ih := tagsEq_iff l r
  cases x; cases y
  simp only [tagsEq, Bool.and_eq_true, beq_iff_eq, ih, List.cons.injEq]
  constructor
  ·rintro ⟨⟨h1, h2⟩, h4⟩; have h1 := ba_inj h1; have h2 := ba_inj h2; subst h1 h2 h4; exact ⟨rfl, rfl⟩
  ·rintro ⟨h1, h2⟩; injection h1 with h1 h3; exact ⟨⟨by rw [h1], by rw [h3]⟩, h2⟩
theorem metEq_iff (a b : MetS) : metEq a b = true ↔ a = b := by
 cases a; cases b
 simp only [metEq, Bool.and_eq_true, beq_iff_eq, decsEq_iff, tagsEq_iff]
 constructor
 ·rintro ⟨h1, h2, h3, h4, h5, h6⟩; have h1 := ba_inj h1; subst h1 h2 h3 h4 h5 h6; rfl
 ·intro h; injection h with h1 h2 h3 h4 h5 h6; exact ⟨by rw [h1], h2, h4, h6, h3, h5⟩
theorem metsEq_iff : ∀ a b : List MetS, metsEq a b = true ↔ a = b
 | [], [] => by simp [metsEq]
 | [], _ :: _ => by simp [metsEq]
 | _ :: _, [] => by simp [metsEq]
 | x :: l, y :: r => by
  have ih := metsEq_iff l r
  simp only [metsEq, Bool.and_eq_true, metEq_iff, ih, List.cons.injEq]
theorem mequal_calls (a b : MetS) (Av : Option Addr) (cv : Nat) (At : Option Addr) (ct : Nat) (Bv : Option Addr) (dv : Nat) (Bt : Option Addr) (dt : Nat) (w : World) (ha : MetC a Av cv At ct w) (hb : MetC b Bv dv Bt dt w) (h2 : a.f2.length ≤ 140737488355328) (h4 : a.f4.length ≤ 140737488355328) :
  Calls Try.prog 22 #[.agg #[.string a.f0, .int .i64 a.f1, .slice Av a.f2.length cv, .int .i64 a.f3, .slice At a.f4.length ct, .int .i64 a.f5], .agg #[.string b.f0, .int .i64 b.f1, .slice Bv b.f2.length dv, .int .i64 b.f3, .slice Bt b.f4.length dt, .int .i64 b.f5]] w fun e w' => e = .returned (.bool (metEq a b)) ∧ Below w.heap.size w w' := by
 obtain ⟨t, e1, e2⟩ := meq_ev a b h2 h4
 have ht : t = metEq a b := by rw [Bool.eq_iff_iff, e2, metEq_iff]
 obtain ⟨k, hk⟩ := Ev.rounds e1
 rw [ht] at hk
 exact metric_Equal.calls k a.f0 a.f1 Av cv a.f2 a.f3 At ct a.f4 a.f5 b.f0 b.f1 Bv dv b.f2 b.f3 Bt dt b.f4 b.f5 (metEq a b) w ha.v ha.vc ha.t ha.tc hb.v hb.vc hb.t hb.tc hk
theorem metsEq_drop (a b : List MetS) (n : Nat) (x y : MetS) (hx : a[n]? = some x) (hy : b[n]? = some y) : metsEq (a.drop n) (b.drop n) = (metEq x y && metsEq (a.drop (n + 1)) (b.drop (n + 1))) := by
 obtain ⟨h1, h2⟩ := List.getElem?_eq_some_iff.1 hx
 obtain ⟨h3, h4⟩ := List.getElem?_eq_some_iff.1 hy
 rw [List.drop_eq_getElem_cons h1, List.drop_eq_getElem_cons h3, h2, h4]
 rfl
set_option maxHeartbeats 4000000 in
set_option maxRecDepth 100000 in
theorem eqfunc_calls (a b : List MetS) (A : Option Addr) (c : Nat) (B : Option Addr) (d : Nat) (w : World) (hA : kMet.C w A a.length a) (hB : kMet.C w B b.length b) (hia : ∀ m ∈ a, PE.metIn m = true) (hib : ∀ m ∈ b, PE.metIn m = true) (hl : ∀ m ∈ a, m.f2.length ≤ 140737488355328 ∧ m.f4.length ≤ 140737488355328) :
  Calls Try.prog 61 #[.slice A a.length c, .slice B b.length d, .func (.func 22) #[] #[]] w fun e w' => e = .returned (.bool (metsEq a b)) ∧ Below w.heap.size w w' := by
 by_cases hne : a.length = b.length
 ·have HA := Aside0.mk hA
  have HB := Aside0.mk hB
  have HIA := Aside0.mk hia
  have HIB := Aside0.mk hib
  have HL := Aside0.mk hl
  have HNM := hA.2.1
  obtain ⟨N, hN⟩ : ∃ N, a.length = N := ⟨_, rfl⟩
  have hN2 : b.length = N := hne.symm.trans hN
  have HN := Aside0.mk (And.intro hN hN2)
  rw [hN] at HNM
  have HNMX := Aside0.mk HNM
  rw [hN, hN2]
  have hnn : ((N : Int) != (N : Int)) = false := by simp
  clear hA hB hia hib hl hne hN hN2 HNM
  go_enter Try.func61, Try.ntmps61
  go_wp2
  go_loopw [17] (fun i wr => ∃ (k : Int) (n : Nat), i = .int .i64 k ∧ Aside0 (k = (n : Int)) ∧ Aside0 (n ≤ N ∧ metsEq a b = metsEq (a.drop n) (b.drop n)) ∧ Aside0 (Below w.heap.size w wr)) (fun i wr => eaLeft N i)
  case atStart => exact ⟨0, 0, rfl, ⟨rfl⟩, ⟨⟨Nat.zero_le _, rfl⟩⟩, ⟨Below.refl _ _⟩⟩
  case round =>
   obtain ⟨k, n, rfl, HK, HP, HBL⟩ := hrel
   have hk := HK.out
   by_cases hlt : n < N
   ·have hi0 : 0 ≤ k := by omega
    have hi1 : k < (N : Int) := by omega
    have hd : decide (k < (N : Int)) = true := decide_eq_true hi1
    have hd0 : decide (0 ≤ k) = true := decide_eq_true hi0
    obtain ⟨ad, A2, c2, A4, c4, e0, x0, x1, x2, x3, x4, x5, l2, i2, l4, i4⟩ := at_T25 (Kd.C_below HA.out HBL.out) k hi0 (by rw [HN.out.1]; exact hi1)
    cases e0
    obtain ⟨m1, hm1⟩ : ∃ m, rd_T25 a k = m := ⟨_, rfl⟩
    have hg1 : a[n]? = some m1 := by
     rw [← hm1]
     unfold rd_T25
     rw [hk, Int.toNat_natCast, List.getD_eq_getElem?_getD, List.getElem?_eq_getElem (by rw [HN.out.1]; exact hlt)]
     rfl
    rw [hm1] at x0 x1 x2 x3 x4 x5 l2 i2 l4 i4
    obtain ⟨bd, B2, d2, B4, d4, e0, y0, y1, y2, y3, y4, y5, q2, j2, q4, j4⟩ := at_T25 (Kd.C_below HB.out (below_alloc HBL.out (.cells #[.string m1.f0, .int .i64 m1.f1, .slice A2 m1.f2.length c2, .int .i64 m1.f3, .slice A4 m1.f4.length c4, .int .i64 m1.f5] 25))) k hi0 (by rw [HN.out.2]; exact hi1)
    cases e0
    obtain ⟨m2, hm2⟩ : ∃ m, rd_T25 b k = m := ⟨_, rfl⟩
    have hg2 : b[n]? = some m2 := by
     rw [← hm2]
     unfold rd_T25
     rw [hk, Int.toNat_natCast, List.getD_eq_getElem?_getD, List.getElem?_eq_getElem (by rw [HN.out.2]; exact hlt)]
     rfl
    rw [hm2] at y0 y1 y2 y3 y4 y5 q2 j2 q4 j4
    clear hm1 hm2
    have hmem1 : m1 ∈ a := List.mem_of_getElem? hg1
    have hmem2 : m2 ∈ b := List.mem_of_getElem? hg2
    have HMC1 := Aside0.mk (PE.metC_of i2 l2 i4 l4 (HIA.out m1 hmem1))
    have HMC2 := Aside0.mk (PE.metC_of j2 q2 j4 q4 (HIB.out m2 hmem2))
    have HB2 : Aside0 (Below w.heap.size w ((wr.alloc (.cells #[.string m1.f0, .int .i64 m1.f1, .slice A2 m1.f2.length c2, .int .i64 m1.f3, .slice A4 m1.f4.length c4, .int .i64 m1.f5] 25)).alloc (.cells #[.string m2.f0, .int .i64 m2.f1, .slice B2 m2.f2.length d2, .int .i64 m2.f3, .slice B4 m2.f4.length d4, .int .i64 m2.f5] 25))) := ⟨below_alloc (below_alloc HBL.out _) _⟩
    have HCALL := Aside0.mk (mequal_calls m1 m2 A2 c2 A4 c4 B2 d2 B4 d4 ((wr.alloc (.cells #[.string m1.f0, .int .i64 m1.f1, .slice A2 m1.f2.length c2, .int .i64 m1.f3, .slice A4 m1.f4.length c4, .int .i64 m1.f5] 25)).alloc (.cells #[.string m2.f0, .int .i64 m2.f1, .slice B2 m2.f2.length d2, .int .i64 m2.f3, .slice B4 m2.f4.length d4, .int .i64 m2.f5] 25)) (HMC1.out.below (below_alloc (below_alloc (Below.refl _ _) _) _)) (HMC2.out.below (below_alloc (Below.refl _ _) _)) (HL.out m1 hmem1).1 (HL.out m1 hmem1).2)
    have HDR := Aside0.mk (metsEq_drop a b n m1 m2 hg1 hg2)
    have z0 : ((wr.alloc (.cells #[.string m1.f0, .int .i64 m1.f1, .slice A2 m1.f2.length c2, .int .i64 m1.f3, .slice A4 m1.f4.length c4, .int .i64 m1.f5] 25)).alloc (.cells #[.string m2.f0, .int .i64 m2.f1, .slice B2 m2.f2.length d2, .int .i64 m2.f3, .slice B4 m2.f4.length d4, .int .i64 m2.f5] 25)).cell? ⟨wr.heap.size, 0, none⟩ = some (.string m1.f0) := (blk_cell (blk_alloc (blk_new wr _) _) 0).trans rfl
    have z1 : ((wr.alloc (.cells #[.string m1.f0, .int .i64 m1.f1, .slice A2 m1.f2.length c2, .int .i64 m1.f3, .slice A4 m1.f4.length c4, .int .i64 m1.f5] 25)).alloc (.cells #[.string m2.f0, .int .i64 m2.f1, .slice B2 m2.f2.length d2, .int .i64 m2.f3, .slice B4 m2.f4.length d4, .int .i64 m2.f5] 25)).cell? ⟨wr.heap.size, 1, none⟩ = some (.int .i64 m1.f1) := (blk_cell (blk_alloc (blk_new wr _) _) 1).trans rfl
    have z2 : ((wr.alloc (.cells #[.string m1.f0, .int .i64 m1.f1, .slice A2 m1.f2.length c2, .int .i64 m1.f3, .slice A4 m1.f4.length c4, .int .i64 m1.f5] 25)).alloc (.cells #[.string m2.f0, .int .i64 m2.f1, .slice B2 m2.f2.length d2, .int .i64 m2.f3, .slice B4 m2.f4.length d4, .int .i64 m2.f5] 25)).cell? ⟨wr.heap.size, 2, none⟩ = some (.slice A2 m1.f2.length c2) := (blk_cell (blk_alloc (blk_new wr _) _) 2).trans rfl
    have z3 : ((wr.alloc (.cells #[.string m1.f0, .int .i64 m1.f1, .slice A2 m1.f2.length c2, .int .i64 m1.f3, .slice A4 m1.f4.length c4, .int .i64 m1.f5] 25)).alloc (.cells #[.string m2.f0, .int .i64 m2.f1, .slice B2 m2.f2.length d2, .int .i64 m2.f3, .slice B4 m2.f4.length d4, .int .i64 m2.f5] 25)).cell? ⟨wr.heap.size, 3, none⟩ = some (.int .i64 m1.f3) := (blk_cell (blk_alloc (blk_new wr _) _) 3).trans rfl
    have z4 : ((wr.alloc (.cells #[.string m1.f0, .int .i64 m1.f1, .slice A2 m1.f2.length c2, .int .i64 m1.f3, .slice A4 m1.f4.length c4, .int .i64 m1.f5] 25)).alloc (.cells #[.string m2.f0, .int .i64 m2.f1, .slice B2 m2.f2.length d2, .int .i64 m2.f3, .slice B4 m2.f4.length d4, .int .i64 m2.f5] 25)).cell? ⟨wr.heap.size, 4, none⟩ = some (.slice A4 m1.f4.length c4) := (blk_cell (blk_alloc (blk_new wr _) _) 4).trans rfl
    have z5 : ((wr.alloc (.cells #[.string m1.f0, .int .i64 m1.f1, .slice A2 m1.f2.length c2, .int .i64 m1.f3, .slice A4 m1.f4.length c4, .int .i64 m1.f5] 25)).alloc (.cells #[.string m2.f0, .int .i64 m2.f1, .slice B2 m2.f2.length d2, .int .i64 m2.f3, .slice B4 m2.f4.length d4, .int .i64 m2.f5] 25)).cell? ⟨wr.heap.size, 5, none⟩ = some (.int .i64 m1.f5) := (blk_cell (blk_alloc (blk_new wr _) _) 5).trans rfl
    obtain ⟨t, ht⟩ : ∃ t, metEq m1 m2 = t := ⟨_, rfl⟩
    rw [ht] at HCALL HDR
    have hadd : wrap64 (k + 1) = k + 1 := by
     unfold wrap64
     have := HNMX.out
     omega
    have HADD := Aside0.mk hadd
    have HLT := Aside0.mk hlt
    have HI := Aside0.mk (And.intro hi0 hi1)
    clear i2 l2 i4 l4 j2 q2 j4 q4 hg1 hg2 hmem1 hmem2 hlt hk ht hadd HMC1 HMC2
    go_wp2_with fail
    refine HCALL.out.mono ?_
    rintro e w1 ⟨rfl, hb1⟩
    have HB3 := Aside0.mk (below_step HB2.out hb1)
    clear hb1 x0 x1 x2 x3 x4 x5 y0 y1 y2 y3 y4 y5 z0 z1 z2 z3 z4 z5 HCALL
    cases t with
    | true =>
     go_wp2
     go_roundw
     case rel => exact ⟨k + 1, n + 1, by rw [HADD.out], ⟨by rw [HK.out]; simp⟩, ⟨⟨HLT.out, by rw [HP.out.2, HDR.out, Bool.true_and]⟩⟩, HB3⟩
     case measure => rw [HADD.out]; show N - (k + 1).toNat < N - k.toNat; have := HI.out; omega
    | false =>
     go_wp2
     go_ret
     exact ⟨by rw [HP.out.2, HDR.out, Bool.false_and]; rfl, HB3.out⟩
   ·have hd : decide (k < (N : Int)) = false := decide_eq_false (by omega)
    have hnN : n = N := Nat.le_antisymm HP.out.1 (Nat.not_lt.mp hlt)
    have HNN := Aside0.mk hnN
    clear hlt hk hnN
    go_wp2
    go_ret
    refine ⟨?_, HBL.out⟩
    rw [HP.out.2, List.drop_eq_nil_of_le (by rw [HN.out.1, HNN.out]; exact Nat.le_refl _), List.drop_eq_nil_of_le (by rw [HN.out.2, HNN.out]; exact Nat.le_refl _)]
    rfl
 ·have hnn : ((a.length : Int) != (b.length : Int)) = true := bne_iff_ne.mpr (by omega)
  have hnn2 : (a.length != b.length) = true := bne_iff_ne.mpr hne
  have hf : metsEq a b = false := by
   cases h : metsEq a b with
   | false => rfl
   | true => exact absurd (by rw [(metsEq_iff a b).1 h]) hne
  have HF := Aside0.mk hf
  clear hA hB hia hib hl hne hf
  go_enter Try.func61, Try.ntmps61
  go_wp2
  go_ret
  exact ⟨by rw [HF.out]; rfl, Below.refl _ _⟩
set_option maxHeartbeats 4000000 in
set_option maxRecDepth 100000 in
theorem batequal_calls (a b : List MetS) (A : Option Addr) (c : Nat) (B : Option Addr) (d : Nat) (w : World) (hA : kMet.C w A a.length a) (hB : kMet.C w B b.length b) (hia : ∀ m ∈ a, PE.metIn m = true) (hib : ∀ m ∈ b, PE.metIn m = true) (hl : ∀ m ∈ a, m.f2.length ≤ 140737488355328 ∧ m.f4.length ≤ 140737488355328) :
  Calls Try.prog 37 #[.slice A a.length c, .slice B b.length d] w fun e w' => e = .returned (.bool (metsEq a b)) ∧ Below w.heap.size w w' := by
 have HK := Aside0.mk (eqfunc_calls a b A c B d w hA hB hia hib hl)
 clear hA hB hia hib hl
 generalize metsEq a b = x at HK ⊢
 go_enter Try.func37, Try.ntmps37
 go_wp2_with fail
 refine HK.out.mono ?_
 rintro e w1 ⟨rfl, hb⟩
 have HB := Aside0.mk hb
 clear hb
 go_wp2
 go_ret
 exact ⟨rfl, HB.out⟩
end Go.Proofs.Yteamldgngknmfaa
/- Contracts of package batch's Check, Normal and Equal in the printed form; no condition. -/
namespace Go.Proofs.Yteamldgngknmfaa.PE
open Go.RowKit Go.Proofs.YteamldgngknmfaaW.PrintWords Go.Proofs.YteamldgngknmfaaW.PrintLast Go.Proofs.YteamldgngknmfaaW.PrintMore Go.Proofs.Yteamldgngknmfaa
set_option linter.unusedVariables false
set_option linter.unusedSimpArgs false
def batch_Check.f (l0 : List S25) : Option (Int × Int) := if l0.all metIn = true then some (batBad l0) else none
theorem batch_Check.calls (A0 : Option Addr) (c0 : Nat) (l0 : List S25) (r1 : Int) (r2 : Int) (w : World) (hr0 : Kd.C k25 w A0 l0.length l0) (hc0 : l0.length ≤ c0) (h : batch_Check.f l0 = some (r1, r2)) :
  Calls Try.prog 30 #[.slice A0 l0.length c0] w fun e w' => e = .returned (.tuple #[.int .i64 r1, .int .i64 r2]) ∧ Below w.heap.size w w' := by
 unfold batch_Check.f at h
 split at h
 ·rename_i hq
  have h2 := Option.some.inj h
  have e1 : (batBad l0).1 = r1 := by rw [h2]
  have e2 : (batBad l0).2 = r2 := by rw [h2]
  rw [← e1, ← e2]
  exact batcheck_calls l0 A0 c0 w hr0 (fun m hm => List.all_eq_true.mp hq m hm)
 ·cases h
def batIn (l : List S25) : Bool := l.all fun m => metIn m && (decide (m.f2.length < 1000000) && decide (m.f4.length < 1000000))
theorem batIn_iff {l : List S25} (h : batIn l = true) : (∀ m ∈ l, metIn m = true) ∧ ∀ m ∈ l, m.f2.length < 1000000 ∧ m.f4.length < 1000000 := by
 unfold batIn at h
 simp only [List.all_eq_true, Bool.and_eq_true, decide_eq_true_eq] at h
 exact ⟨fun m hm => (h m hm).1, fun m hm => (h m hm).2⟩
def batch_Normal.f (l0 : List S25) : Option (List S25 × Int × Int) := if batIn l0 = true then some (batNorm l0) else none
theorem batch_Normal.calls (A0 : Option Addr) (c0 : Nat) (l0 : List S25) (r1 : List S25) (r2 : Int) (r3 : Int) (w : World) (hr0 : Kd.C k25 w A0 l0.length l0) (hc0 : l0.length ≤ c0) (h : batch_Normal.f l0 = some (r1, r2, r3)) :
  Calls Try.prog 32 #[.slice A0 l0.length c0] w fun e w' => ∃ v0_ : Value, e = .returned (.tuple #[v0_, .int .i64 r2, .int .i64 r3]) ∧ Kd.N k25 25 w' w.heap.size (fun k_ => w.heap.size ≤ k_) v0_ r1 ∧ Below w.heap.size w w' := by
 unfold batch_Normal.f at h
 split at h
 ·rename_i hq
  have h2 := Option.some.inj h
  have e1 : (batNorm l0).1 = r1 := by rw [h2]
  have e2 : (batNorm l0).2.1 = r2 := by rw [h2]
  have e3 : (batNorm l0).2.2 = r3 := by rw [h2]
  rw [← e1, ← e2, ← e3]
  exact batnorm_calls l0 A0 c0 w hr0 (batIn_iff hq).1 (batIn_iff hq).2
 ·cases h
def batch_Equal.f (l0 : List S25) (l1 : List S25) : Option Bool := if batIn l0 = true ∧ batIn l1 = true then some (metsEq l0 l1) else none
theorem batch_Equal.calls (A0 : Option Addr) (c0 : Nat) (l0 : List S25) (A1 : Option Addr) (c1 : Nat) (l1 : List S25) (r : Bool) (w : World) (hr0 : Kd.C k25 w A0 l0.length l0) (hc0 : l0.length ≤ c0) (hr1 : Kd.C k25 w A1 l1.length l1) (hc1 : l1.length ≤ c1) (h : batch_Equal.f l0 l1 = some r) :
  Calls Try.prog 37 #[.slice A0 l0.length c0, .slice A1 l1.length c1] w fun e w' => e = .returned (.bool r) ∧ Below w.heap.size w w' := by
 unfold batch_Equal.f at h
 split at h
 ·rename_i hq
  cases h
  exact batequal_calls l0 l1 A0 c0 A1 c1 w hr0 hr1 (batIn_iff hq.1).1 (batIn_iff hq.2).1 (fun m hm => by have := (batIn_iff hq.1).2 m hm; omega)
 ·cases h
end Go.Proofs.Yteamldgngknmfaa.PE
/- Package batch: Names; no condition. -/
namespace Go.Proofs.Yteamldgngknmfaa
open Go.RowKit Go.Maps Go.Proofs.YteamldgngknmfaaW.PrintWords Go.Proofs.YteamldgngknmfaaW.PrintLast Go.Proofs.YteamldgngknmfaaW.PrintMore Go.Proofs.Yteamldgngknmfaa.PE
set_option linter.unusedVariables false
set_option linter.unusedSimpArgs false
def nmHas (l : List ByteArray) (s : ByteArray) : Bool := l.any fun x => decide (x = s)
theorem nmHas_iff {l : List ByteArray} {s : ByteArray} : nmHas l s = true ↔ s ∈ l := by
 unfold nmHas
 simp only [List.any_eq_true, decide_eq_true_eq]
 exact ⟨fun ⟨x, h1, h2⟩ => h2 ▸ h1, fun h => ⟨s, h, rfl⟩⟩
def nmGo : List MetS → List ByteArray → List ByteArray
 | [], out => out
 | m :: l, out => if nmHas out m.f0 = true then nmGo l out else nmGo l (out ++ [m.f0])
def namesOf (l : List MetS) : List ByteArray := nmGo l []
theorem nmGo_drop (l : List MetS) (out : List ByteArray) (n : Nat) (m : MetS) (h : l[n]? = some m) : nmGo (l.drop n) out = if nmHas out m.f0 = true then nmGo (l.drop (n + 1)) out else nmGo (l.drop (n + 1)) (out ++ [m.f0]) := by
 obtain ⟨h1, h2⟩ := List.getElem?_eq_some_iff.1 h
 rw [List.drop_eq_getElem_cons h1, h2]
 rfl
def nmKey (s : ByteArray) : Lit := .string s.data.toList
theorem nmKey_ne {s t : ByteArray} (h : s ≠ t) : nmKey s ≠ nmKey t := by
 intro e
 apply h
 unfold nmKey at e
 injection e with e
 cases s
 cases t
 simp only at e
 congr 1
 exact Array.toList_inj.1 e
theorem nmKey_lit (s : ByteArray) : WideAt.IsKeyLit (nmKey s) := by first | exact ⟨⟩ | (unfold nmKey WideAt.IsKeyLit; trivial) | (unfold nmKey; simp [WideAt.IsKeyLit])
def NTells (D : DataW Unit) (ws : List ByteArray) : Prop := IsMap D ∧ ∀ s, D.atKey (nmKey s) (.lit (.bool false)) = .lit (.bool (nmHas ws s))
theorem ntells_none : NTells (.map []) [] := ⟨isMap_empty, fun s => rfl⟩
theorem NTells.add {D : DataW Unit} {ws : List ByteArray} (h : NTells D ws) (s : ByteArray) : NTells (D.put (nmKey s) (.lit (.bool true))) (ws ++ [s]) := by
 obtain ⟨h1, h3⟩ := h
 refine ⟨h1.put _ _, fun t => ?_⟩
 by_cases e : t = s
 ·subst e
  rw [atKey_put_same h1 (nmKey_lit t), nmHas_iff.2 (by simp)]
 ·rw [atKey_put_other (nmKey_ne e), h3]
  have : nmHas (ws ++ [s]) t = nmHas ws t := by
   unfold nmHas
   rw [List.any_append]
   simp [Ne.symm e]
  rw [this]
theorem uMB : Try.prog.underlying 75 = some (.map 9 4) := by kernel_rfl
theorem uStN : Try.prog.underlying 9 = some .string := by kernel_rfl
theorem uBoN : Try.prog.underlying 4 = some .bool := by kernel_rfl
theorem uSsN : Try.prog.underlying 52 = some (.slice 9) := by kernel_rfl
theorem iSsN : (Try.prog.info? 9).map (fun i => (i.zero, i.size, i.bytes)) = some (some (.string ByteArray.empty), 1, 16) := by kernel_rfl
theorem zBoN (w : World) : (zeroValue 4).run Try.prog w = .ok (.bool false) w := by kernel_rfl
theorem kStN : Maps.Keyed Try.prog 9 := Maps.string_keyed uStN
theorem plain_bool_inv {H : Type} {v : Value} {z : DataW H × List MemPlace} (h : plainElem Try.prog 4 v = some z) : ∃ a, v = .bool a ∧ z = (.lit (.bool a), []) := by
 unfold plainElem at h
 rw [uBoN] at h
 cases v <;> simp at h
 exact ⟨_, rfl, h.symm⟩
def NMap (gm : Nat) (ws : List ByteArray) (w : World) : Prop := ∃ D : DataW Unit, NTells D ws ∧ w.ownsMap Try.prog 9 (plainElem Try.prog 4) gm ws.length D
theorem NMap.step {gm : Nat} {ws : List ByteArray} {w w' : World} (h : NMap gm ws w) (hb : ∀ o, w.heap[gm]? = some o → w'.heap[gm]? = some o) : NMap gm ws w' := by
 obtain ⟨D, hT, es, clock, h1, h2⟩ := h
 exact ⟨D, hT, es, clock, hb _ h1, h2⟩
theorem NMap.below {gm : Nat} {ws : List ByteArray} {w w' : World} (h : NMap gm ws w) (hb : Below w.heap.size w w') : NMap gm ws w' := h.step fun o ho => (hb.block _ (blk_lt ho)).trans ho
theorem NMap.lt {gm : Nat} {ws : List ByteArray} {w : World} (h : NMap gm ws w) : gm < w.heap.size := by
 obtain ⟨D, hT, h⟩ := h
 exact h.lt
theorem NMap.blk {gm : Nat} {ws : List ByteArray} {w : World} (h : NMap gm ws w) : ∃ es c, w.heap[gm]? = some (.map es c) := by
 obtain ⟨D, hT, es, clock, h1, h2⟩ := h
 exact ⟨es, clock, h1⟩
theorem nm_put {W : World} {gm : Nat} {ws : List ByteArray} {s : ByteArray} (hs : s.size ≤ 9223372036854775807) (HM : NMap gm ws W) (hl : ws.length < 1000000) :
  ∃ w', (Instr.mapUpdate 75 (.map (some gm)) (.string s) (.bool true)).run Try.prog W = .ok () w' ∧ NMap gm (ws ++ [s]) w' ∧ W.grownBy w' (some gm) := by
 obtain ⟨D, hT, hown⟩ := HM
 obtain ⟨w', h1, h2, h3⟩ := hown.update kStN uMB (by simp only [maxLen]; omega) (key := .string s) (kl := nmKey s) (Go.WideMaps.keyOf_string_mk uStN (by simpa [maxLen] using hs)) (plainElem_bool uBoN true)
 refine ⟨w', h1, ⟨_, hT.add s, ?_⟩, h3⟩
 rw [List.length_append]
 exact h2
section
set_option maxRecDepth 100000
variable {ops : Array Oper} {rest : List Oper} {o : Oper} {a : Act} {Q : Exit → Act → World → Prop} {W : World} {gm : Nat} {ws : List ByteArray} {s : ByteArray}
theorem nm_look (hg : o.guard = none) (m x : Operand) (hop : o.op = Op.lookup 75 m x false) (hm : a.eval m = .map (some gm)) (hx : a.eval x = .string s) (hs : s.size ≤ 9223372036854775807)
  (HM : NMap gm ws W) {b : Bool} (hb : nmHas ws s = b) (h : wpList Try.prog ops Q rest (a.put o.dst (.bool b)) W) : wpList Try.prog ops Q (o :: rest) a W := by
 obtain ⟨D, ⟨h1, h3⟩, hown⟩ := HM
 refine wpList_plain hg fun K' hK' => ?_
 obtain ⟨v, ps, hrun, hv⟩ := hown.lookup kStN uMB (zBoN _) (plainElem_bool uBoN false) (Go.WideMaps.keyOf_string_mk uStN (by simpa [maxLen] using hs))
 obtain ⟨c, rfl, hc⟩ := plain_bool_inv hv
 have hcb : c = b := by
  have := congrArg Prod.fst hc
  have h4 := h3 s
  unfold nmKey at h4
  simp only at this
  rw [h4, hb] at this
  injection this with this
  injection this with this
  exact this.symm
 subst hcb
 unfold Oper.wp
 simp [execOp, hop, hm, hx, hrun, Result.andThen]
 exact hK' _ _ h
theorem nm_upd (hg : o.guard = none) (m x v : Operand) (hop : o.op = Op.mapUpdate 75 m x v) (hm : a.eval m = .map (some gm)) (hx : a.eval x = .string s) (hv : a.eval v = .bool true) (hs : s.size ≤ 9223372036854775807)
  (HM : NMap gm ws W) (hl : ws.length < 1000000) (h : ∀ w', NMap gm (ws ++ [s]) w' → W.grownBy w' (some gm) → wpList Try.prog ops Q rest (a.put o.dst undef) w') : wpList Try.prog ops Q (o :: rest) a W := by
 obtain ⟨w', hrun, r1, r2⟩ := nm_put hs HM hl
 refine wpList_plain hg fun K' hK' => ?_
 unfold Oper.wp
 simp [execOp, hop, hm, hx, hv, hrun, Result.andThen]
 exact hK' _ _ (h w' r1 r2)
end
theorem nm_app {P : Program} {ops : Array Oper} {rest : List Oper} {o : Oper} {a : Act} {Q : Exit → Act → World → Prop} {W : World} {s x : Operand} {t e : TypeId} {v : Value} {xs : List ByteArray} {p : ByteArray} {base : Nat} {ok : Nat → Prop} (hgd : o.guard = none)
  (ho : o.op = .call { callee := .builtin .append, args := #[s, x], argTypes := #[t, t] }) (hs : a.eval s = v) (hx : a.eval x = .slice (some ⟨W.heap.size, 0, none⟩) 1 1)
  (ht : P.underlying t = some (.slice e)) (hinfo : (P.info? e).map (fun i => (i.zero, i.size, i.bytes)) = some (some (.string ByteArray.empty), 1, 16))
  (HO : Kd.string.R e W base ok v xs) (hbase : base ≤ W.heap.size) (hl : xs.length < 8796093022207) {n1 : Nat} (hn1 : n1 = xs.length + 1)
  (h : ∀ g1 c1 w1, Kd.string.R e w1 base (fun k => some k = (Value.slice (some ⟨g1, 0, none⟩) n1 c1).ownBlock) (.slice (some ⟨g1, 0, none⟩) n1 c1) (xs ++ [p]) → W.grownBy w1 v.ownBlock → (some g1 = v.ownBlock ∨ W.heap.size ≤ g1) → g1 < w1.heap.size → wpList P ops Q rest (a.put o.dst (.slice (some ⟨g1, 0, none⟩) n1 c1)) w1) :
  wpList P ops Q (o :: rest) a (W.alloc (.cells #[.string p] e)) := by
 refine Kd.R_append Kd.string (w0 := W) base hgd s x t e (.string ByteArray.empty) 16 ho ht hinfo rfl (by decide) (by omega) v xs p [.string p] (fun _ => True) (fun _ => False) hs hx rfl (fun _ hk => hk.elim) (fun _ _ => trivial) (Kd.R_reok rfl HO (fun _ _ => trivial)) (Below.refl _ _ |>.mono hbase) hbase (by omega) ?_
 intro v1 w1 hR hb hg hat
 obtain ⟨g1, c1, rfl, h0, hlt, cells, hcells⟩ := Kd.R_form hR (by simp)
 rw [List.length_append] at hR hat ⊢
 have e1 : xs.length + [p].length = n1 := by rw [hn1]; rfl
 rw [e1] at hR hat ⊢
 refine h g1 c1 w1 (Kd.R_tight rfl hR) hg ?_ hlt
 rcases hat with hat | ⟨b, hb1, hb2⟩
 ·left; rw [← hat]; rfl
 ·right
  simp [Value.ownBlock] at hb1
  omega
set_option maxHeartbeats 4000000 in
set_option maxRecDepth 100000 in
theorem batnames_calls (ms : List MetS) (A : Option Addr) (c : Nat) (w : World) (hC : kMet.C w A ms.length ms) (hin : ∀ m ∈ ms, PE.metIn m = true) (hlen : ms.length < 1000000) :
  Calls Try.prog 35 #[.slice A ms.length c] w fun e w' => ∃ v, e = .returned v ∧ Kd.string.R 9 w' w.heap.size (fun _ => True) v (namesOf ms) ∧ Below w.heap.size w w' := by
 have HC := Aside0.mk hC
 have HIN := Aside0.mk hin
 obtain ⟨N, hN⟩ : ∃ N, ms.length = N := ⟨_, rfl⟩
 have HN := Aside0.mk hN
 have HNL : Aside0 (N < 1000000) := ⟨by omega⟩
 have hmm := @run_makeMap Try.prog
 rw [hN]
 have HM0 : Aside0 (NMap w.heap.size [] (w.alloc (.map #[] 0))) := ⟨⟨.map [], ntells_none, World.ownsMap_made w Try.prog 9 (plainElem Try.prog 4)⟩⟩
 clear hC hin hN hlen
 go_enter Try.func35, Try.ntmps35
 go_wp2
 go_loopw [4, 10] (fun v i wr => ∃ (k : Int) (n : Nat) (out : List ByteArray), i = .int .i64 k ∧ Aside0 (k = (n : Int)) ∧ Aside0 (n ≤ N ∧ out.length ≤ n ∧ namesOf ms = nmGo (ms.drop n) out) ∧ Aside0 (NMap w.heap.size out wr) ∧ Aside0 (Kd.string.R 9 wr w.heap.size (fun k => some k = v.ownBlock) v out) ∧ Aside0 (Below w.heap.size w wr)) (fun v i wr => eaLeft N i)
 case atStart => exact ⟨0, 0, [], rfl, ⟨rfl⟩, ⟨⟨Nat.zero_le _, Nat.zero_le _, rfl⟩⟩, HM0, ⟨Kd.R_nil _ _ _ _ _⟩, ⟨below_alloc (Below.refl _ _) _⟩⟩
 case round =>
  clear HM0
  obtain ⟨k, n, out, rfl, HK, HP, HM, HR, HBL⟩ := hrel
  have hk := HK.out
  by_cases hlt : n < N
  ·have hi0 : 0 ≤ k := by omega
   have hi1 : k < (N : Int) := by omega
   have hd : decide (k < (N : Int)) = true := decide_eq_true hi1
   have hd0 : decide (0 ≤ k) = true := decide_eq_true hi0
   obtain ⟨ad, A2, c2, A4, c4, e0, x0, x1, x2, x3, x4, x5, l2, i2, l4, i4⟩ := at_T25 (Kd.C_below HC.out HBL.out) k hi0 (by rw [HN.out]; exact hi1)
   cases e0
   obtain ⟨m1, hm1⟩ : ∃ m, rd_T25 ms k = m := ⟨_, rfl⟩
   have hg1 : ms[n]? = some m1 := by
    rw [← hm1]
    unfold rd_T25
    rw [hk, Int.toNat_natCast, List.getD_eq_getElem?_getD, List.getElem?_eq_getElem (by rw [HN.out]; exact hlt)]
    rfl
   rw [hm1] at x0 x1 x2 x3 x4 x5 l2 i2 l4 i4
   clear hm1
   have hmem1 : m1 ∈ ms := List.mem_of_getElem? hg1
   have HSZ : Aside0 (m1.f0.size ≤ 9223372036854775807) := ⟨(PE.metC_of i2 l2 i4 l4 (HIN.out m1 hmem1)).wn⟩
   have HDR := Aside0.mk (nmGo_drop ms out n m1 hg1)
   have hadd : wrap64 (k + 1) = k + 1 := by
    unfold wrap64
    have := HNL.out
    omega
   have HADD := Aside0.mk hadd
   have HLT := Aside0.mk hlt
   have HI := Aside0.mk (And.intro hi0 hi1)
   have HB1 : Aside0 (Below wr.heap.size wr (wr.alloc (.cells #[.string m1.f0, .int .i64 m1.f1, .slice A2 m1.f2.length c2, .int .i64 m1.f3, .slice A4 m1.f4.length c4, .int .i64 m1.f5] 25))) := ⟨below_alloc (Below.refl _ _) _⟩
   have HBK : Aside0 ((wr.alloc (.cells #[.string m1.f0, .int .i64 m1.f1, .slice A2 m1.f2.length c2, .int .i64 m1.f3, .slice A4 m1.f4.length c4, .int .i64 m1.f5] 25)).heap[wr.heap.size]? = some (.cells #[.string m1.f0, .int .i64 m1.f1, .slice A2 m1.f2.length c2, .int .i64 m1.f3, .slice A4 m1.f4.length c4, .int .i64 m1.f5] 25 (0, 0))) := ⟨blk_new wr _⟩
   clear i2 l2 i4 l4 hg1 hmem1 hlt hk hadd
   have z0 : (wr.alloc (.cells #[.string m1.f0, .int .i64 m1.f1, .slice A2 m1.f2.length c2, .int .i64 m1.f3, .slice A4 m1.f4.length c4, .int .i64 m1.f5] 25)).cell? ⟨wr.heap.size, 0, none⟩ = some (.string m1.f0) := (blk_cell HBK.out 0).trans rfl
   have HM1 : Aside0 (NMap w.heap.size out (wr.alloc (.cells #[.string m1.f0, .int .i64 m1.f1, .slice A2 m1.f2.length c2, .int .i64 m1.f3, .slice A4 m1.f4.length c4, .int .i64 m1.f5] 25))) := ⟨HM.out.below HB1.out⟩
   by_cases hin : nmHas out m1.f0 = true
   ·have HQ : Aside0 (nmHas out m1.f0 = true) := ⟨hin⟩
    have HIN1 := Aside0.mk hin
    clear hin
    go_wp2_with (first | (at_lookup; go_must (refine nm_look rfl _ _ rfl rfl rfl HSZ.out HM1.out HQ.out ?_)))
    go_roundw
    case rel => exact ⟨k + 1, n + 1, out, by rw [HADD.out], ⟨by rw [HK.out]; simp⟩, ⟨⟨HLT.out, Nat.le_succ_of_le HP.out.2.1, by rw [HP.out.2.2, HDR.out, if_pos HQ.out]⟩⟩, HM1, ⟨Kd.R_below HR.out HB1.out⟩, ⟨below_alloc HBL.out _⟩⟩
    case measure => rw [HADD.out]; show N - (k + 1).toNat < N - k.toNat; have := HI.out; omega
   ·have HQ : Aside0 (nmHas out m1.f0 = false) := ⟨by simpa using hin⟩
    clear hin
    have HNE : Aside0 (some w.heap.size ≠ u4.ownBlock) := ⟨fun e => by
     obtain ⟨cells, h1⟩ := Kd.R_typed HR.out w.heap.size e.symm
     obtain ⟨es, c, h2⟩ := HM.out.blk
     rw [h1] at h2
     cases h2⟩
    have HGL : Aside0 (w.heap.size < wr.heap.size) := ⟨HM.out.lt⟩
    have HOL : Aside0 (out.length < 1000000) := ⟨by have := HP.out; have := HNL.out; omega⟩
    obtain ⟨n1, hn1⟩ : ∃ n1, n1 = out.length + 1 := ⟨_, rfl⟩
    have HN1 := Aside0.mk hn1
    clear hn1
    go_wp2_with (first | (at_lookup; go_must (refine nm_look rfl _ _ rfl rfl rfl HSZ.out HM1.out HQ.out ?_)) | (at_mapUpdate; go_must (refine nm_upd rfl _ _ _ rfl rfl rfl rfl HSZ.out HM1.out HOL.out ?_); intro w4 hm4 hg4; have HM4 := Aside0.mk hm4; have HG4 := Aside0.mk hg4; have HBK4 := Aside0.mk ((hg4.block _ (blk_lt HBK.out) (fun e => by injection e with e; have := HGL.out; omega)).trans HBK.out); have z4 := (blk_cell HBK4.out 0).trans rfl; have HR4 := Aside0.mk (Kd.R_step (Kd.R_below HR.out HB1.out) (w1 := w4) (fun k hk hl => hg4.block k hl (fun e => HNE.out (by rw [← e]; exact hk)))); clear hm4 hg4) | (at_builtin; go_must (refine nm_app (v := u4) (W := w4) (base := w.heap.size) rfl rfl rfl rfl uSsN iSsN HR4.out (by have := HM4.out.lt; omega) (by have := HOL.out; omega) HN1.out ?_); intro g1 c1 w5 hr1 hg1 hat1 hlt1; have HR1 := Aside0.mk hr1; have HG1 := Aside0.mk hg1; have HAT := Aside0.mk hat1; have HLT1 := Aside0.mk hlt1; clear hr1 hg1 hat1 hlt1))
    have HB4 : Aside0 (Below w.heap.size w w4) := ⟨Below.grown (below_alloc HBL.out _) HG4.out (below_alloc HBL.out _).size (fun k hk => by injection hk with hk; omega)⟩
    have HB5 : Aside0 (Below w.heap.size w w5) := ⟨Below.grown HB4.out HG1.out HB4.out.size (fun k hk => Kd.R_base HR.out k hk)⟩
    have HM5 : Aside0 (NMap w.heap.size (out ++ [m1.f0]) w5) := ⟨HM4.out.step fun o ho => (HG1.out.block _ (blk_lt ho) HNE.out).trans ho⟩
    go_roundw
    case rel => exact ⟨k + 1, n + 1, out ++ [m1.f0], by rw [HADD.out], ⟨by rw [HK.out]; simp⟩, ⟨⟨HLT.out, by have := HP.out.2.1; simp; omega, by rw [HP.out.2.2, HDR.out, if_neg (by rw [HQ.out]; decide)]⟩⟩, HM5, HR1, HB5⟩
    case measure => rw [HADD.out]; show N - (k + 1).toNat < N - k.toNat; have := HI.out; omega
  ·have hd : decide (k < (N : Int)) = false := decide_eq_false (by omega)
   have hnN : n = N := Nat.le_antisymm HP.out.1 (Nat.not_lt.mp hlt)
   have HNN := Aside0.mk hnN
   clear hlt hk hnN
   go_wp2
   go_ret
   refine ⟨_, rfl, ?_, HBL.out⟩
   rw [HP.out.2.2, List.drop_eq_nil_of_le (by rw [HN.out, HNN.out]; exact Nat.le_refl _)]
   exact Kd.R_mono HR.out (fun _ _ => trivial)
end Go.Proofs.Yteamldgngknmfaa
/- The contract of package batch's Names in the printed form; no condition. -/
namespace Go.Proofs.Yteamldgngknmfaa.PE
open Go.RowKit Go.Proofs.YteamldgngknmfaaW.PrintWords Go.Proofs.YteamldgngknmfaaW.PrintLast Go.Proofs.YteamldgngknmfaaW.PrintMore Go.Proofs.Yteamldgngknmfaa
set_option linter.unusedVariables false
set_option linter.unusedSimpArgs false
def namIn (l : List S25) : Bool := l.all metIn && decide (l.length < 1000000)
def batch_Names.f (l0 : List S25) : Option (List ByteArray) := if namIn l0 = true then some (namesOf l0) else none
theorem batch_Names.calls (A0 : Option Addr) (c0 : Nat) (l0 : List S25) (r : List ByteArray) (w : World) (hr0 : Kd.C k25 w A0 l0.length l0) (hc0 : l0.length ≤ c0) (h : batch_Names.f l0 = some r) :
  Calls Try.prog 35 #[.slice A0 l0.length c0] w fun e w' => ∃ v0_ : Value, e = .returned (v0_) ∧ Kd.R Kd.string 9 w' w.heap.size (fun _ => True) v0_ r ∧ Below w.heap.size w w' := by
 unfold batch_Names.f at h
 split at h
 ·rename_i hq
  cases h
  unfold namIn at hq
  simp only [Bool.and_eq_true, List.all_eq_true, decide_eq_true_eq] at hq
  exact batnames_calls l0 A0 c0 w hr0 hq.1 hq.2
 ·cases h
end Go.Proofs.Yteamldgngknmfaa.PE
