/- Package chunk: the iterator over a framer's frames; no condition. -/
import Derived.Test.YtmbfjaogimkncaaFrIterA
import Derived.TacticsInMore
import Derived.OwnWalkIn
import Derived.LoopNIn
import Derived.LoopIn
import Derived.Shelf.RegionOpen
namespace Go.Proofs.Ytmbfjaogimkncaa
open Go.RowKit Go.Proofs.YtmbfjaogimkncaaW.PrintWords Go.Proofs.YtmbfjaogimkncaaW.PrintLast Go.Proofs.YtmbfjaogimkncaaW.PrintMore
set_option linter.unusedVariables false
set_option linter.unusedSimpArgs false
theorem wide_fn (f : FuncId) : Fence.wide.fn f = True := rfl
theorem wide_depth : Fence.wide.depth = none := rfl
theorem round_wide {n m : Nat} {P : Program} {l : Nat} {f : FuncId} {tmps : Array Value} {assign body : Code} {w : World} {R : Ending → World → Prop} (h : RoundIn Fence.wide n P l f tmps assign body w R) : RoundIn Fence.wide m P l f tmps assign body w R := ⟨h.1, fun c cs _ => h.2 c cs (room_wide _)⟩
attribute [local go_sem] wide_fn wide_depth Fence.wide_round
def boxLen (w : World) (b : Nat) : Nat := match w.cell? ⟨b, 0, none⟩ with | some (.slice _ n _) => n | _ => 0
/-- What the iterator has when it has ended. -/
def IterEnd (most : Int) (g : Nat) (s0 : FS) (b : List Int) (O : Nat → Prop) (outs : List FX) (W : World) : Prop :=
  ∃ f : Fr, FrAt f W ∧ (∀ k, f.F k → O k) ∧ f.g = g ∧ f.most = most ∧ f.fs = (frun most s0 b).1 ∧ outs = (frun most s0 b).2
set_option maxHeartbeats 8000000 in
set_option maxRecDepth 100000 in
theorem frames1_owns (n : Nat) (most : Int) (h0 : 0 ≤ most) (hm : most ≤ 1048576) (g bb bf : Nat) (K : Option Nat) (f : Fr) (A : Option Addr) (c : Nat) (b : List Int) (w : World) (he : f.ended = false) (hok : FSok most f.fs) (hit : ItAt most g bb bf K f A c b w) :
    SeqOwns n Try.prog 77 #[.pointer (some ⟨bb, 0, none⟩), .pointer (some ⟨bf, 0, none⟩)] (fun x : FV => #[.agg x.cells]) (fun x : FV => x.fx) FVok (IterEnd most g f.fs b) (OO g bb bf f.v K) b.length w := by
  intro l J W hW hJ hY h0
  have HJ := Aside0.mk hJ
  have HY := Aside0.mk hY
  have HI := Aside0.mk (hit.keep (Chg.of_below hW (fun _ => False)) (fun _ _ h => h))
  have H0 := Aside0.mk h0
  have HOK := Aside0.mk hok
  have HE := Aside0.mk he
  clear hJ hY h0 hit hok he
  refine callsIn_of_wp Try.func77 rfl trivial ?_ rfl
  simp only [Try.ntmps77, List.size_toArray, List.length_cons, List.length_nil, Nat.reduceAdd, Nat.reduceSub, Array.replicate_succ, Array.replicate_zero, List.push_toArray, List.append_toArray, List.nil_append, List.cons_append]
  gi_wp2
  gi_loopw [] (fun wr => ∃ (f1 : Fr) (A1 : Option Addr) (c1 : Nat) (xs : List Int) (pre : List FX), Aside0 (ItAt most g bb bf K f1 A1 c1 xs wr) ∧ Aside0 (f1.ended = false ∧ FSok most f1.fs) ∧ Aside0 (J (OO g bb bf f1.v K) pre wr) ∧ Aside0 (frun most f.fs b = ((frun most f1.fs xs).1, pre ++ (frun most f1.fs xs).2))) (fun wr => boxLen wr bb)
  case atStart =>
    exact ⟨f, A, c, b, [], HI, ⟨HE.out, HOK.out⟩, H0, ⟨rfl⟩⟩
  case round =>
    clear HI HE HOK H0
    obtain ⟨f1, A1, c1, xs, pre, HI, HE, H0, HR⟩ := hrel
    have kb := (blk_cell HI.out.kb 0).trans rfl
    have kf := (blk_cell HI.out.kf 0).trans rfl
    have g3 := (blk_cell HI.out.fr.blk 3).trans rfl
    rw [HI.out.hg] at g3
    cases xs with
    | nil =>
      gi_wp2
      go_end0
      refine ⟨⟨_, rfl⟩, OO g bb bf f1.v K, pre, ⟨f1, HI.out.fr, ?_, HI.out.hg, HI.out.hmost, ?_, ?_⟩, H0.out⟩
      · rintro k (hk | hk)
        · exact .inl (hk.trans HI.out.hg)
        · exact .inr (.inl hk)
      · rw [HR.out]; rfl
      · rw [HR.out]; simp [frun]
    | cons x ys =>
      obtain ⟨N, hN⟩ : ∃ N, (x :: ys).length = N := ⟨_, rfl⟩
      rw [hN] at kb
      have hN1 : 1 ≤ N := by rw [← hN, List.length_cons]; omega
      have hN2 : decide (0 < (N : Int)) = true := decide_eq_true (by omega)
      have hN3 : decide (0 < N) = true := decide_eq_true (by omega)
      have HN := Aside0.mk hN
      have HBL : Aside0 (boxLen wr bb = N) := ⟨by unfold boxLen; rw [kb]; rfl⟩
      clear hN
      by_cases hnd : f1.need = 0
      · rw [hnd] at g3
        have HCL := Aside0.mk (frhead_any f1 A1 c1 (x :: ys) N HN.out hN1 (by rw [← HN.out]; exact HI.out.cap) wr HI.out.fr (by rw [← HN.out]; exact HI.out.row) HI.out.byte (by have := HI.out.big; have := HN.out; omega) (cls f1.most (f1.op ++ (x :: ys).take 1)).1 (cls f1.most (f1.op ++ (x :: ys).take 1)).2 rfl)
        rw [HI.out.hg] at HCL
        have HND0 := Aside0.mk hnd
        clear hnd
        gi_wp2_with fail
        refine (callsIn_wide.2 HCL.out).mono ?_
        clear HCL
        obtain ⟨op2, hop2⟩ : ∃ o, f1.op ++ [x] = o := ⟨_, rfl⟩
        have hop3 : f1.op ++ List.take 1 (x :: ys) = op2 := hop2
        rw [hop3]
        obtain ⟨code, hcode⟩ : ∃ o, (cls f1.most op2).1 = o := ⟨_, rfl⟩
        obtain ⟨nd, hnd⟩ : ∃ o, (cls f1.most op2).2 = o := ⟨_, rfl⟩
        rw [hcode, hnd]
        have HOP := Aside0.mk hop2
        have HCO := Aside0.mk hcode
        have HND := Aside0.mk hnd
        clear hop2 hop3 hcode hnd kb g3
        rintro e w1 (⟨hc, rfl, ht⟩ | ⟨hc, rfl, ht⟩)
        · obtain ⟨v', hit2, hch2, hoo2, hfr1, hbb1, hbf1⟩ := HI.out.turned ht (fun v' => ⟨rfl, rfl, HI.out.hmost⟩) (A' := none) (c' := 0) (ys := []) ⟨rfl, Nat.zero_le _, fun h => absurd h (Nat.lt_irrefl 0)⟩ (fun ad e => by cases e) (Nat.le_refl _) (by simp) (fun v' => by have := HI.out.big; rw [List.length_cons] at this; show f1.pos + 1 + 0 ≤ _; omega)
          have HIT2 : Aside0 (ItAt most g bb bf K ⟨g, f1.most, f1.pos + 1, v', op2, f1.need, f1.ended⟩ none 0 [] (w1.setCell ⟨bb, 0, none⟩ (.slice none 0 0))) := ⟨hit2⟩
          have HJ2 : Aside0 (J (OO g bb bf v' K) pre (w1.setCell ⟨bb, 0, none⟩ (.slice none 0 0))) := ⟨HJ.out.turn H0.out hch2 hoo2⟩
          have kb1 := (blk_cell hbb1 0).trans rfl
          have fb1 := blk_frozen hbb1 0
          have cb : (code != 0) = true := bne_iff_ne.mpr hc
          obtain ⟨t1, t2, t3⟩ := HI.out.types
          clear hit2 hch2 hoo2 hfr1 hbb1 hbf1 ht kf hN1 hN2 hN3 HN H0 HI
          have kf2 := (blk_cell HIT2.out.kf 0).trans rfl
          have g4 := blk_frozen HIT2.out.fr.blk 4
          have c4 := (blk_cell HIT2.out.fr.blk 4).trans rfl
          gi_wp2_with fail
          have hE3 := HIT2.out.fr.endIt
          obtain ⟨A2, c2, L, lo, hi, hv2, hL, hlo, hhi, hFC⟩ := frframe2 _ _ hE3.1
          refine (callsIn_wide.2 hFC).mono ?_
          clear hFC
          rintro e w4 ⟨rfl, hfr4, hch4⟩
          obtain ⟨w2, hw2⟩ : ∃ w2, w1.setCell ⟨bb, 0, none⟩ (.slice none 0 0) = w2 := ⟨_, rfl⟩
          rw [hw2] at hE3 HIT2 HJ2 hch4
          have HFR4 : Aside0 (FrAt ⟨g, f1.most, f1.pos + 1, .slice none 0 0, [], 0, true⟩ w4) := ⟨hfr4⟩
          have hch5 : Chg (fun k => k = g) w2 w4 := hE3.2.trans hch4 (fun k hk => .inl hk)
          have HCH5 := Aside0.mk hch5
          have hbig1 := HIT2.out.big
          have hbig2 : f1.pos + 1 + 0 ≤ 140737488350000 := hbig1
          have hhi2 : hi = ((f1.pos + 1 : Nat) : Int) := hhi
          have hw : wrap64 (hi - 1) = hi - 1 := IntWalk.wrap64_in _ (by omega)
          clear hbig1 hbig2 hhi2
          have HX : Aside0 (L = op2.length ∧ lo = ((f1.pos + 1 : Nat) : Int) - (op2.length : Int) ∧ hi = ((f1.pos + 1 : Nat) : Int)) := ⟨hL, hlo, hhi⟩
          clear hch5 hch4 hfr4 hE3 hw2 kf2 g4 c4 kb1 fb1 hv2 hL hlo hhi
          have HM := Aside0.mk (blk_new w4 (.cells #[.int .i64 lo, .int .i64 hi, .slice A2 L c2, .int .i64 0, .int .i64 0] 42))
          have n1 := (blk_cell HM.out 1).trans rfl
          have HJ5 : Aside0 (J (OO g bb bf (.slice none 0 0) none) pre (w4.alloc (.cells #[.int .i64 lo, .int .i64 hi, .slice none 0 0, .int .i64 code, .int .i64 (hi - 1)] 42))) := by
            refine ⟨HJ.out.turn HJ2.out ((HCH5.out.mono' (fun k hk => .inl hk)).alloc _) ?_⟩
            rintro k (hk | hk | hk | hk | hk)
            · exact .inl (.inl hk)
            · cases hk
            · exact .inl (.inr (.inr (.inl hk)))
            · exact .inl (.inr (.inr (.inr (.inl hk))))
            · cases hk
          have hmost0 : f1.most = most := HIT2.out.hmost
          have hpl : pre.length < b.length := by
            have h1 := frun_few most b f.fs
            rw [HR.out, frun_bad (most := most) (s := f1.fs) (x := x) (ys := ys) HE.out.1 HND0.out (by show (cls most (f1.op ++ [x])).1 ≠ 0; rw [HOP.out, ← hmost0, HCO.out]; exact hc)] at h1
            simp only [List.length_append, List.length_singleton] at h1
            omega
          clear hmost0
          obtain ⟨fn, tmps, assign, body, hy, hR⟩ := HY.out _ (OO g bb bf (.slice none 0 0) none) pre ⟨none, 0, ⟨lo, hi, [], code, hi - 1⟩⟩ _ HJ5.out ⟨Kd.R_nil _ _ _ _ _, fun k hk => (by cases hk), fun k hk => ⟨hk, fun e => by cases e⟩⟩ hpl
          dsimp only [FV.cells, List.length_nil] at hy
          have HRR := Aside0.mk hR
          clear hR
          gi_wp2_with fail
          refine (round_wide HRR.out).mono ?_
          clear hy HRR
          rintro e W5 ⟨rfl, hJ5, hk5⟩
          have HJ6 := Aside0.mk hJ5
          have HK6 := Aside0.mk hk5
          clear hJ5 hk5 n1 hw
          gi_wp2
          refine bodyPost_ret (results_none rfl _ _ _) rfl ?_
          have hF : ∀ k, (⟨g, f1.most, f1.pos + 1, .slice none 0 0, [], 0, true⟩ : Fr).F k → OO g bb bf (.slice none 0 0) none k := by
            rintro k (hk | hk)
            · exact .inl hk
            · cases hk
          have hmost : f1.most = most := HIT2.out.hmost
          have hbad := frun_bad (most := most) (s := f1.fs) (x := x) (ys := ys) HE.out.1 HND0.out (by show (cls most (f1.op ++ [x])).1 ≠ 0; rw [HOP.out, ← hmost, HCO.out]; exact hc)
          refine ⟨⟨_, rfl⟩, OO g bb bf (.slice none 0 0) none, _, ⟨⟨g, f1.most, f1.pos + 1, .slice none 0 0, [], 0, true⟩, (HFR4.out.alloc _).step HK6.out (fun k hk hn => hn (hF k hk)), hF, rfl, hmost, ?_, ?_⟩, HJ6.out⟩
          · rw [HR.out, hbad]; rfl
          · rw [HR.out, hbad]
            show pre ++ [_] = pre ++ [_]
            congr 2
            obtain ⟨x1, x2, x3⟩ := HX.out
            have hlen : (op2.length : Int) = (f1.op.length : Int) + 1 := by rw [← HOP.out, List.length_append, List.length_singleton]; omega
            show FX.mk _ _ _ _ _ = FX.mk ((f1.pos : Int) - f1.op.length) ((f1.pos : Int) + 1) [] (cls most (f1.op ++ [x])).1 f1.pos
            rw [HOP.out, ← hmost, HCO.out]
            congr 1 <;> omega
        · have hM : ∃ M, N - 1 = M := ⟨_, rfl⟩
          obtain ⟨M, hM⟩ := hM
          have hyl : ys.length = M := by have := HN.out; rw [List.length_cons] at this; omega
          obtain ⟨A2, hA2⟩ : ∃ a, (if c1 = 1 then A1 else Option.map (fun x => x.add 1) A1) = a := ⟨_, rfl⟩
          obtain ⟨c2, hc2⟩ : ∃ c2, c1 - 1 = c2 := ⟨_, rfl⟩
          have hrow := C_from HI.out.row 1 c1 (by rw [List.length_cons]; omega) HI.out.cap
          have hcap := HI.out.cap
          rw [List.length_cons] at hcap
          rw [hA2, show (x :: ys).length - 1 = ys.length from rfl, show (x :: ys).drop 1 = ys from rfl] at hrow
          have hA3 : ∀ ad, A2 = some ad → some ad.block = K := by
            intro ad hd
            rw [← hA2] at hd
            split at hd
            · exact HI.out.blk ad hd
            · cases A1 with
              | none => cases hd
              | some a1 =>
                injection hd with hd
                rw [← hd, add_block]
                exact HI.out.blk a1 rfl
          obtain ⟨v', hit2, hch2, hoo2, hfr1, hbb1, hbf1⟩ := HI.out.turned ht (fun v' => ⟨rfl, rfl, HI.out.hmost⟩) (A' := A2) (c' := c2) (ys := ys) hrow hA3 (by omega) (fun y hy => HI.out.byte y (List.mem_cons_of_mem _ hy)) (fun v' => by have := HI.out.big; rw [List.length_cons] at this; show f1.pos + 1 + ys.length ≤ _; omega)
          rw [hyl] at hch2 hoo2
          have HIT2 : Aside0 (ItAt most g bb bf K ⟨g, f1.most, f1.pos + 1, v', op2, nd, f1.ended⟩ A2 c2 ys (w1.setCell ⟨bb, 0, none⟩ (.slice A2 M c2))) := ⟨by rw [← hyl]; exact hit2⟩
          have HJ2 : Aside0 (J (OO g bb bf v' K) pre (w1.setCell ⟨bb, 0, none⟩ (.slice A2 M c2))) := ⟨HJ.out.turn H0.out (by rw [← hyl]; rw [← hyl] at hch2; exact hch2) (by rw [← hyl]; rw [← hyl] at hoo2; exact hoo2)⟩
          have kb1 := (blk_cell hbb1 0).trans rfl
          have fb1 := blk_frozen hbb1 0
          rw [hA2, hc2, hM]
          have hmost : f1.most = most := HI.out.hmost
          have hcls0 : (cls most (f1.fs.op ++ [x])).1 = 0 := by show (cls most (f1.op ++ [x])).1 = 0; rw [HOP.out, ← hmost, HCO.out]; exact hc
          have hndq : (cls most (f1.fs.op ++ [x])).2 = nd := by show (cls most (f1.op ++ [x])).2 = nd; rw [HOP.out, ← hmost, HND.out]
          have hok2 := fstep_head_ok h0 hm (HI.out.byte x List.mem_cons_self).1 HE.out.2 HE.out.1 HND0.out hcls0
          have hrun2 := frun_head (most := most) (s := f1.fs) (x := x) (ys := ys) HE.out.1 HND0.out hcls0
          rw [hndq] at hok2 hrun2
          have HOK2 : Aside0 (FSok most ⟨f1.pos + 1, op2, nd, false⟩) := ⟨by rw [← HOP.out]; exact hok2⟩
          have HRUN2 : Aside0 (frun most f1.fs (x :: ys) = frun most ⟨f1.pos + 1, op2, nd, false⟩ ys) := ⟨by rw [← HOP.out]; exact hrun2⟩
          have HLEN := Aside0.mk hyl
          have hnp : 0 < nd → op2.length < nd := HOK2.out.part
          clear hit2 hch2 hoo2 hfr1 hbb1 hbf1 ht kf hN1 hN2 hN3 H0 hA2 hc2 hM hrow hcap hA3 hyl hok2 hrun2 hcls0 hndq
          have kf2 := (blk_cell HIT2.out.kf 0).trans rfl
          have g3 := (blk_cell HIT2.out.fr.blk 3).trans rfl
          have g2 := (blk_cell HIT2.out.fr.blk 2).trans rfl
          have hmix : Try.prog.follows .mixedOrders = true := by kernel_rfl
          obtain ⟨A3, c3, hv3, hcc3, hC3⟩ := HIT2.out.fr.slice
          have hv4 : v' = .slice A3 op2.length c3 := hv3
          subst hv4
          clear hv3 hcc3 hC3
          by_cases hn0 : nd = 0
          · have hb0 : (nd == 0) = true := beq_iff_eq.mpr hn0
            have hb1 : ((nd : Int) == 0) = true := beq_iff_eq.mpr (by omega)
            gi_wp2_with fail
            gi_big_quiet_th_o (fail)
            gi_wp2
            refine ⟨⟨⟨g, f1.most, f1.pos + 1, .slice A3 op2.length c3, op2, nd, f1.ended⟩, A2, c2, ys, pre, ⟨HIT2.out.keep ((Chg.refl (fun _ => False) _).drewN nq) (fun _ _ h => h)⟩, ⟨HE.out.1, ?_⟩, ⟨HJ.out.turn HJ2.out ((Chg.refl _ _).drewN nq) (fun k hk => .inl hk)⟩, ⟨?_⟩⟩, ?_⟩
            · show FSok most (FS.mk _ _ _ f1.ended)
              rw [HE.out.1]; exact HOK2.out
            · show frun most f.fs b = ((frun most (FS.mk _ _ _ f1.ended) ys).1, pre ++ (frun most (FS.mk _ _ _ f1.ended) ys).2)
              rw [HE.out.1, HR.out, HRUN2.out]
            · rw [HBL.out]
              have kb2 : ((w1.setCell ⟨bb, 0, none⟩ (.slice A2 M c2)).drewN nq).cell? ⟨bb, 0, none⟩ = some (.slice A2 ys.length c2) := (blk_cell (blk_drewN HIT2.out.kb nq) 0).trans rfl
              unfold boxLen
              rw [kb2]
              have h1 := HN.out
              rw [List.length_cons] at h1
              show ys.length < N
              omega
          · have hb0 : (nd == 0) = false := beq_eq_false_iff_ne.mpr hn0
            have hb1 : ((nd : Int) == 0) = false := beq_eq_false_iff_ne.mpr (by omega)
            have hb2 : decide (op2.length < nd) = true := decide_eq_true (hnp (by omega))
            have hb3 : decide ((op2.length : Int) < (nd : Int)) = true := decide_eq_true (by have := hnp (by omega); omega)
            gi_wp2_with fail
            gi_big_quiet_th_o (fail)
            gi_wp2
            refine ⟨⟨⟨g, f1.most, f1.pos + 1, .slice A3 op2.length c3, op2, nd, f1.ended⟩, A2, c2, ys, pre, ⟨HIT2.out.keep ((Chg.refl (fun _ => False) _).drewN nq) (fun _ _ h => h)⟩, ⟨HE.out.1, ?_⟩, ⟨HJ.out.turn HJ2.out ((Chg.refl _ _).drewN nq) (fun k hk => .inl hk)⟩, ⟨?_⟩⟩, ?_⟩
            · show FSok most (FS.mk _ _ _ f1.ended)
              rw [HE.out.1]; exact HOK2.out
            · show frun most f.fs b = ((frun most (FS.mk _ _ _ f1.ended) ys).1, pre ++ (frun most (FS.mk _ _ _ f1.ended) ys).2)
              rw [HE.out.1, HR.out, HRUN2.out]
            · rw [HBL.out]
              have kb2 : ((w1.setCell ⟨bb, 0, none⟩ (.slice A2 M c2)).drewN nq).cell? ⟨bb, 0, none⟩ = some (.slice A2 ys.length c2) := (blk_cell (blk_drewN HIT2.out.kb nq) 0).trans rfl
              unfold boxLen
              rw [kb2]
              have h1 := HN.out
              rw [List.length_cons] at h1
              show ys.length < N
              omega
      · have hnp0 : 0 < f1.need := by omega
        have hpart : f1.op.length < f1.need := HE.out.2.part hnp0
        have hfew : (f1.need : Int) ≤ most + 10 := HE.out.2.few
        obtain ⟨k, hk, hkn, hkm⟩ : ∃ k : Nat, min ((f1.need : Int) - (f1.op.length : Int)) (N : Int) = (k : Int) ∧ k ≤ N ∧ k = min (f1.need - f1.op.length) N := ⟨min (f1.need - f1.op.length) N, by omega, Nat.min_le_right _ _, rfl⟩
        have HCL := Aside0.mk (frbody_calls f1 A1 c1 (x :: ys) N HN.out (by rw [← HN.out]; exact HI.out.cap) k hk hkn wr HI.out.fr (by rw [← HN.out]; exact HI.out.row) HI.out.byte (by have := HI.out.big; have := HN.out; omega) (by omega))
        rw [HI.out.hg] at HCL
        have hnd2 : decide (0 < f1.need) = true := decide_eq_true hnp0
        have hnd3 : decide (0 < (f1.need : Int)) = true := decide_eq_true (by omega)
        have hk1 : 1 ≤ k := by omega
        have HKM := Aside0.mk hkm
        clear hk hkm
        obtain ⟨op2, hop2⟩ : ∃ o, f1.op ++ List.take k (x :: ys) = o := ⟨_, rfl⟩
        obtain ⟨rest, hrest⟩ : ∃ o, List.drop k (x :: ys) = o := ⟨_, rfl⟩
        rw [hop2] at HCL
        have HOP := Aside0.mk hop2
        have HRST := Aside0.mk hrest
        have hl2 : op2.length = f1.op.length + k := by rw [← hop2, List.length_append, List.length_take, HN.out]; omega
        obtain ⟨M, hM⟩ : ∃ M, N - k = M := ⟨_, rfl⟩
        have hyl : rest.length = M := by rw [← hrest, List.length_drop, HN.out]; exact hM
        obtain ⟨A2, hA2⟩ : ∃ a, (if c1 = k then A1 else Option.map (fun x => x.add k) A1) = a := ⟨_, rfl⟩
        obtain ⟨c2, hc2⟩ : ∃ c2, c1 - k = c2 := ⟨_, rfl⟩
        have hrow := C_from HI.out.row k c1 (by rw [HN.out]; exact hkn) HI.out.cap
        have hcap := HI.out.cap
        rw [HN.out] at hcap
        rw [hA2, hrest, HN.out, hM, ← hyl] at hrow
        have hA3 : ∀ ad, A2 = some ad → some ad.block = K := by
          intro ad hd
          rw [← hA2] at hd
          split at hd
          · exact HI.out.blk ad hd
          · cases A1 with
            | none => cases hd
            | some a1 =>
              injection hd with hd
              rw [← hd, add_block]
              exact HI.out.blk a1 rfl
        rw [hA2, hM, hc2] at HCL
        have HL2 := Aside0.mk hl2
        have HYL := Aside0.mk hyl
        have HROW := Aside0.mk hrow
        have HCAP : Aside0 (rest.length ≤ c2) := ⟨by omega⟩
        have HA3 := Aside0.mk hA3
        have hMN : M < N := by omega
        have HMK : Aside0 (M + k = N) := ⟨by omega⟩
        clear hop2 hrest hA2 hc2 hrow hcap hA3 hyl hl2 hM
        gi_wp2_with fail
        refine (callsIn_wide.2 HCL.out).mono ?_
        clear HCL
        rintro e w1 ⟨rfl, ht⟩
        have hbyte2 : ∀ y ∈ rest, 0 ≤ y ∧ y < 256 := fun y hy => HI.out.byte y (by rw [← HRST.out] at hy; exact List.mem_of_mem_drop hy)
        obtain ⟨v', hit2, hch2, hoo2, hfr1, hbb1, hbf1⟩ := HI.out.turned ht (fun v' => ⟨rfl, rfl, HI.out.hmost⟩) (A' := A2) (c' := c2) (ys := rest) HROW.out HA3.out HCAP.out hbyte2 (fun v' => by have h1 := HI.out.big; rw [HN.out] at h1; show f1.pos + k + rest.length ≤ _; have := HYL.out; have := HMK.out; omega)
        have HIT2 : Aside0 (ItAt most g bb bf K ⟨g, f1.most, f1.pos + k, v', op2, f1.need, f1.ended⟩ A2 c2 rest (w1.setCell ⟨bb, 0, none⟩ (.slice A2 M c2))) := ⟨by rw [← HYL.out]; exact hit2⟩
        have HJ2 : Aside0 (J (OO g bb bf v' K) pre (w1.setCell ⟨bb, 0, none⟩ (.slice A2 M c2))) := ⟨by rw [← HYL.out]; exact HJ.out.turn H0.out hch2 hoo2⟩
        have kb1 := (blk_cell hbb1 0).trans rfl
        have fb1 := blk_frozen hbb1 0
        have hmost : f1.most = most := HI.out.hmost
        clear hit2 hch2 hoo2 hfr1 hbb1 hbf1 ht kf hN1 hN2 hN3 H0 hbyte2 HROW HCAP HA3 g3 kb
        have kf2 := (blk_cell HIT2.out.kf 0).trans rfl
        have g3 := (blk_cell HIT2.out.fr.blk 3).trans rfl
        have g2 := (blk_cell HIT2.out.fr.blk 2).trans rfl
        have hmix : Try.prog.follows .mixedOrders = true := by kernel_rfl
        obtain ⟨A3, c3, hv3, hcc3, hC3⟩ := HIT2.out.fr.slice
        have hv4 : v' = .slice A3 op2.length c3 := hv3
        subst hv4
        clear hv3 hcc3 hC3
        have hb0 : (f1.need == 0) = false := beq_eq_false_iff_ne.mpr hnd
        have hb1 : ((f1.need : Int) == 0) = false := beq_eq_false_iff_ne.mpr (by omega)
        have HND := Aside0.mk hnd
        have HP := Aside0.mk hpart
        have HF := Aside0.mk hfew
        have HK1 := Aside0.mk hk1
        have HKN := Aside0.mk hkn
        have HMN := Aside0.mk hMN
        by_cases hwh : op2.length < f1.need
        · have hb2 : decide (op2.length < f1.need) = true := decide_eq_true hwh
          have hb3 : decide ((op2.length : Int) < (f1.need : Int)) = true := decide_eq_true (by omega)
          have HW := Aside0.mk hwh
          clear hwh hnd hpart hfew hk1 hkn hMN hnp0 hnd2 hnd3
          gi_wp2_with fail
          gi_big_quiet_th_o (fail)
          gi_wp2
          have hkN : k = (x :: ys).length := by rw [HN.out]; have h1 := HKM.out; have h2 := HW.out; have h3 := HL2.out; omega
          have hrun2 := frun_take_part (most := most) (s := f1.fs) (xs := x :: ys) (k := k) HE.out.1 (Nat.pos_of_ne_zero HND.out) (by show f1.op.length + k < f1.need; rw [← HL2.out]; exact HW.out) hkN
          have hrun3 : frun most f1.fs (x :: ys) = frun most ⟨f1.pos + k, op2, f1.need, false⟩ rest := by rw [hrun2, ← HOP.out, ← HRST.out]; rfl
          refine ⟨⟨⟨g, f1.most, f1.pos + k, .slice A3 op2.length c3, op2, f1.need, f1.ended⟩, A2, c2, rest, pre, ⟨HIT2.out.keep ((Chg.refl (fun _ => False) _).drewN nq) (fun _ _ h => h)⟩, ⟨HE.out.1, ?_⟩, ⟨HJ.out.turn HJ2.out ((Chg.refl _ _).drewN nq) (fun k hk => .inl hk)⟩, ⟨?_⟩⟩, ?_⟩
          · exact ⟨fun hz => absurd hz HND.out, fun _ => HW.out, HF.out, fun hz => by have h1 := HE.out.1; rw [show f1.ended = true from hz] at h1; cases h1⟩
          · show frun most f.fs b = ((frun most (FS.mk _ _ _ f1.ended) rest).1, pre ++ (frun most (FS.mk _ _ _ f1.ended) rest).2)
            rw [HE.out.1, HR.out, hrun3]
          · rw [HBL.out]
            have kb2 : ((w1.setCell ⟨bb, 0, none⟩ (.slice A2 M c2)).drewN nq).cell? ⟨bb, 0, none⟩ = some (.slice A2 rest.length c2) := (blk_cell (blk_drewN HIT2.out.kb nq) 0).trans rfl
            unfold boxLen
            rw [kb2]
            show rest.length < N
            rw [HYL.out]
            exact HMN.out
        · have hb2 : decide (op2.length < f1.need) = false := decide_eq_false hwh
          have hb3 : decide ((op2.length : Int) < (f1.need : Int)) = false := decide_eq_false (by omega)
          have HW := Aside0.mk hwh
          clear hwh hnd hpart hfew hk1 hkn hMN hnp0 hnd2 hnd3
          gi_wp2_with fail
          gi_big_quiet_th_o (fail)
          gi_wp2_with fail
          have hit3 := HIT2.out.keep ((Chg.refl (fun _ => False) _).drewN nq) (fun _ _ h => h)
          obtain ⟨A4, c4, L, lo, hi, hv2, hL, hlo, hhi, hFC⟩ := frframe2 _ _ hit3.fr
          refine (callsIn_wide.2 hFC).mono ?_
          clear hFC
          rintro e w4 ⟨rfl, hfr4, hch4⟩
          have HIT4 := Aside0.mk (hit3.framed hfr4 hch4)
          have HG4 := Aside0.mk (hit3.give hch4 (hv2.trans (by rw [hL])) lo hi 0 0)
          have HJ4 := Aside0.mk (HJ.out.turn (HJ.out.turn HJ2.out ((Chg.refl _ _).drewN nq) (fun k hk => .inl hk)) (hch4.mono' (T := OO g bb bf (.slice A3 op2.length c3) K) (fun k hk => .inl hk)) (fun k hk => .inl hk))
          have hL2 : L = op2.length := hL
          have HX : Aside0 (L = op2.length ∧ lo = ((f1.pos + k : Nat) : Int) - (op2.length : Int) ∧ hi = ((f1.pos + k : Nat) : Int)) := ⟨hL, hlo, hhi⟩
          have hwn : ¬ op2.length < f1.need := HW.out
          have hkw : f1.op.length + k = f1.need := by have h1 := HKM.out; have h2 := hwn; have h3 := HL2.out; have h4 := HP.out; omega
          have hrun2 := frun_take_whole (most := most) (s := f1.fs) (xs := x :: ys) (k := k) HE.out.1 (Nat.pos_of_ne_zero HND.out) HP.out hkw (by rw [HN.out]; exact HKN.out)
          have hpl : pre.length < b.length := by
            have h1 := frun_few most b f.fs
            rw [HR.out, hrun2] at h1
            simp only [List.length_append, List.length_cons] at h1
            omega
          have HRUN2 := Aside0.mk hrun2
          have HKW := Aside0.mk hkw
          clear hwn hkw hrun2
          obtain ⟨fn, tmps, assign, body, hy, hR⟩ := HY.out _ _ pre _ _ HJ4.out HG4.out hpl
          clear hpl
          dsimp only [FV.cells] at hy
          rw [← hL2] at hy
          have HRR := Aside0.mk hR
          clear hR hfr4 hch4 hit3 hv2 hL hlo hhi hL2 kf2 g2 g3 kb1 fb1
          gi_wp2_with fail
          refine (round_wide HRR.out).mono ?_
          clear hy HRR
          rintro e W5 ⟨rfl, hJ5, hk5⟩
          have HJ6 := Aside0.mk hJ5
          have HK6 := Aside0.mk hk5
          clear hJ5 hk5
          gi_wp2
          have hkw := HKW.out
          have hrun2 := HRUN2.out
          obtain ⟨x1, x2, x3⟩ := HX.out
          have hfx : (⟨lo, hi, op2, 0, 0⟩ : FX) = ⟨(f1.fs.pos : Int) - f1.fs.op.length, (f1.fs.pos : Int) + k, f1.fs.op ++ List.take k (x :: ys), 0, 0⟩ := by
            show FX.mk _ _ _ _ _ = FX.mk ((f1.pos : Int) - f1.op.length) ((f1.pos : Int) + k) (f1.op ++ List.take k (x :: ys)) 0 0
            have h3 := HL2.out
            rw [HOP.out]
            congr 1 <;> omega
          refine ⟨⟨⟨g, f1.most, f1.pos + k, .slice none 0 0, [], 0, f1.ended⟩, A2, c2, rest, pre ++ [⟨lo, hi, op2, 0, 0⟩], ⟨HIT4.out.keep HK6.out (fun k hk hn => hn hk)⟩, ⟨HE.out.1, ?_⟩, ⟨HJ6.out⟩, ⟨?_⟩⟩, ?_⟩
          · show FSok most (FS.mk _ _ _ f1.ended)
            rw [HE.out.1]; exact FSok.new most h0 _
          · show frun most f.fs b = ((frun most (FS.mk _ _ _ f1.ended) rest).1, (pre ++ [_]) ++ (frun most (FS.mk _ _ _ f1.ended) rest).2)
            rw [HE.out.1, HR.out, hrun2, HRST.out, hfx, List.append_assoc]
            rfl
          · rw [HBL.out]
            have hit5 := HIT4.out.keep HK6.out (fun k hk hn => hn hk)
            have kb2 : W5.cell? ⟨bb, 0, none⟩ = some (.slice A2 rest.length c2) := (blk_cell hit5.kb 0).trans rfl
            unfold boxLen
            rw [kb2]
            show rest.length < N
            rw [HYL.out]
            exact HMN.out
end Go.Proofs.Ytmbfjaogimkncaa
