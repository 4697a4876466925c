/- Package metric: Normal; no condition. -/
import Derived.Test.YteamldgngknmfaaZJTagN
import Derived.Test.YteamldgngknmfaaZJDecEv
import Derived.Test.YteamldgngknmfaaZJDecRow
namespace Go.Proofs.Yteamldgngknmfaa
open Go.RowKit Go.Proofs.YteamldgngknmfaaW.PrintWords Go.Proofs.YteamldgngknmfaaW.PrintLast Go.Proofs.YteamldgngknmfaaW.PrintMore Go.Proofs.Yteamldgngknmfaa.PE
set_option linter.unusedVariables false
set_option linter.unusedSimpArgs false
def normV (d : S40) : S40 := match decNorm d.f0 d.f1.toNat d.f2 with
 | some (g, c, e) => ⟨g, (c : Int), e⟩
 | none => d
theorem normV_eq (d : S40) (c : Nat) (hc : d.f1 = (c : Int)) : ((decR d.f0 c d.f2).2.2.2 = 0 ∧ normV d = ⟨(decR d.f0 c d.f2).1, (decR d.f0 c d.f2).2.1, (decR d.f0 c d.f2).2.2.1⟩) ∨ ((decR d.f0 c d.f2).2.2.2 = 10 ∧ normV d = d) := by
 have e : d.f1.toNat = c := by rw [hc]; rfl
 unfold normV decR
 rw [e]
 cases decNorm d.f0 c d.f2 with
 | none => exact .inr ⟨rfl, rfl⟩
 | some p => obtain ⟨g, c2, e2⟩ := p; exact .inl ⟨rfl, rfl⟩
def metV (m : MetS) : MetS := ⟨m.f0, m.f1, m.f2.map normV, m.f3, m.f4, m.f5⟩
def metZ : MetS := ⟨⟨#[]⟩, 0, [], 0, [], 0⟩
def metNorm (m : MetS) : MetS × Int := if metBad (metV m) = 0 then (⟨m.f0, m.f1, m.f2.map normV, m.f3, tNorm m.f4, m.f5⟩, 0) else (metZ, metBad (metV m))
theorem normV_in (d : S40) (h : decIn d = true) : decIn (normV d) = true := by
 unfold decIn at *
 simp only [Bool.and_eq_true, decide_eq_true_eq] at *
 unfold normV
 cases hn : decNorm d.f0 d.f1.toNat d.f2 with
 | none => exact h
 | some p =>
  obtain ⟨g, c, e⟩ := p
  have hk := decNorm_ok d.f0 d.f1.toNat d.f2 (by omega) hn
  show (0 ≤ (c : Int) ∧ (c : Int) < 18446744073709551616) ∧ -9223372036854775808 ≤ e ∧ e ≤ 9223372036854775807
  have hb := hk.1
  unfold decBad at hb
  by_cases h1 : (c : Int) ≠ 0 ∧ (e < -18 ∨ 18 < e)
  ·rw [if_pos h1] at hb; cases hb
  ·rw [if_neg h1] at hb
   by_cases h2 : (c : Int) = 0
   ·rw [if_pos h2] at hb
    by_cases h3 : g = false ∧ e = 0
    ·have := hk.2; omega
    ·rw [if_neg h3] at hb; cases hb
   ·have := hk.2; omega
theorem metV_in (m : MetS) (h : metIn m = true) : metIn (metV m) = true := by
 unfold metIn at *
 simp only [Bool.and_eq_true, decide_eq_true_eq, List.all_eq_true] at *
 refine ⟨h.1, fun x hx => ?_, h.2.2⟩
 obtain ⟨d, hd, rfl⟩ := List.mem_map.mp hx
 exact normV_in d (h.2.1 d hd)
structure MnAt (m : MetS) (w : World) (A1 : Option Addr) (c1 i : Nat) (wr : World) : Prop where
 row : (k40).R 40 wr (w.heap.size + 2) (fun _ => True) (.slice A1 m.f2.length c1) ((m.f2.take i).map normV ++ m.f2.drop i)
 il : i ≤ m.f2.length
 bel : Below w.heap.size w wr
theorem MnAt.len {m : MetS} {w : World} {A1 : Option Addr} {c1 i : Nat} {wr : World} (h : MnAt m w A1 c1 i wr) : ((m.f2.take i).map normV ++ m.f2.drop i).length = m.f2.length := by
 have := h.il
 rw [List.length_append, List.length_map, List.length_take, List.length_drop]
 omega
theorem MnAt.at_ {m : MetS} {w : World} {A1 : Option Addr} {c1 i : Nat} {wr : World} (h : MnAt m w A1 c1 i wr) (hi : i < m.f2.length) : ((m.f2.take i).map normV ++ m.f2.drop i)[i]? = some (m.f2[i]'hi) := by
 have hl : ((m.f2.take i).map normV).length = i := by rw [List.length_map, List.length_take]; omega
 rw [List.getElem?_append_right (by omega), hl, Nat.sub_self, List.getElem?_drop, Nat.add_zero, List.getElem?_eq_getElem hi]
theorem mn_next (l : List S40) (i : Nat) (hi : i < l.length) : ((l.take i).map normV ++ l.drop i).set i (normV (l[i]'hi)) = (l.take (i + 1)).map normV ++ l.drop (i + 1) := by
 have hl : ((l.take i).map normV).length = i := by rw [List.length_map, List.length_take]; omega
 rw [List.set_append_right _ _ (by omega), hl, Nat.sub_self, List.drop_eq_getElem_cons hi, List.set_cons_zero, List.take_succ_eq_append_getElem hi, List.map_append, List.append_assoc]
 rfl
theorem decnormD_calls (d : S40) (w : World) (h : decIn d = true) : ∃ (r1 : Bool) (r2 r3 r4 : Int), ((r4 = 0 ∧ normV d = ⟨r1, r2, r3⟩) ∨ (r4 = 10 ∧ normV d = d)) ∧
  ∀ w, Calls Try.prog 50 #[.agg #[.bool d.f0, .int .u64 d.f1, .int .i64 d.f2]] w fun x w' => x = .returned (.tuple #[.agg #[.bool r1, .int .u64 r2, .int .i64 r3], .int .i64 r4]) ∧ Below w.heap.size w w' := by
 unfold decIn at h
 simp only [Bool.and_eq_true, decide_eq_true_eq] at h
 obtain ⟨c, hc⟩ := Int.eq_ofNat_of_zero_le h.1.1
 refine ⟨_, _, _, _, normV_eq d c hc, fun w => ?_⟩
 have hk := decnorm_calls d.f0 c d.f2 w (by omega) h.2
 rw [← hc] at hk
 exact hk
set_option maxHeartbeats 8000000 in
set_option maxRecDepth 100000 in
theorem mnorm_calls (m : MetS) (Av : Option Addr) (cv : Nat) (At : Option Addr) (ct : Nat) (w : World) (hm : MetC m Av cv At ct w) (hi : metIn m = true) (hv : m.f2.length < 1000000) (ht : m.f4.length < 1000000) :
  Calls Try.prog 18 #[.agg #[.string m.f0, .int .i64 m.f1, .slice Av m.f2.length cv, .int .i64 m.f3, .slice At m.f4.length ct, .int .i64 m.f5]] w fun e w' => ∃ v2 v4 : Value, e = .returned (.tuple #[.agg #[.string (metNorm m).1.f0, .int .i64 (metNorm m).1.f1, v2, .int .i64 (metNorm m).1.f3, v4, .int .i64 (metNorm m).1.f5], .int .i64 (metNorm m).2]) ∧
   Kd.R k40 40 w' w.heap.size (fun _ => True) v2 (metNorm m).1.f2 ∧ Kd.V k37 37 w' w.heap.size (fun k_ => w.heap.size ≤ k_ ∧ some k_ ≠ v2.ownBlock) v4 (metNorm m).1.f4 ∧ Below w.heap.size w w' := by
 have HM := Aside0.mk hm
 have HI := Aside0.mk hi
 have HV := Aside0.mk hv
 have HT := Aside0.mk ht
 clear hm hi hv ht
 have HX := Aside0.mk (blk_alloc (blk_new w (.cells #[.string m.f0, .int .i64 m.f1, .slice Av m.f2.length cv, .int .i64 m.f3, .slice At m.f4.length ct, .int .i64 m.f5] 25 (0, 0))) (.cells #[.string ⟨#[]⟩, .int .i64 0, .slice none 0 0, .int .i64 0, .slice none 0 0, .int .i64 0] 25 (0, 0)))
 go_enter Try.func18, Try.ntmps18
 have hY : ((w.alloc (.cells #[.string m.f0, .int .i64 m.f1, .slice Av m.f2.length cv, .int .i64 m.f3, .slice At m.f4.length ct, .int .i64 m.f5] 25 (0, 0))).alloc (.cells #[.string ⟨#[]⟩, .int .i64 0, .slice none 0 0, .int .i64 0, .slice none 0 0, .int .i64 0] 25 (0, 0))).heap[w.heap.size + 1]? = some (.cells #[.string ⟨#[]⟩, .int .i64 0, .slice none 0 0, .int .i64 0, .slice none 0 0, .int .i64 0] 25 (0, 0)) := by
  have := blk_new (w.alloc (.cells #[.string m.f0, .int .i64 m.f1, .slice Av m.f2.length cv, .int .i64 m.f3, .slice At m.f4.length ct, .int .i64 m.f5] 25 (0, 0))) (.cells #[.string ⟨#[]⟩, .int .i64 0, .slice none 0 0, .int .i64 0, .slice none 0 0, .int .i64 0] 25 (0, 0))
  simpa using this
 have HY := Aside0.mk hY
 have HB0 := Aside0.mk (below_alloc (below_alloc (Below.refl w.heap.size w) (.cells #[.string m.f0, .int .i64 m.f1, .slice Av m.f2.length cv, .int .i64 m.f3, .slice At m.f4.length ct, .int .i64 m.f5] 25 (0, 0))) (.cells #[.string ⟨#[]⟩, .int .i64 0, .slice none 0 0, .int .i64 0, .slice none 0 0, .int .i64 0] 25 (0, 0)))
 clear hY
 go_wp2_with fail
 refine (slices_Clone_d.calls Av cv m.f2 m.f2 _ (HM.out.below HB0.out).v HM.out.vc (if_pos (by have := HV.out; omega))).mono ?_
 rintro e w1 ⟨v, rfl, hr, hb⟩
 obtain ⟨A1, c1, hv, hc1, _⟩ := Kd.R_reads hr
 have HX1 := Aside0.mk (blk_below HX.out hb)
 have HY1 := Aside0.mk (blk_below HY.out hb)
 have HB1 := Aside0.mk (below_step HB0.out hb)
 subst hv
 have hr' : (k40).R 40 w1 (w.heap.size + 2) (fun _ => True) (.slice A1 m.f2.length c1) m.f2 := by
  have := hr
  simpa only [World.size_alloc] using this
 have HMN : Aside0 (MnAt m w A1 c1 0 w1) := ⟨⟨by simpa using hr', Nat.zero_le _, HB1.out⟩⟩
 obtain ⟨N, hN⟩ : ∃ N, m.f2.length = N := ⟨_, rfl⟩
 have HN := Aside0.mk hN
 rw [hN]
 clear hN hr hr' hb hc1 HX HY HB0 HB1
 go_wp2
 go_loopw [15] (fun vi wr => ∃ (k : Int) (i : Nat), vi = .int .i64 k ∧ Aside0 (k = (i : Int)) ∧ Aside0 (MnAt m w A1 c1 i wr) ∧ Aside0 (wr.heap[w.heap.size]? = some (.cells #[.string m.f0, .int .i64 m.f1, .slice Av m.f2.length cv, .int .i64 m.f3, .slice At m.f4.length ct, .int .i64 m.f5] 25 (0, 0))) ∧ Aside0 (wr.heap[w.heap.size + 1]? = some (.cells #[.string ⟨#[]⟩, .int .i64 0, .slice none 0 0, .int .i64 0, .slice none 0 0, .int .i64 0] 25 (0, 0)))) (fun vi wr => tnLeft N vi)
 case atStart => exact ⟨0, 0, rfl, ⟨rfl⟩, HMN, HX1, HY1⟩
 case round =>
  clear HMN HX1 HY1
  obtain ⟨k, i, rfl, HK, HMN, HX, HY⟩ := hrel
  have hk := HK.out
  by_cases hlt : i < N
  ·have hd : decide (k < (N : Int)) = true := decide_eq_true (by omega)
   have p0 := eq_true (show 0 ≤ k by omega)
   have p1 := eq_true (show k < (N : Int) by omega)
   have hiL : i < m.f2.length := by rw [HN.out]; exact hlt
   obtain ⟨d, hdd⟩ : ∃ d, m.f2[i]'hiL = d := ⟨_, rfl⟩
   have hrow := HMN.out.row
   obtain ⟨g, cap, hv, hg1, hg2, _⟩ := Kd.R_form hrow (by rw [HMN.out.len]; omega)
   rw [HMN.out.len] at hv
   injection hv with hv1 hv2 hv3
   subst hv1 hv3
   have hrow2 := DRow.of_R (by rw [HMN.out.len]; exact hrow)
   have hat := HMN.out.at_ hiL
   rw [hdd] at hat
   obtain ⟨x0, x1, x2⟩ := hrow2.1.cell hat
   have hkn : k.toNat = i := by omega
   rw [← hkn] at x0 x1 x2
   have hdin : decIn d = true := by
    have := HI.out
    unfold metIn at this
    simp only [Bool.and_eq_true, List.all_eq_true] at this
    rw [← hdd]
    exact this.2.1 _ (List.getElem_mem _)
   obtain ⟨r1, r2, r3, r4, hnv, hcall⟩ := decnormD_calls d wr hdin
   have hnext := mn_next m.f2 i hiL
   rw [hdd] at hnext
   have HNX := Aside0.mk hnext
   have HNV := Aside0.mk hnv
   have HCALL := Aside0.mk hcall
   have HROW := Aside0.mk hrow2.1
   have HGE := Aside0.mk hg1
   have HAT := Aside0.mk hat
   have HKN := Aside0.mk hkn
   have HLT := Aside0.mk hlt
   have HKI : Aside0 (k + 1 = ((i + 1 : Nat) : Int)) := ⟨by omega⟩
   have HMS : Aside0 (N - (k + 1).toNat < N - k.toNat) := ⟨by omega⟩
   have hadd : wrap64 (k + 1) = k + 1 := IntWalk.wrap64_in _ (by have := HV.out; have := HN.out; omega)
   clear hnext hnv hcall hrow hrow2 hg1 hg2 hat hkn hlt hk hdd hdin hiL hv2
   go_wp2_with fail
   refine (HCALL.out _).mono ?_
   rintro e w2 ⟨rfl, hb⟩
   have hb2 : Below wr.heap.size wr (w2.alloc (.cells #[.bool r1, .int .u64 r2, .int .i64 r3] 40)) := below_alloc (below_step (below_alloc (Below.refl _ _) _) hb) _
   have HROW2 := Aside0.mk (HROW.out.step (hb2.block _ HROW.out.lt))
   obtain ⟨o0, o1, o2⟩ := HROW2.out.cell HAT.out
   rw [← HKN.out] at o0 o1 o2
   have f0 := HROW2.out.frozen (k.toNat * 3)
   have f1 := HROW2.out.frozen (k.toNat * 3 + 1)
   have f2 := HROW2.out.frozen (k.toNat * 3 + 2)
   have HB2 := Aside0.mk hb2
   clear hb hb2 HCALL x0 x1 x2
   by_cases hr4 : r4 = 0
   ·have hrb : (r4 == 0) = true := beq_iff_eq.mpr hr4
    have HR4 := Aside0.mk hr4
    clear hr4
    obtain ⟨W, hW⟩ : ∃ W, w2.alloc (.cells #[.bool r1, .int .u64 r2, .int .i64 r3] 40) = W := ⟨_, rfl⟩
    have hch : Chg (fun j => j = g) W (((W.setCell ⟨g, k.toNat * 3, none⟩ (.bool r1)).setCell ⟨g, k.toNat * 3 + 1, none⟩ (.int .u64 r2)).setCell ⟨g, k.toNat * 3 + 2, none⟩ (.int .i64 r3)) := ea_setCell (S := fun j => j = g) (ea_setCell (S := fun j => j = g) (ea_setCell (S := fun j => j = g) (Chg.refl _ _) (.inl rfl) _) (.inl rfl) _) (.inl rfl) _
    have hset := HROW2.out.set i (by rw [HMN.out.len, HN.out]; exact HLT.out) ⟨r1, r2, r3⟩
    have hnd : normV d = ⟨r1, r2, r3⟩ := by
     rcases HNV.out with h | h
     ·exact h.2
     ·have := HR4.out; omega
    rw [← hnd, HNX.out] at hset
    rw [hnd] at hset
    rw [hW] at hset
    have hbW : Below wr.heap.size wr W := by rw [← hW]; exact HB2.out
    have hR := hset.to_R (base := w.heap.size + 2) (ok := fun _ => True) HGE.out trivial
    have hsz1 : w.heap.size + 1 < wr.heap.size := blk_lt HY.out
    have HFIN : Aside0 (MnAt m w (some ⟨g, 0, none⟩) c1 (i + 1) (((W.setCell ⟨g, k.toNat * 3, none⟩ (.bool r1)).setCell ⟨g, k.toNat * 3 + 1, none⟩ (.int .u64 r2)).setCell ⟨g, k.toNat * 3 + 2, none⟩ (.int .i64 r3)) ∧
      (((W.setCell ⟨g, k.toNat * 3, none⟩ (.bool r1)).setCell ⟨g, k.toNat * 3 + 1, none⟩ (.int .u64 r2)).setCell ⟨g, k.toNat * 3 + 2, none⟩ (.int .i64 r3)).heap[w.heap.size]? = some (.cells #[.string m.f0, .int .i64 m.f1, .slice Av m.f2.length cv, .int .i64 m.f3, .slice At m.f4.length ct, .int .i64 m.f5] 25 (0, 0)) ∧
      (((W.setCell ⟨g, k.toNat * 3, none⟩ (.bool r1)).setCell ⟨g, k.toNat * 3 + 1, none⟩ (.int .u64 r2)).setCell ⟨g, k.toNat * 3 + 2, none⟩ (.int .i64 r3)).heap[w.heap.size + 1]? = some (.cells #[.string ⟨#[]⟩, .int .i64 0, .slice none 0 0, .int .i64 0, .slice none 0 0, .int .i64 0] 25 (0, 0))) := by
     refine ⟨⟨⟨?_, by rw [HN.out]; exact HLT.out, ?_⟩, ?_, ?_⟩⟩
     ·rw [HKN.out]
      have hl : ((m.f2.take (i + 1)).map normV ++ m.f2.drop (i + 1)).length = m.f2.length := by
       have := HLT.out
       have := HN.out
       rw [List.length_append, List.length_map, List.length_take, List.length_drop]
       omega
      rw [hl] at hR
      exact hR
     ·exact (HMN.out.bel.trans (hbW.mono HMN.out.bel.size)).trans (hch.to_below (fun j hj => by rw [hj]; have := HGE.out; omega) (by have := hbW.size; omega))
     ·refine (hch.block _ (by have := hbW.size; omega) (by have := HGE.out; omega)).trans ((hbW.block _ (by omega)).trans HX.out)
     ·refine (hch.block _ (by have := hbW.size; omega) (by have := HGE.out; omega)).trans ((hbW.block _ (by omega)).trans HY.out)
    rw [← hW] at HFIN
    clear hW hch hset hnd hbW hR hsz1
    go_wp2
    go_roundw
    case rel =>
     rw [hadd]
     exact ⟨k + 1, i + 1, rfl, HKI, ⟨HFIN.out.1⟩, ⟨HFIN.out.2.1⟩, ⟨HFIN.out.2.2⟩⟩
    case measure => rw [hadd]; exact HMS.out
   ·have hrb : (r4 == 0) = false := beq_eq_false_iff_ne.mpr hr4
    have HR4 := Aside0.mk hr4
    clear hr4
    have hnd : normV d = d := by
     rcases HNV.out with h | h
     ·have := HR4.out; omega
     ·exact h.2
    have hsame : (m.f2.take i).map normV ++ m.f2.drop i = (m.f2.take (i + 1)).map normV ++ m.f2.drop (i + 1) := by
     rw [← HNX.out, hnd]
     apply List.ext_getElem?
     intro j
     rw [List.getElem?_set]
     by_cases e : i = j
     ·subst e
      rw [if_pos rfl, if_pos (by rw [HMN.out.len, HN.out]; exact HLT.out), HAT.out]
     ·rw [if_neg e]
    have hsz1 : w.heap.size + 1 < wr.heap.size := blk_lt HY.out
    have HFIN : Aside0 (MnAt m w (some ⟨g, 0, none⟩) c1 (i + 1) (w2.alloc (.cells #[.bool r1, .int .u64 r2, .int .i64 r3] 40)) ∧
      (w2.alloc (.cells #[.bool r1, .int .u64 r2, .int .i64 r3] 40)).heap[w.heap.size]? = some (.cells #[.string m.f0, .int .i64 m.f1, .slice Av m.f2.length cv, .int .i64 m.f3, .slice At m.f4.length ct, .int .i64 m.f5] 25 (0, 0)) ∧
      (w2.alloc (.cells #[.bool r1, .int .u64 r2, .int .i64 r3] 40)).heap[w.heap.size + 1]? = some (.cells #[.string ⟨#[]⟩, .int .i64 0, .slice none 0 0, .int .i64 0, .slice none 0 0, .int .i64 0] 25 (0, 0))) := by
     refine ⟨⟨⟨?_, by rw [HN.out]; exact HLT.out, below_step HMN.out.bel HB2.out⟩, ?_, ?_⟩⟩
     ·rw [← hsame]
      exact Kd.R_below HMN.out.row HB2.out
     ·exact (HB2.out.block _ (by omega)).trans HX.out
     ·exact (HB2.out.block _ (by omega)).trans HY.out
    clear hnd hsame hsz1
    go_wp2
    go_roundw
    case rel =>
     rw [hadd]
     exact ⟨k + 1, i + 1, rfl, HKI, ⟨HFIN.out.1⟩, ⟨HFIN.out.2.1⟩, ⟨HFIN.out.2.2⟩⟩
    case measure => rw [hadd]; exact HMS.out
  ·have hd : decide (k < (N : Int)) = false := decide_eq_false (by omega)
   have hiN : i = m.f2.length := by have := HMN.out.il; have := HN.out; omega
   have hR : (k40).R 40 wr (w.heap.size + 2) (fun j => w.heap.size + 2 ≤ j) (.slice A1 m.f2.length c1) (m.f2.map normV) := by
    have h := HMN.out.row
    rw [hiN, List.take_length, List.drop_length, List.append_nil] at h
    exact Kd.R_mono (Kd.R_bound h) (fun j hj => hj.2.1)
   have HR := Aside0.mk hR
   have HBEL := Aside0.mk HMN.out.bel
   clear hlt hk hiN hR HK HMN
   have q0 : wr.cell? ⟨w.heap.size, 0, none⟩ = some (.string m.f0) := (blk_cell HX.out 0).trans rfl
   have q1 : wr.cell? ⟨w.heap.size, 1, none⟩ = some (.int .i64 m.f1) := (blk_cell HX.out 1).trans rfl
   have q2 : wr.cell? ⟨w.heap.size, 2, none⟩ = some (.slice Av m.f2.length cv) := (blk_cell HX.out 2).trans rfl
   have q3 : wr.cell? ⟨w.heap.size, 3, none⟩ = some (.int .i64 m.f3) := (blk_cell HX.out 3).trans rfl
   have q4 : wr.cell? ⟨w.heap.size, 4, none⟩ = some (.slice At m.f4.length ct) := (blk_cell HX.out 4).trans rfl
   have q5 : wr.cell? ⟨w.heap.size, 5, none⟩ = some (.int .i64 m.f5) := (blk_cell HX.out 5).trans rfl
   have g2 := blk_frozen HX.out 2
   have hX2 : (wr.setCell ⟨w.heap.size, 2, none⟩ (.slice A1 N c1)).heap[w.heap.size]? = some (.cells #[.string m.f0, .int .i64 m.f1, .slice A1 N c1, .int .i64 m.f3, .slice At m.f4.length ct, .int .i64 m.f5] 25 (0, 0)) := (blk_put HX.out 2 _ rfl).trans rfl
   have hY2 : (wr.setCell ⟨w.heap.size, 2, none⟩ (.slice A1 N c1)).heap[w.heap.size + 1]? = some (.cells #[.string ⟨#[]⟩, .int .i64 0, .slice none 0 0, .int .i64 0, .slice none 0 0, .int .i64 0] 25 (0, 0)) := blk_far HY.out (by show w.heap.size + 1 ≠ w.heap.size; omega) _
   have hc1 : Chg (fun j => j = w.heap.size) wr (wr.setCell ⟨w.heap.size, 2, none⟩ (.slice A1 N c1)) := ea_setCell (S := fun j => j = w.heap.size) (Chg.refl _ _) (.inl rfl) _
   have hR2 : (k40).R 40 (wr.setCell ⟨w.heap.size, 2, none⟩ (.slice A1 N c1)) (w.heap.size + 2) (fun j => w.heap.size + 2 ≤ j) (.slice A1 m.f2.length c1) (m.f2.map normV) := Kd.R_step HR.out (fun j hj hl => hc1.block j hl (by omega))
   have hbel2 : Below w.heap.size w (wr.setCell ⟨w.heap.size, 2, none⟩ (.slice A1 N c1)) := HBEL.out.trans (hc1.to_below (fun j hj => by omega) HBEL.out.size)
   have hin2 := metV_in m HI.out
   obtain ⟨_, _, hcc, hcl, hcC⟩ := Kd.R_reads hR2
   have hmet : MetC (metV m) A1 c1 At ct (wr.setCell ⟨w.heap.size, 2, none⟩ (.slice A1 N c1)) := by
    refine PE.metC_of (m := metV m) ?_ ?_ (Kd.C_below HM.out.t hbel2) HM.out.tc hin2
    ·injection hcc with e1 e2 e3
     rw [← e1] at hcC
     exact hcC
    ·injection hcc with e1 e2 e3
     rw [← e3] at hcl
     exact hcl
   have hchk := mcheck_calls (metV m) A1 c1 At ct _ hmet
   rw [show (metV m).f2.length = N by rw [← HN.out]; exact List.length_map _] at hchk
   have HCHK := Aside0.mk hchk
   have HX2 := Aside0.mk hX2
   have HY2 := Aside0.mk hY2
   have HR2 := Aside0.mk hR2
   have HBEL2 := Aside0.mk hbel2
   clear hchk hX2 hY2 hR2 hbel2 hin2 hcc hcl hcC hmet hc1
   go_wp2_with fail
   refine HCHK.out.mono ?_
   rintro e w3 ⟨rfl, hb⟩
   have HX3 := Aside0.mk (blk_below HX2.out hb)
   have HY3 := Aside0.mk (blk_below HY2.out hb)
   have HR3 := Aside0.mk (Kd.R_below HR2.out hb)
   have HBEL3 := Aside0.mk (below_step HBEL2.out hb)
   obtain ⟨mb, hmb⟩ : ∃ b, metBad (metV m) = b := ⟨_, rfl⟩
   rw [hmb]
   have HMB := Aside0.mk hmb
   clear hb hmb HCHK HX HY HR HBEL HX2 HY2 HR2 HBEL2 q0 q1 q2 q3 q4 q5 g2
   have y0 : w3.cell? ⟨w.heap.size + 1, 0, none⟩ = some (.string ⟨#[]⟩) := (blk_cell HY3.out 0).trans rfl
   have y1 : w3.cell? ⟨w.heap.size + 1, 1, none⟩ = some (.int .i64 0) := (blk_cell HY3.out 1).trans rfl
   have y2 : w3.cell? ⟨w.heap.size + 1, 2, none⟩ = some (.slice none 0 0) := (blk_cell HY3.out 2).trans rfl
   have y3 : w3.cell? ⟨w.heap.size + 1, 3, none⟩ = some (.int .i64 0) := (blk_cell HY3.out 3).trans rfl
   have y4 : w3.cell? ⟨w.heap.size + 1, 4, none⟩ = some (.slice none 0 0) := (blk_cell HY3.out 4).trans rfl
   have y5 : w3.cell? ⟨w.heap.size + 1, 5, none⟩ = some (.int .i64 0) := (blk_cell HY3.out 5).trans rfl
   have z0 := blk_frozen HY3.out 0
   have z1 := blk_frozen HY3.out 1
   have z2 := blk_frozen HY3.out 2
   have z3 := blk_frozen HY3.out 3
   have z4 := blk_frozen HY3.out 4
   have z5 := blk_frozen HY3.out 5
   by_cases hz : mb = 0
   ·have hzb : (mb != 0) = false := bne_eq_false_iff_eq.mpr hz
    have HZ := Aside0.mk hz
    clear hz
    have q0 : w3.cell? ⟨w.heap.size, 0, none⟩ = some (.string m.f0) := (blk_cell HX3.out 0).trans rfl
    have q1 : w3.cell? ⟨w.heap.size, 1, none⟩ = some (.int .i64 m.f1) := (blk_cell HX3.out 1).trans rfl
    have q2 : w3.cell? ⟨w.heap.size, 2, none⟩ = some (.slice A1 N c1) := (blk_cell HX3.out 2).trans rfl
    have q3 : w3.cell? ⟨w.heap.size, 3, none⟩ = some (.int .i64 m.f3) := (blk_cell HX3.out 3).trans rfl
    have q4 : w3.cell? ⟨w.heap.size, 4, none⟩ = some (.slice At m.f4.length ct) := (blk_cell HX3.out 4).trans rfl
    have q5 : w3.cell? ⟨w.heap.size, 5, none⟩ = some (.int .i64 m.f5) := (blk_cell HX3.out 5).trans rfl
    have HTAG := Aside0.mk (tagnorm_calls m.f4 At ct w3 (HM.out.below HBEL3.out).t HM.out.tc (by have := HT.out; omega))
    go_wp2_with fail
    refine HTAG.out.mono ?_
    rintro e w4 ⟨v4, rfl, hV, hb⟩
    have HX4 := Aside0.mk (blk_below HX3.out hb)
    have HY4 := Aside0.mk (blk_below HY3.out hb)
    have HR4 := Aside0.mk (Kd.R_below HR3.out hb)
    have HBEL4 := Aside0.mk (below_step HBEL3.out hb)
    have HSZ : Aside0 (∀ k, (Value.slice A1 m.f2.length c1).ownBlock = some k → k < w3.heap.size) := ⟨Kd.R_lt HR3.out⟩
    have HSZ3 : Aside0 (w.heap.size + 2 ≤ w3.heap.size) := ⟨by have := blk_lt HY3.out; omega⟩
    obtain ⟨A4, c4, hv4, hl4, hF4⟩ := hV
    subst hv4
    have HF4 := Aside0.mk hF4
    have HL4 := Aside0.mk hl4
    have HS4 := Aside0.mk hb.size
    clear hF4 hl4 hb HTAG HX3 HY3 HR3 HBEL3 q0 q1 q2 q3 q4 q5 y0 y1 y2 y3 y4 y5 z0 z1 z2 z3 z4 z5
    obtain ⟨N4, hN4⟩ : ∃ n, (tNorm m.f4).length = n := ⟨_, rfl⟩
    rw [hN4]
    have HN4 := Aside0.mk hN4
    clear hN4
    have q0 : w4.cell? ⟨w.heap.size, 0, none⟩ = some (.string m.f0) := (blk_cell HX4.out 0).trans rfl
    have q1 : w4.cell? ⟨w.heap.size, 1, none⟩ = some (.int .i64 m.f1) := (blk_cell HX4.out 1).trans rfl
    have q2 : w4.cell? ⟨w.heap.size, 2, none⟩ = some (.slice A1 N c1) := (blk_cell HX4.out 2).trans rfl
    have q3 : w4.cell? ⟨w.heap.size, 3, none⟩ = some (.int .i64 m.f3) := (blk_cell HX4.out 3).trans rfl
    have q4 : w4.cell? ⟨w.heap.size, 4, none⟩ = some (.slice At m.f4.length ct) := (blk_cell HX4.out 4).trans rfl
    have q5 : w4.cell? ⟨w.heap.size, 5, none⟩ = some (.int .i64 m.f5) := (blk_cell HX4.out 5).trans rfl
    have y0 : w4.cell? ⟨w.heap.size + 1, 0, none⟩ = some (.string ⟨#[]⟩) := (blk_cell HY4.out 0).trans rfl
    have y1 : w4.cell? ⟨w.heap.size + 1, 1, none⟩ = some (.int .i64 0) := (blk_cell HY4.out 1).trans rfl
    have y2 : w4.cell? ⟨w.heap.size + 1, 2, none⟩ = some (.slice none 0 0) := (blk_cell HY4.out 2).trans rfl
    have y3 : w4.cell? ⟨w.heap.size + 1, 3, none⟩ = some (.int .i64 0) := (blk_cell HY4.out 3).trans rfl
    have y4 : w4.cell? ⟨w.heap.size + 1, 4, none⟩ = some (.slice none 0 0) := (blk_cell HY4.out 4).trans rfl
    have y5 : w4.cell? ⟨w.heap.size + 1, 5, none⟩ = some (.int .i64 0) := (blk_cell HY4.out 5).trans rfl
    have z0 := blk_frozen HY4.out 0
    have z1 := blk_frozen HY4.out 1
    have z2 := blk_frozen HY4.out 2
    have z3 := blk_frozen HY4.out 3
    have z4 := blk_frozen HY4.out 4
    have z5 := blk_frozen HY4.out 5
    have g4 := blk_frozen HX4.out 4
    go_wp2
    have hy4 : (w4.setCell ⟨w.heap.size, 4, none⟩ (.slice A4 N4 c4)).heap[w.heap.size + 1]? = some (.cells #[.string ⟨#[]⟩, .int .i64 0, .slice none 0 0, .int .i64 0, .slice none 0 0, .int .i64 0] 25 (0, 0)) := blk_far HY4.out (by show w.heap.size + 1 ≠ w.heap.size; omega) _
    have hfin : (((((((w4.setCell ⟨w.heap.size, 4, none⟩ (.slice A4 N4 c4)).setCell ⟨w.heap.size + 1, 0, none⟩ (.string m.f0)).setCell ⟨w.heap.size + 1, 1, none⟩ (.int .i64 m.f1)).setCell ⟨w.heap.size + 1, 2, none⟩ (.slice A1 N c1)).setCell ⟨w.heap.size + 1, 3, none⟩ (.int .i64 m.f3)).setCell ⟨w.heap.size + 1, 4, none⟩ (.slice A4 N4 c4)).setCell ⟨w.heap.size + 1, 5, none⟩ (.int .i64 m.f5)).heap[w.heap.size + 1]? = some (.cells #[.string m.f0, .int .i64 m.f1, .slice A1 N c1, .int .i64 m.f3, .slice A4 N4 c4, .int .i64 m.f5] 25 (0, 0)) := (blk_put (cs := #[.string m.f0, .int .i64 m.f1, .slice A1 N c1, .int .i64 m.f3, .slice A4 N4 c4, .int .i64 0]) (cs' := #[.string m.f0, .int .i64 m.f1, .slice A1 N c1, .int .i64 m.f3, .slice A4 N4 c4, .int .i64 m.f5]) (blk_put (cs := #[.string m.f0, .int .i64 m.f1, .slice A1 N c1, .int .i64 m.f3, .slice none 0 0, .int .i64 0]) (cs' := #[.string m.f0, .int .i64 m.f1, .slice A1 N c1, .int .i64 m.f3, .slice A4 N4 c4, .int .i64 0]) (blk_put (cs := #[.string m.f0, .int .i64 m.f1, .slice A1 N c1, .int .i64 0, .slice none 0 0, .int .i64 0]) (cs' := #[.string m.f0, .int .i64 m.f1, .slice A1 N c1, .int .i64 m.f3, .slice none 0 0, .int .i64 0]) (blk_put (cs := #[.string m.f0, .int .i64 m.f1, .slice none 0 0, .int .i64 0, .slice none 0 0, .int .i64 0]) (cs' := #[.string m.f0, .int .i64 m.f1, .slice A1 N c1, .int .i64 0, .slice none 0 0, .int .i64 0]) (blk_put (cs := #[.string m.f0, .int .i64 0, .slice none 0 0, .int .i64 0, .slice none 0 0, .int .i64 0]) (cs' := #[.string m.f0, .int .i64 m.f1, .slice none 0 0, .int .i64 0, .slice none 0 0, .int .i64 0]) (blk_put (cs := #[.string ⟨#[]⟩, .int .i64 0, .slice none 0 0, .int .i64 0, .slice none 0 0, .int .i64 0]) (cs' := #[.string m.f0, .int .i64 0, .slice none 0 0, .int .i64 0, .slice none 0 0, .int .i64 0]) hy4 0 _ rfl) 1 _ rfl) 2 _ rfl) 3 _ rfl) 4 _ rfl) 5 _ rfl)
    have hch : Chg (fun j => j = w.heap.size ∨ j = w.heap.size + 1) w4 (((((((w4.setCell ⟨w.heap.size, 4, none⟩ (.slice A4 N4 c4)).setCell ⟨w.heap.size + 1, 0, none⟩ (.string m.f0)).setCell ⟨w.heap.size + 1, 1, none⟩ (.int .i64 m.f1)).setCell ⟨w.heap.size + 1, 2, none⟩ (.slice A1 N c1)).setCell ⟨w.heap.size + 1, 3, none⟩ (.int .i64 m.f3)).setCell ⟨w.heap.size + 1, 4, none⟩ (.slice A4 N4 c4)).setCell ⟨w.heap.size + 1, 5, none⟩ (.int .i64 m.f5)) := (ea_setCell (S := fun j => j = w.heap.size ∨ j = w.heap.size + 1) (ea_setCell (S := fun j => j = w.heap.size ∨ j = w.heap.size + 1) (ea_setCell (S := fun j => j = w.heap.size ∨ j = w.heap.size + 1) (ea_setCell (S := fun j => j = w.heap.size ∨ j = w.heap.size + 1) (ea_setCell (S := fun j => j = w.heap.size ∨ j = w.heap.size + 1) (ea_setCell (S := fun j => j = w.heap.size ∨ j = w.heap.size + 1) (ea_setCell (S := fun j => j = w.heap.size ∨ j = w.heap.size + 1) (Chg.refl _ _) (.inl (.inl rfl)) _) (.inl (.inr rfl)) _) (.inl (.inr rfl)) _) (.inl (.inr rfl)) _) (.inl (.inr rfl)) _) (.inl (.inr rfl)) _) (.inl (.inr rfl)) _)
    refine bodyPost_ret (results_ct rfl _ _ (w.heap.size + 1) 25 #[.string m.f0, .int .i64 m.f1, .slice A1 N c1, .int .i64 m.f3, .slice A4 N4 c4, .int .i64 m.f5] (0, 0) _ rfl hfin Try.underlying25 rfl (by kernel_rfl)) rfl ?_
    have hmn : metNorm m = (⟨m.f0, m.f1, m.f2.map normV, m.f3, tNorm m.f4, m.f5⟩, 0) := if_pos (HMB.out.trans HZ.out)
    rw [hmn]
    have hsz : w.heap.size + 2 ≤ w4.heap.size := by have := blk_lt HY4.out; omega
    refine ⟨.slice A1 N c1, .slice A4 N4 c4, rfl, ?_, ?_, HBEL4.out.trans (hch.to_below (fun j hj => by omega) HBEL4.out.size)⟩
    ·have h := Kd.R_step HR4.out (fun j hj hl => hch.block j hl (by omega))
     rw [HN.out] at h
     exact Kd.R_mono (Kd.R_lower h (by omega)) (fun _ _ => trivial)
    ·refine ⟨A4, c4, by rw [HN4.out], by rw [HN4.out]; have := HL4.out; rw [HN4.out] at this; exact this, ?_⟩
     have hsz3 : w.heap.size + 2 ≤ w3.heap.size := HSZ3.out
     refine Kd.F_mono (Kd.F_step HF4.out (fun j hj hl => hch.block j hl (by omega))) (fun j hj => ⟨by omega, fun e => ?_⟩)
     have := HSZ.out j (by rw [HN.out]; exact e.symm)
     omega
   ·have hzb : (mb != 0) = true := bne_iff_ne.mpr hz
    have HZ := Aside0.mk hz
    clear hz
    go_wp2
    have hfin : ((((((w3.setCell ⟨w.heap.size + 1, 0, none⟩ (.string ⟨#[]⟩)).setCell ⟨w.heap.size + 1, 1, none⟩ (.int .i64 0)).setCell ⟨w.heap.size + 1, 2, none⟩ (.slice none 0 0)).setCell ⟨w.heap.size + 1, 3, none⟩ (.int .i64 0)).setCell ⟨w.heap.size + 1, 4, none⟩ (.slice none 0 0)).setCell ⟨w.heap.size + 1, 5, none⟩ (.int .i64 0)).heap[w.heap.size + 1]? = some (.cells #[.string ⟨#[]⟩, .int .i64 0, .slice none 0 0, .int .i64 0, .slice none 0 0, .int .i64 0] 25 (0, 0)) := (blk_put (cs := #[.string ⟨#[]⟩, .int .i64 0, .slice none 0 0, .int .i64 0, .slice none 0 0, .int .i64 0]) (cs' := #[.string ⟨#[]⟩, .int .i64 0, .slice none 0 0, .int .i64 0, .slice none 0 0, .int .i64 0]) (blk_put (cs := #[.string ⟨#[]⟩, .int .i64 0, .slice none 0 0, .int .i64 0, .slice none 0 0, .int .i64 0]) (cs' := #[.string ⟨#[]⟩, .int .i64 0, .slice none 0 0, .int .i64 0, .slice none 0 0, .int .i64 0]) (blk_put (cs := #[.string ⟨#[]⟩, .int .i64 0, .slice none 0 0, .int .i64 0, .slice none 0 0, .int .i64 0]) (cs' := #[.string ⟨#[]⟩, .int .i64 0, .slice none 0 0, .int .i64 0, .slice none 0 0, .int .i64 0]) (blk_put (cs := #[.string ⟨#[]⟩, .int .i64 0, .slice none 0 0, .int .i64 0, .slice none 0 0, .int .i64 0]) (cs' := #[.string ⟨#[]⟩, .int .i64 0, .slice none 0 0, .int .i64 0, .slice none 0 0, .int .i64 0]) (blk_put (cs := #[.string ⟨#[]⟩, .int .i64 0, .slice none 0 0, .int .i64 0, .slice none 0 0, .int .i64 0]) (cs' := #[.string ⟨#[]⟩, .int .i64 0, .slice none 0 0, .int .i64 0, .slice none 0 0, .int .i64 0]) (blk_put (cs := #[.string ⟨#[]⟩, .int .i64 0, .slice none 0 0, .int .i64 0, .slice none 0 0, .int .i64 0]) (cs' := #[.string ⟨#[]⟩, .int .i64 0, .slice none 0 0, .int .i64 0, .slice none 0 0, .int .i64 0]) HY3.out 0 _ rfl) 1 _ rfl) 2 _ rfl) 3 _ rfl) 4 _ rfl) 5 _ rfl)
    have hch : Chg (fun j => j = w.heap.size ∨ j = w.heap.size + 1) w3 ((((((w3.setCell ⟨w.heap.size + 1, 0, none⟩ (.string ⟨#[]⟩)).setCell ⟨w.heap.size + 1, 1, none⟩ (.int .i64 0)).setCell ⟨w.heap.size + 1, 2, none⟩ (.slice none 0 0)).setCell ⟨w.heap.size + 1, 3, none⟩ (.int .i64 0)).setCell ⟨w.heap.size + 1, 4, none⟩ (.slice none 0 0)).setCell ⟨w.heap.size + 1, 5, none⟩ (.int .i64 0)) := (ea_setCell (S := fun j => j = w.heap.size ∨ j = w.heap.size + 1) (ea_setCell (S := fun j => j = w.heap.size ∨ j = w.heap.size + 1) (ea_setCell (S := fun j => j = w.heap.size ∨ j = w.heap.size + 1) (ea_setCell (S := fun j => j = w.heap.size ∨ j = w.heap.size + 1) (ea_setCell (S := fun j => j = w.heap.size ∨ j = w.heap.size + 1) (ea_setCell (S := fun j => j = w.heap.size ∨ j = w.heap.size + 1) (Chg.refl _ _) (.inl (.inr rfl)) _) (.inl (.inr rfl)) _) (.inl (.inr rfl)) _) (.inl (.inr rfl)) _) (.inl (.inr rfl)) _) (.inl (.inr rfl)) _)
    refine bodyPost_ret (results_ct rfl _ _ (w.heap.size + 1) 25 #[.string ⟨#[]⟩, .int .i64 0, .slice none 0 0, .int .i64 0, .slice none 0 0, .int .i64 0] (0, 0) _ rfl hfin Try.underlying25 rfl (by kernel_rfl)) rfl ?_
    have hmn : metNorm m = (metZ, mb) := by
     unfold metNorm
     rw [HMB.out, if_neg HZ.out]
    rw [hmn]
    exact ⟨.slice none 0 0, .slice none 0 0, rfl, Kd.R_nil _ _ _ _ _, Kd.V_nil _ _ _ _ _, HBEL3.out.trans (hch.to_below (fun j hj => by omega) HBEL3.out.size)⟩
end Go.Proofs.Yteamldgngknmfaa
namespace Go.Proofs.Yteamldgngknmfaa.PE
open Go.RowKit Go.Proofs.YteamldgngknmfaaW.PrintWords Go.Proofs.YteamldgngknmfaaW.PrintLast Go.Proofs.YteamldgngknmfaaW.PrintMore
set_option linter.unusedVariables false
set_option linter.unusedSimpArgs false
def metric_Normal.f (a0_0 : ByteArray) (a0_1 : Int) (l0_2 : List S40) (a0_3 : Int) (l0_4 : List S37) (a0_5 : Int) : Option (ByteArray × Int × List S40 × Int × List S37 × Int × Int) :=
 if metIn (⟨a0_0, a0_1, l0_2, a0_3, l0_4, a0_5⟩ : S25) = true ∧ l0_2.length < 1000000 ∧ l0_4.length < 1000000 then some ((metNorm (⟨a0_0, a0_1, l0_2, a0_3, l0_4, a0_5⟩ : S25)).1.f0, (metNorm (⟨a0_0, a0_1, l0_2, a0_3, l0_4, a0_5⟩ : S25)).1.f1, (metNorm (⟨a0_0, a0_1, l0_2, a0_3, l0_4, a0_5⟩ : S25)).1.f2, (metNorm (⟨a0_0, a0_1, l0_2, a0_3, l0_4, a0_5⟩ : S25)).1.f3, (metNorm (⟨a0_0, a0_1, l0_2, a0_3, l0_4, a0_5⟩ : S25)).1.f4, (metNorm (⟨a0_0, a0_1, l0_2, a0_3, l0_4, a0_5⟩ : S25)).1.f5, (metNorm (⟨a0_0, a0_1, l0_2, a0_3, l0_4, a0_5⟩ : S25)).2) else none
theorem metric_Normal.calls (a0_0 : ByteArray) (a0_1 : Int) (A0_2 : Option Addr) (c0_2 : Nat) (l0_2 : List S40) (a0_3 : Int) (A0_4 : Option Addr) (c0_4 : Nat) (l0_4 : List S37) (a0_5 : Int) (r1 : ByteArray) (r2 : Int) (r3 : List S40) (r4 : Int) (r5 : List S37) (r6 r7 : Int) (w : World) (hr0_2 : Kd.C k40 w A0_2 l0_2.length l0_2) (hc0_2 : l0_2.length ≤ c0_2) (hr0_4 : Kd.C k37 w A0_4 l0_4.length l0_4) (hc0_4 : l0_4.length ≤ c0_4) (h : metric_Normal.f a0_0 a0_1 l0_2 a0_3 l0_4 a0_5 = some (r1, r2, r3, r4, r5, r6, r7)) :
  Calls Try.prog 18 #[.agg #[.string a0_0, .int .i64 a0_1, .slice A0_2 l0_2.length c0_2, .int .i64 a0_3, .slice A0_4 l0_4.length c0_4, .int .i64 a0_5]] w fun e w' => ∃ v2_ v4_ : Value, e = .returned (.tuple #[.agg #[.string r1, .int .i64 r2, v2_, .int .i64 r4, v4_, .int .i64 r6], .int .i64 r7]) ∧ Kd.R k40 40 w' w.heap.size (fun _ => True) v2_ r3 ∧ Kd.V k37 37 w' w.heap.size (fun k_ => w.heap.size ≤ k_ ∧ some k_ ≠ v2_.ownBlock) v4_ r5 ∧ Below w.heap.size w w' := by
 unfold metric_Normal.f at h
 split at h
 ·rename_i hq
  have h2 := Option.some.inj h
  simp only [Prod.mk.injEq] at h2
  obtain ⟨rfl, rfl, rfl, rfl, rfl, rfl, rfl⟩ := h2
  exact mnorm_calls (⟨a0_0, a0_1, l0_2, a0_3, l0_4, a0_5⟩ : S25) A0_2 c0_2 A0_4 c0_4 w (metC_of hr0_2 hc0_2 hr0_4 hc0_4 hq.1) hq.1 hq.2.1 hq.2.2
 ·cases h
end Go.Proofs.Yteamldgngknmfaa.PE
