/- Package expr: Batch; the contracts of batch.Check and of expr.Batch in the printed form; no condition. -/
import Derived.Test.YtbdennijmfgdpaaVBatch
namespace Go.Proofs.Ytbdennijmfgdpaa
open Go.RowKit Go.Proofs.YtbdennijmfgdpaaW.PrintWords Go.Proofs.YtbdennijmfgdpaaW.PrintLast Go.Proofs.YtbdennijmfgdpaaW.PrintMore Go.Proofs.Ytbdennijmfgdpaa.PE
set_option linter.unusedVariables false
set_option linter.unusedSimpArgs false
def sayGo (f : Int) : List MetS → Int → Int × Int
  | [], _ => (0, 0)
  | m :: l, i => if sayB m f = true then sayGo f l (i + 1) else (i, 26)
def sayBatch (l : List MetS) (f : Int) : Int × Int := if f < 1 ∨ 4 < f then (0, 29) else if (batBad l).2 ≠ 0 then batBad l else sayGo f l 0
def anyB (m : MetS) : Bool := true
theorem sayGo_drop (f : Int) (ms : List MetS) (k : Nat) (m : MetS) (i : Int) (h : ms[k]? = some m) : sayGo f (ms.drop k) i = if sayB m f = true then sayGo f (ms.drop (k + 1)) (i + 1) else (i, 26) := by
  obtain ⟨hk, hm⟩ := List.getElem?_eq_some_iff.mp h
  rw [List.drop_eq_getElem_cons hk, hm]
  rfl
set_option maxHeartbeats 8000000 in
set_option maxRecDepth 100000 in
theorem ebatch1 (ms : List MetS) (A : Option Addr) (c : Nat) (w : World) (hC : kMet.C w A ms.length ms) (hin : ∀ m ∈ ms, PE.metIn m = true) :
    Calls Try.prog 21 #[.slice A ms.length c, .int .i64 1] w fun e w' => e = .returned (.tuple #[.int .i64 (sayBatch ms 1).1, .int .i64 (sayBatch ms 1).2]) ∧ Below w.heap.size w w' := by
  have hbm := blk_new w (.map (fEs 4) 4)
  have hl := fLookS (w.alloc (.map (fEs 4) 4)) w.heap.size 0 4 1 0 (.func (.func 94) #[] #[]) hbm rfl
  have HS : Aside0 (sayBatch ms 1 = if (batBad ms).2 ≠ 0 then batBad ms else sayGo 1 ms 0) := ⟨by unfold sayBatch; rw [if_neg (by decide)]⟩
  have HB : Aside0 (Below w.heap.size w (w.alloc (.map (fEs 4) 4))) := ⟨below_alloc (Below.refl _ _) _⟩
  have HK := Aside0.mk (fun W hW => batcheck_calls ms A c W (Kd.C_below hC hW) hin)
  have HC := Aside0.mk hC
  have HIN := Aside0.mk hin
  obtain ⟨N, hN⟩ : ∃ N, ms.length = N := ⟨_, rfl⟩
  have HN := Aside0.mk hN
  rw [hN] at HK ⊢
  clear hN hC hin hbm
  obtain ⟨bx, hx⟩ : ∃ b, (batBad ms).1 = b := ⟨_, rfl⟩
  obtain ⟨by', hy⟩ : ∃ b, (batBad ms).2 = b := ⟨_, rfl⟩
  rw [hx, hy] at HK
  rw [hy] at HS
  have HX := Aside0.mk hx
  have HY := Aside0.mk hy
  clear hx hy
  by_cases hz : by' = 0
  · have hzb : (by' != 0) = false := bne_eq_false_iff_eq.mpr hz
    have HS2 := Aside0.mk (HS.out.trans (if_neg (fun h => h hz)))
    clear hz HS
    go_enter Try.func21, Try.ntmps21
    go_wp2_with fail
    refine (formats_calls _).mono ?_
    rintro e w1 ⟨rfl, rfl⟩
    go_wp2_with fail
    refine (HK.out _ HB.out).mono ?_
    rintro e w1 ⟨rfl, hb⟩
    have HB2 := Aside0.mk (below_step HB.out hb)
    clear hb HB HK hl
    go_wp2
    go_loopw [31] (fun i wr => ∃ (k : Int), i = .int .i64 k ∧ Aside0 (0 ≤ k ∧ k ≤ (N : Int)) ∧ Aside0 (sayGo 1 ms 0 = sayGo 1 (ms.drop k.toNat) k) ∧ Aside0 (Below w.heap.size w wr)) (fun i wr => eaLeft N i)
    case atStart => exact ⟨0, rfl, ⟨⟨by omega, by omega⟩⟩, ⟨rfl⟩, HB2⟩
    case round =>
      clear HB2
      obtain ⟨k, rfl, HKK, HG, HB⟩ := hrel
      by_cases hlt : k < (N : Int)
      · have hd : decide (k < (N : Int)) = true := decide_eq_true hlt
        have hd0 : decide (0 ≤ k) = true := decide_eq_true HKK.out.1
        obtain ⟨ad, A2, c2, A4, c4, e0, x0, x1, x2, x3, x4, x5, l2, i2, l4, i4⟩ := at_T25 (Kd.C_below HC.out HB.out) k HKK.out.1 (by rw [HN.out]; exact hlt)
        cases e0
        obtain ⟨m, hm⟩ : ∃ m, rd_T25 ms k = m := ⟨_, rfl⟩
        have hget : ms[k.toNat]? = some m := by
          rw [← hm]
          unfold rd_T25
          rw [List.getD_eq_getElem?_getD, List.getElem?_eq_getElem (by rw [HN.out]; have := HKK.out.1; omega)]
          rfl
        have hmem : m ∈ ms := List.mem_of_getElem? hget
        rw [hm] at x0 x1 x2 x3 x4 x5 l2 i2 l4 i4
        clear hm
        have HST := Aside0.mk (sayGo_drop 1 ms k.toNat m k hget)
        have HMC := Aside0.mk (PE.metC_of i2 l2 i4 l4 (HIN.out m hmem))
        have hadd : wrap64 (k + 1) = k + 1 := by
          unfold wrap64
          have := HC.out.2.1
          have := HN.out
          have := HKK.out.1
          omega
        have HLT := Aside0.mk hlt
        have p0 := eq_true HKK.out.1
        have q0 := eq_true hlt
        clear i2 l2 i4 l4 hget hmem hlt
        go_wp2_with fail
        refine (stats_calls m A2 c2 A4 c4 _ (HMC.out.below (below_alloc (Below.refl _ _) _))).mono ?_
        rintro e w1 ⟨rfl, hb⟩
        have HB3 : Aside0 (Below w.heap.size w w1) := ⟨below_step (below_alloc HB.out _) hb⟩
        clear hb x0 x1 x2 x3 x4 x5
        have hsb : sayB m 1 = statsB m := rfl
        cases hs : statsB m with
        | true =>
          have HS4 := Aside0.mk (HST.out.trans (if_pos (hsb.trans hs)))
          clear hs hsb HST
          go_wp2
          go_roundw
          case rel => exact ⟨k + 1, by rw [hadd], ⟨⟨by have := HKK.out.1; omega, by have := HLT.out; omega⟩⟩, ⟨by rw [HG.out, HS4.out, show (k + 1).toNat = k.toNat + 1 from by have := HKK.out.1; omega]⟩, HB3⟩
          case measure => rw [hadd]; show N - (k + 1).toNat < N - k.toNat; have := HKK.out.1; have := HLT.out; omega
        | false =>
          first
          | exact absurd hs (by show ¬ (true = false); decide)
          | (have HS4 := Aside0.mk (HST.out.trans (if_neg (by rw [hsb, hs]; decide)))
             clear hs hsb HST
             go_wp2
             go_ret2
             exact ⟨by rw [HS2.out, HG.out, HS4.out] <;> rfl, HB3.out⟩)
      · have hd : decide (k < (N : Int)) = false := decide_eq_false hlt
        have hkn : k.toNat = ms.length := by rw [HN.out]; have := HKK.out.2; omega
        have HS4 : Aside0 (sayGo 1 ms 0 = (0, 0)) := ⟨by rw [HG.out, hkn, List.drop_length]; rfl⟩
        clear hlt hkn
        go_wp2
        go_ret2
        exact ⟨by rw [HS2.out, HS4.out] <;> rfl, HB.out⟩
  · have hzb : (by' != 0) = true := bne_iff_ne.mpr hz
    have HS2 := Aside0.mk (HS.out.trans (if_pos hz))
    clear hz HS
    go_enter Try.func21, Try.ntmps21
    go_wp2_with fail
    refine (formats_calls _).mono ?_
    rintro e w1 ⟨rfl, rfl⟩
    go_wp2_with fail
    refine (HK.out _ HB.out).mono ?_
    rintro e w1 ⟨rfl, hb⟩
    have HB2 := Aside0.mk (below_step HB.out hb)
    clear hb HB HK
    go_wp2
    go_ret2
    exact ⟨by rw [HS2.out, HX.out, HY.out] <;> rfl, HB2.out⟩
set_option maxHeartbeats 8000000 in
set_option maxRecDepth 100000 in
theorem ebatch2 (ms : List MetS) (A : Option Addr) (c : Nat) (w : World) (hC : kMet.C w A ms.length ms) (hin : ∀ m ∈ ms, PE.metIn m = true) :
    Calls Try.prog 21 #[.slice A ms.length c, .int .i64 2] w fun e w' => e = .returned (.tuple #[.int .i64 (sayBatch ms 2).1, .int .i64 (sayBatch ms 2).2]) ∧ Below w.heap.size w w' := by
  have hbm := blk_new w (.map (fEs 4) 4)
  have hl := fLookS (w.alloc (.map (fEs 4) 4)) w.heap.size 0 4 2 1 (.func (.func 95) #[] #[]) hbm rfl
  have HS : Aside0 (sayBatch ms 2 = if (batBad ms).2 ≠ 0 then batBad ms else sayGo 2 ms 0) := ⟨by unfold sayBatch; rw [if_neg (by decide)]⟩
  have HB : Aside0 (Below w.heap.size w (w.alloc (.map (fEs 4) 4))) := ⟨below_alloc (Below.refl _ _) _⟩
  have HK := Aside0.mk (fun W hW => batcheck_calls ms A c W (Kd.C_below hC hW) hin)
  have HC := Aside0.mk hC
  have HIN := Aside0.mk hin
  obtain ⟨N, hN⟩ : ∃ N, ms.length = N := ⟨_, rfl⟩
  have HN := Aside0.mk hN
  rw [hN] at HK ⊢
  clear hN hC hin hbm
  obtain ⟨bx, hx⟩ : ∃ b, (batBad ms).1 = b := ⟨_, rfl⟩
  obtain ⟨by', hy⟩ : ∃ b, (batBad ms).2 = b := ⟨_, rfl⟩
  rw [hx, hy] at HK
  rw [hy] at HS
  have HX := Aside0.mk hx
  have HY := Aside0.mk hy
  clear hx hy
  by_cases hz : by' = 0
  · have hzb : (by' != 0) = false := bne_eq_false_iff_eq.mpr hz
    have HS2 := Aside0.mk (HS.out.trans (if_neg (fun h => h hz)))
    clear hz HS
    go_enter Try.func21, Try.ntmps21
    go_wp2_with fail
    refine (formats_calls _).mono ?_
    rintro e w1 ⟨rfl, rfl⟩
    go_wp2_with fail
    refine (HK.out _ HB.out).mono ?_
    rintro e w1 ⟨rfl, hb⟩
    have HB2 := Aside0.mk (below_step HB.out hb)
    clear hb HB HK hl
    go_wp2
    go_loopw [31] (fun i wr => ∃ (k : Int), i = .int .i64 k ∧ Aside0 (0 ≤ k ∧ k ≤ (N : Int)) ∧ Aside0 (sayGo 2 ms 0 = sayGo 2 (ms.drop k.toNat) k) ∧ Aside0 (Below w.heap.size w wr)) (fun i wr => eaLeft N i)
    case atStart => exact ⟨0, rfl, ⟨⟨by omega, by omega⟩⟩, ⟨rfl⟩, HB2⟩
    case round =>
      clear HB2
      obtain ⟨k, rfl, HKK, HG, HB⟩ := hrel
      by_cases hlt : k < (N : Int)
      · have hd : decide (k < (N : Int)) = true := decide_eq_true hlt
        have hd0 : decide (0 ≤ k) = true := decide_eq_true HKK.out.1
        obtain ⟨ad, A2, c2, A4, c4, e0, x0, x1, x2, x3, x4, x5, l2, i2, l4, i4⟩ := at_T25 (Kd.C_below HC.out HB.out) k HKK.out.1 (by rw [HN.out]; exact hlt)
        cases e0
        obtain ⟨m, hm⟩ : ∃ m, rd_T25 ms k = m := ⟨_, rfl⟩
        have hget : ms[k.toNat]? = some m := by
          rw [← hm]
          unfold rd_T25
          rw [List.getD_eq_getElem?_getD, List.getElem?_eq_getElem (by rw [HN.out]; have := HKK.out.1; omega)]
          rfl
        have hmem : m ∈ ms := List.mem_of_getElem? hget
        rw [hm] at x0 x1 x2 x3 x4 x5 l2 i2 l4 i4
        clear hm
        have HST := Aside0.mk (sayGo_drop 2 ms k.toNat m k hget)
        have HMC := Aside0.mk (PE.metC_of i2 l2 i4 l4 (HIN.out m hmem))
        have hadd : wrap64 (k + 1) = k + 1 := by
          unfold wrap64
          have := HC.out.2.1
          have := HN.out
          have := HKK.out.1
          omega
        have HLT := Aside0.mk hlt
        have p0 := eq_true HKK.out.1
        have q0 := eq_true hlt
        clear i2 l2 i4 l4 hget hmem hlt
        go_wp2_with fail
        refine (anyf_calls m A2 c2 A4 c4 _).mono ?_
        rintro e w1 ⟨rfl, hb⟩
        have HB3 : Aside0 (Below w.heap.size w w1) := ⟨below_step (below_alloc HB.out _) hb⟩
        clear hb x0 x1 x2 x3 x4 x5
        have hsb : sayB m 2 = anyB m := rfl
        cases hs : anyB m with
        | true =>
          have HS4 := Aside0.mk (HST.out.trans (if_pos (hsb.trans hs)))
          clear hs hsb HST
          go_wp2
          go_roundw
          case rel => exact ⟨k + 1, by rw [hadd], ⟨⟨by have := HKK.out.1; omega, by have := HLT.out; omega⟩⟩, ⟨by rw [HG.out, HS4.out, show (k + 1).toNat = k.toNat + 1 from by have := HKK.out.1; omega]⟩, HB3⟩
          case measure => rw [hadd]; show N - (k + 1).toNat < N - k.toNat; have := HKK.out.1; have := HLT.out; omega
        | false =>
          first
          | exact absurd hs (by show ¬ (true = false); decide)
          | (have HS4 := Aside0.mk (HST.out.trans (if_neg (by rw [hsb, hs]; decide)))
             clear hs hsb HST
             go_wp2
             go_ret2
             exact ⟨by rw [HS2.out, HG.out, HS4.out] <;> rfl, HB3.out⟩)
      · have hd : decide (k < (N : Int)) = false := decide_eq_false hlt
        have hkn : k.toNat = ms.length := by rw [HN.out]; have := HKK.out.2; omega
        have HS4 : Aside0 (sayGo 2 ms 0 = (0, 0)) := ⟨by rw [HG.out, hkn, List.drop_length]; rfl⟩
        clear hlt hkn
        go_wp2
        go_ret2
        exact ⟨by rw [HS2.out, HS4.out] <;> rfl, HB.out⟩
  · have hzb : (by' != 0) = true := bne_iff_ne.mpr hz
    have HS2 := Aside0.mk (HS.out.trans (if_pos hz))
    clear hz HS
    go_enter Try.func21, Try.ntmps21
    go_wp2_with fail
    refine (formats_calls _).mono ?_
    rintro e w1 ⟨rfl, rfl⟩
    go_wp2_with fail
    refine (HK.out _ HB.out).mono ?_
    rintro e w1 ⟨rfl, hb⟩
    have HB2 := Aside0.mk (below_step HB.out hb)
    clear hb HB HK
    go_wp2
    go_ret2
    exact ⟨by rw [HS2.out, HX.out, HY.out] <;> rfl, HB2.out⟩
set_option maxHeartbeats 8000000 in
set_option maxRecDepth 100000 in
theorem ebatch3 (ms : List MetS) (A : Option Addr) (c : Nat) (w : World) (hC : kMet.C w A ms.length ms) (hin : ∀ m ∈ ms, PE.metIn m = true) :
    Calls Try.prog 21 #[.slice A ms.length c, .int .i64 3] w fun e w' => e = .returned (.tuple #[.int .i64 (sayBatch ms 3).1, .int .i64 (sayBatch ms 3).2]) ∧ Below w.heap.size w w' := by
  have hbm := blk_new w (.map (fEs 4) 4)
  have hl := fLookS (w.alloc (.map (fEs 4) 4)) w.heap.size 0 4 3 2 (.func (.func 96) #[] #[]) hbm rfl
  have HS : Aside0 (sayBatch ms 3 = if (batBad ms).2 ≠ 0 then batBad ms else sayGo 3 ms 0) := ⟨by unfold sayBatch; rw [if_neg (by decide)]⟩
  have HB : Aside0 (Below w.heap.size w (w.alloc (.map (fEs 4) 4))) := ⟨below_alloc (Below.refl _ _) _⟩
  have HK := Aside0.mk (fun W hW => batcheck_calls ms A c W (Kd.C_below hC hW) hin)
  have HC := Aside0.mk hC
  have HIN := Aside0.mk hin
  obtain ⟨N, hN⟩ : ∃ N, ms.length = N := ⟨_, rfl⟩
  have HN := Aside0.mk hN
  rw [hN] at HK ⊢
  clear hN hC hin hbm
  obtain ⟨bx, hx⟩ : ∃ b, (batBad ms).1 = b := ⟨_, rfl⟩
  obtain ⟨by', hy⟩ : ∃ b, (batBad ms).2 = b := ⟨_, rfl⟩
  rw [hx, hy] at HK
  rw [hy] at HS
  have HX := Aside0.mk hx
  have HY := Aside0.mk hy
  clear hx hy
  by_cases hz : by' = 0
  · have hzb : (by' != 0) = false := bne_eq_false_iff_eq.mpr hz
    have HS2 := Aside0.mk (HS.out.trans (if_neg (fun h => h hz)))
    clear hz HS
    go_enter Try.func21, Try.ntmps21
    go_wp2_with fail
    refine (formats_calls _).mono ?_
    rintro e w1 ⟨rfl, rfl⟩
    go_wp2_with fail
    refine (HK.out _ HB.out).mono ?_
    rintro e w1 ⟨rfl, hb⟩
    have HB2 := Aside0.mk (below_step HB.out hb)
    clear hb HB HK hl
    go_wp2
    go_loopw [31] (fun i wr => ∃ (k : Int), i = .int .i64 k ∧ Aside0 (0 ≤ k ∧ k ≤ (N : Int)) ∧ Aside0 (sayGo 3 ms 0 = sayGo 3 (ms.drop k.toNat) k) ∧ Aside0 (Below w.heap.size w wr)) (fun i wr => eaLeft N i)
    case atStart => exact ⟨0, rfl, ⟨⟨by omega, by omega⟩⟩, ⟨rfl⟩, HB2⟩
    case round =>
      clear HB2
      obtain ⟨k, rfl, HKK, HG, HB⟩ := hrel
      by_cases hlt : k < (N : Int)
      · have hd : decide (k < (N : Int)) = true := decide_eq_true hlt
        have hd0 : decide (0 ≤ k) = true := decide_eq_true HKK.out.1
        obtain ⟨ad, A2, c2, A4, c4, e0, x0, x1, x2, x3, x4, x5, l2, i2, l4, i4⟩ := at_T25 (Kd.C_below HC.out HB.out) k HKK.out.1 (by rw [HN.out]; exact hlt)
        cases e0
        obtain ⟨m, hm⟩ : ∃ m, rd_T25 ms k = m := ⟨_, rfl⟩
        have hget : ms[k.toNat]? = some m := by
          rw [← hm]
          unfold rd_T25
          rw [List.getD_eq_getElem?_getD, List.getElem?_eq_getElem (by rw [HN.out]; have := HKK.out.1; omega)]
          rfl
        have hmem : m ∈ ms := List.mem_of_getElem? hget
        rw [hm] at x0 x1 x2 x3 x4 x5 l2 i2 l4 i4
        clear hm
        have HST := Aside0.mk (sayGo_drop 3 ms k.toNat m k hget)
        have HMC := Aside0.mk (PE.metC_of i2 l2 i4 l4 (HIN.out m hmem))
        have hadd : wrap64 (k + 1) = k + 1 := by
          unfold wrap64
          have := HC.out.2.1
          have := HN.out
          have := HKK.out.1
          omega
        have HLT := Aside0.mk hlt
        have p0 := eq_true HKK.out.1
        have q0 := eq_true hlt
        clear i2 l2 i4 l4 hget hmem hlt
        go_wp2_with fail
        refine (graph_calls m A2 c2 A4 c4 _).mono ?_
        rintro e w1 ⟨rfl, hb⟩
        have HB3 : Aside0 (Below w.heap.size w w1) := ⟨below_step (below_alloc HB.out _) hb⟩
        clear hb x0 x1 x2 x3 x4 x5
        have hsb : sayB m 3 = graphB m := rfl
        cases hs : graphB m with
        | true =>
          have HS4 := Aside0.mk (HST.out.trans (if_pos (hsb.trans hs)))
          clear hs hsb HST
          go_wp2
          go_roundw
          case rel => exact ⟨k + 1, by rw [hadd], ⟨⟨by have := HKK.out.1; omega, by have := HLT.out; omega⟩⟩, ⟨by rw [HG.out, HS4.out, show (k + 1).toNat = k.toNat + 1 from by have := HKK.out.1; omega]⟩, HB3⟩
          case measure => rw [hadd]; show N - (k + 1).toNat < N - k.toNat; have := HKK.out.1; have := HLT.out; omega
        | false =>
          first
          | exact absurd hs (by show ¬ (true = false); decide)
          | (have HS4 := Aside0.mk (HST.out.trans (if_neg (by rw [hsb, hs]; decide)))
             clear hs hsb HST
             go_wp2
             go_ret2
             exact ⟨by rw [HS2.out, HG.out, HS4.out] <;> rfl, HB3.out⟩)
      · have hd : decide (k < (N : Int)) = false := decide_eq_false hlt
        have hkn : k.toNat = ms.length := by rw [HN.out]; have := HKK.out.2; omega
        have HS4 : Aside0 (sayGo 3 ms 0 = (0, 0)) := ⟨by rw [HG.out, hkn, List.drop_length]; rfl⟩
        clear hlt hkn
        go_wp2
        go_ret2
        exact ⟨by rw [HS2.out, HS4.out] <;> rfl, HB.out⟩
  · have hzb : (by' != 0) = true := bne_iff_ne.mpr hz
    have HS2 := Aside0.mk (HS.out.trans (if_pos hz))
    clear hz HS
    go_enter Try.func21, Try.ntmps21
    go_wp2_with fail
    refine (formats_calls _).mono ?_
    rintro e w1 ⟨rfl, rfl⟩
    go_wp2_with fail
    refine (HK.out _ HB.out).mono ?_
    rintro e w1 ⟨rfl, hb⟩
    have HB2 := Aside0.mk (below_step HB.out hb)
    clear hb HB HK
    go_wp2
    go_ret2
    exact ⟨by rw [HS2.out, HX.out, HY.out] <;> rfl, HB2.out⟩
set_option maxHeartbeats 8000000 in
set_option maxRecDepth 100000 in
theorem ebatch4 (ms : List MetS) (A : Option Addr) (c : Nat) (w : World) (hC : kMet.C w A ms.length ms) (hin : ∀ m ∈ ms, PE.metIn m = true) :
    Calls Try.prog 21 #[.slice A ms.length c, .int .i64 4] w fun e w' => e = .returned (.tuple #[.int .i64 (sayBatch ms 4).1, .int .i64 (sayBatch ms 4).2]) ∧ Below w.heap.size w w' := by
  have hbm := blk_new w (.map (fEs 4) 4)
  have hl := fLookS (w.alloc (.map (fEs 4) 4)) w.heap.size 0 4 4 3 (.func (.func 95) #[] #[]) hbm rfl
  have HS : Aside0 (sayBatch ms 4 = if (batBad ms).2 ≠ 0 then batBad ms else sayGo 4 ms 0) := ⟨by unfold sayBatch; rw [if_neg (by decide)]⟩
  have HB : Aside0 (Below w.heap.size w (w.alloc (.map (fEs 4) 4))) := ⟨below_alloc (Below.refl _ _) _⟩
  have HK := Aside0.mk (fun W hW => batcheck_calls ms A c W (Kd.C_below hC hW) hin)
  have HC := Aside0.mk hC
  have HIN := Aside0.mk hin
  obtain ⟨N, hN⟩ : ∃ N, ms.length = N := ⟨_, rfl⟩
  have HN := Aside0.mk hN
  rw [hN] at HK ⊢
  clear hN hC hin hbm
  obtain ⟨bx, hx⟩ : ∃ b, (batBad ms).1 = b := ⟨_, rfl⟩
  obtain ⟨by', hy⟩ : ∃ b, (batBad ms).2 = b := ⟨_, rfl⟩
  rw [hx, hy] at HK
  rw [hy] at HS
  have HX := Aside0.mk hx
  have HY := Aside0.mk hy
  clear hx hy
  by_cases hz : by' = 0
  · have hzb : (by' != 0) = false := bne_eq_false_iff_eq.mpr hz
    have HS2 := Aside0.mk (HS.out.trans (if_neg (fun h => h hz)))
    clear hz HS
    go_enter Try.func21, Try.ntmps21
    go_wp2_with fail
    refine (formats_calls _).mono ?_
    rintro e w1 ⟨rfl, rfl⟩
    go_wp2_with fail
    refine (HK.out _ HB.out).mono ?_
    rintro e w1 ⟨rfl, hb⟩
    have HB2 := Aside0.mk (below_step HB.out hb)
    clear hb HB HK hl
    go_wp2
    go_loopw [31] (fun i wr => ∃ (k : Int), i = .int .i64 k ∧ Aside0 (0 ≤ k ∧ k ≤ (N : Int)) ∧ Aside0 (sayGo 4 ms 0 = sayGo 4 (ms.drop k.toNat) k) ∧ Aside0 (Below w.heap.size w wr)) (fun i wr => eaLeft N i)
    case atStart => exact ⟨0, rfl, ⟨⟨by omega, by omega⟩⟩, ⟨rfl⟩, HB2⟩
    case round =>
      clear HB2
      obtain ⟨k, rfl, HKK, HG, HB⟩ := hrel
      by_cases hlt : k < (N : Int)
      · have hd : decide (k < (N : Int)) = true := decide_eq_true hlt
        have hd0 : decide (0 ≤ k) = true := decide_eq_true HKK.out.1
        obtain ⟨ad, A2, c2, A4, c4, e0, x0, x1, x2, x3, x4, x5, l2, i2, l4, i4⟩ := at_T25 (Kd.C_below HC.out HB.out) k HKK.out.1 (by rw [HN.out]; exact hlt)
        cases e0
        obtain ⟨m, hm⟩ : ∃ m, rd_T25 ms k = m := ⟨_, rfl⟩
        have hget : ms[k.toNat]? = some m := by
          rw [← hm]
          unfold rd_T25
          rw [List.getD_eq_getElem?_getD, List.getElem?_eq_getElem (by rw [HN.out]; have := HKK.out.1; omega)]
          rfl
        have hmem : m ∈ ms := List.mem_of_getElem? hget
        rw [hm] at x0 x1 x2 x3 x4 x5 l2 i2 l4 i4
        clear hm
        have HST := Aside0.mk (sayGo_drop 4 ms k.toNat m k hget)
        have HMC := Aside0.mk (PE.metC_of i2 l2 i4 l4 (HIN.out m hmem))
        have hadd : wrap64 (k + 1) = k + 1 := by
          unfold wrap64
          have := HC.out.2.1
          have := HN.out
          have := HKK.out.1
          omega
        have HLT := Aside0.mk hlt
        have p0 := eq_true HKK.out.1
        have q0 := eq_true hlt
        clear i2 l2 i4 l4 hget hmem hlt
        go_wp2_with fail
        refine (anyf_calls m A2 c2 A4 c4 _).mono ?_
        rintro e w1 ⟨rfl, hb⟩
        have HB3 : Aside0 (Below w.heap.size w w1) := ⟨below_step (below_alloc HB.out _) hb⟩
        clear hb x0 x1 x2 x3 x4 x5
        have hsb : sayB m 4 = anyB m := rfl
        cases hs : anyB m with
        | true =>
          have HS4 := Aside0.mk (HST.out.trans (if_pos (hsb.trans hs)))
          clear hs hsb HST
          go_wp2
          go_roundw
          case rel => exact ⟨k + 1, by rw [hadd], ⟨⟨by have := HKK.out.1; omega, by have := HLT.out; omega⟩⟩, ⟨by rw [HG.out, HS4.out, show (k + 1).toNat = k.toNat + 1 from by have := HKK.out.1; omega]⟩, HB3⟩
          case measure => rw [hadd]; show N - (k + 1).toNat < N - k.toNat; have := HKK.out.1; have := HLT.out; omega
        | false =>
          first
          | exact absurd hs (by show ¬ (true = false); decide)
          | (have HS4 := Aside0.mk (HST.out.trans (if_neg (by rw [hsb, hs]; decide)))
             clear hs hsb HST
             go_wp2
             go_ret2
             exact ⟨by rw [HS2.out, HG.out, HS4.out] <;> rfl, HB3.out⟩)
      · have hd : decide (k < (N : Int)) = false := decide_eq_false hlt
        have hkn : k.toNat = ms.length := by rw [HN.out]; have := HKK.out.2; omega
        have HS4 : Aside0 (sayGo 4 ms 0 = (0, 0)) := ⟨by rw [HG.out, hkn, List.drop_length]; rfl⟩
        clear hlt hkn
        go_wp2
        go_ret2
        exact ⟨by rw [HS2.out, HS4.out] <;> rfl, HB.out⟩
  · have hzb : (by' != 0) = true := bne_iff_ne.mpr hz
    have HS2 := Aside0.mk (HS.out.trans (if_pos hz))
    clear hz HS
    go_enter Try.func21, Try.ntmps21
    go_wp2_with fail
    refine (formats_calls _).mono ?_
    rintro e w1 ⟨rfl, rfl⟩
    go_wp2_with fail
    refine (HK.out _ HB.out).mono ?_
    rintro e w1 ⟨rfl, hb⟩
    have HB2 := Aside0.mk (below_step HB.out hb)
    clear hb HB HK
    go_wp2
    go_ret2
    exact ⟨by rw [HS2.out, HX.out, HY.out] <;> rfl, HB2.out⟩
set_option maxHeartbeats 4000000 in
set_option maxRecDepth 100000 in
theorem ebatch_calls (ms : List MetS) (A : Option Addr) (c : Nat) (f : Int) (w : World) (hC : kMet.C w A ms.length ms) (hin : ∀ m ∈ ms, PE.metIn m = true) :
    Calls Try.prog 21 #[.slice A ms.length c, .int .i64 f] w fun e w' => e = .returned (.tuple #[.int .i64 (sayBatch ms f).1, .int .i64 (sayBatch ms f).2]) ∧ Below w.heap.size w w' := by
  by_cases hf : f = 1 ∨ f = 2 ∨ f = 3 ∨ f = 4
  · rcases hf with rfl | rfl | rfl | rfl
    · exact ebatch1 ms A c w hC hin
    · exact ebatch2 ms A c w hC hin
    · exact ebatch3 ms A c w hC hin
    · exact ebatch4 ms A c w hC hin
  · have hbm := blk_new w (.map (fEs 4) 4)
    have HB : Aside0 (Below w.heap.size w (w.alloc (.map (fEs 4) 4))) := ⟨below_alloc (Below.refl _ _) _⟩
    have HS2 : Aside0 (sayBatch ms f = (0, 29)) := ⟨if_pos (by omega)⟩
    have hl := fLookN (w.alloc (.map (fEs 4) 4)) w.heap.size 0 4 f hbm (by
      have e : ∀ k : Int, k ∈ [(1 : Int), 2, 3, 4] → (f == k) = false := fun k hk => beq_eq_false_iff_ne.mpr (by simp at hk; omega)
      simp [fEs, Instr.findNow, Instr.sameNow, e 1 (by simp), e 2 (by simp), e 3 (by simp), e 4 (by simp)])
    clear hf hbm hC hin
    go_enter Try.func21, Try.ntmps21
    go_wp2_with fail
    refine (formats_calls _).mono ?_
    rintro e w1 ⟨rfl, rfl⟩
    go_wp2
    go_ret2
    exact ⟨by rw [HS2.out] <;> rfl, HB.out⟩
end Go.Proofs.Ytbdennijmfgdpaa
namespace Go.Proofs.Ytbdennijmfgdpaa.PE
open Go.RowKit Go.Proofs.YtbdennijmfgdpaaW.PrintWords Go.Proofs.YtbdennijmfgdpaaW.PrintLast Go.Proofs.YtbdennijmfgdpaaW.PrintMore
set_option linter.unusedVariables false
def expr_Batch.f (l0 : List S25) (a1 : Int) : Option (Int × Int) := if l0.all metIn = true then some (sayBatch l0 a1) else none
theorem expr_Batch.calls (A0 : Option Addr) (c0 : Nat) (l0 : List S25) (a1 : Int) (r1 : Int) (r2 : Int) (w : World) (hr0 : Kd.C k25 w A0 l0.length l0) (hc0 : l0.length ≤ c0) (h : expr_Batch.f l0 a1 = some (r1, r2)) :
    Calls Try.prog 21 #[.slice A0 l0.length c0, .int .i64 a1] w fun e w' => e = .returned (.tuple #[.int .i64 r1, .int .i64 r2]) ∧ Below w.heap.size w w' := by
  unfold expr_Batch.f at h
  split at h
  · rename_i hq
    have h2 := Option.some.inj h
    have e1 : (sayBatch l0 a1).1 = r1 := by rw [h2]
    have e2 : (sayBatch l0 a1).2 = r2 := by rw [h2]
    rw [← e1, ← e2]
    exact ebatch_calls l0 A0 c0 a1 w hr0 (fun m hm => List.all_eq_true.mp hq m hm)
  · cases h
end Go.Proofs.Ytbdennijmfgdpaa.PE
