/- DictFull: a dictionary has up to 65536 words: its walk; no condition. -/
import Derived.Test.YtmbfjaogimkncaaPutsW
import Derived.Test.YtmbfjaogimkncaaLawKit
import Derived.Test.YtmbfjaogimkncaaRows
import Derived.Lib.SmallJoins
namespace Go.Proofs.Ytmbfjaogimkncaa
open Go.RowKit Go.Proofs.YtmbfjaogimkncaaW.PrintWords Go.Proofs.YtmbfjaogimkncaaW.PrintLast Go.Proofs.YtmbfjaogimkncaaW.PrintMore
set_option linter.unusedVariables false
set_option linter.unusedSimpArgs false
/-- The i-th word of three bytes. -/
def wF (i : Nat) : ByteArray := strOfNums [((65 + i % 64 : Nat) : Int), ((65 + i / 64 % 64 : Nat) : Int), ((65 + i / 4096 : Nat) : Int)]
def wsF (n : Nat) : List ByteArray := (List.range n).map wF
theorem strOf_inj {a b : List Int} (ha : ∀ x ∈ a, 0 ≤ x ∧ x < 256) (hb : ∀ x ∈ b, 0 ≤ x ∧ x < 256) (h : strOfNums a = strOfNums b) : a = b := by
  have h1 := congrArg (fun s : ByteArray => s.data.toList) h
  rw [strOfNums_data, strOfNums_data] at h1
  have e : ∀ l : List Int, (∀ x ∈ l, 0 ≤ x ∧ x < 256) → (l.map fun n => UInt8.ofNat n.toNat).map (fun b => ((b.toNat : Nat) : Int)) = l := by
    intro l hl
    rw [List.map_map]
    conv => rhs; rw [← List.map_id l]
    refine List.map_congr_left (fun x hx => ?_)
    obtain ⟨h0, h1⟩ := hl x hx
    show ((UInt8.ofNat x.toNat).toNat : Int) = x
    rw [UInt8.toNat_ofNat']
    omega
  rw [← e a ha, ← e b hb, h1]
theorem wF_inj {i j : Nat} (hi : i < 69632) (hj : j < 69632) (h : wF i = wF j) : i = j := by
  have hb : ∀ n, n < 69632 → ∀ x ∈ [((65 + n % 64 : Nat) : Int), ((65 + n / 64 % 64 : Nat) : Int), ((65 + n / 4096 : Nat) : Int)], 0 ≤ x ∧ x < 256 := by
    intro n hn x hx
    simp only [List.mem_cons, List.not_mem_nil, or_false] at hx
    rcases hx with rfl | rfl | rfl <;> omega
  have h1 := strOf_inj (hb i hi) (hb j hj) h
  simp only [List.cons.injEq, and_true] at h1
  omega
theorem wF_not {i n : Nat} (hn : n ≤ i) (hi : i < 69632) : wF i ∉ wsF n := by
  intro h
  obtain ⟨j, hj, e⟩ := List.mem_map.1 h
  have hj2 := List.mem_range.1 hj
  have := wF_inj (by omega) hi e
  omega
theorem wsF_len (n : Nat) : (wsF n).length = n := by unfold wsF; simp
theorem wsF_succ (n : Nat) : wsF (n + 1) = wsF n ++ [wF n] := by unfold wsF; rw [List.range_succ, List.map_append]; rfl
theorem wF_size (i : Nat) : (wF i).size = 3 := strOfNums_size _
theorem find_zeroF {ws : List ByteArray} {s : ByteArray} (h : s ∉ ws) : findW ws s = 0 := by
  have := find_pos ws s
  apply Classical.byContradiction
  intro hn
  exact h (this.1 (by omega))
theorem dput_new {ws : List ByteArray} {s : ByteArray} (h : s ∉ ws) (hs : s.size ≤ 200) (hl : ws.length < 65536) : dput ws s = (vput 0 ++ vput s.size ++ bytesOf s, 0, ws ++ [s]) := by
  unfold dput
  rw [find_zeroF h, if_neg (by omega), if_neg (by omega)]
theorem dput_full {ws : List ByteArray} {s : ByteArray} (h : s ∉ ws) (hl : 65536 ≤ ws.length) : dput ws s = ([], 12, ws) := by
  unfold dput
  rw [find_zeroF h, if_neg (by omega), if_pos (.inr hl)]
/-- A word is put, the i-th one. -/
theorem dput_at (i : Nat) (hi : i < 65540) : ∃ xs : List Int, dput (wsF (min i 65536)) (wF i) = (xs, if i < 65536 then 0 else 12, wsF (min (i + 1) 65536)) ∧ (65536 ≤ i → xs = []) ∧ xs.length ≤ 300 := by
  by_cases h : i < 65536
  · refine ⟨vput 0 ++ vput (wF i).size ++ bytesOf (wF i), ?_, fun h2 => by omega, ?_⟩
    · rw [dput_new (wF_not (by omega) (by omega)) (by rw [wF_size]; omega) (by rw [wsF_len]; omega), if_pos h, show min i 65536 = i by omega, show min (i + 1) 65536 = i + 1 by omega, wsF_succ]
    · rw [List.length_append, List.length_append, bytesOf_length, wF_size, vput_lt (by decide), vput_lt (by decide)]
      decide
  · refine ⟨[], ?_, fun _ => rfl, by simp⟩
    rw [dput_full (wF_not (by omega) (by omega)) (by rw [wsF_len]; omega), if_neg h, show min i 65536 = 65536 by omega, show min (i + 1) 65536 = 65536 by omega]
theorem vread_a (A : Option Addr) (c : Nat) : Cu.vread ⟨A, c, [0, 1, 97], 0, 0, 0, false⟩ = (0, ⟨A, c, [0, 1, 97], 1, 0, 0, false⟩) := by rfl
theorem dget_full {ws : List ByteArray} (A : Option Addr) (c : Nat) (h : 65536 ≤ ws.length) : dget ws ⟨A, c, [0, 1, 97], 0, 0, 0, false⟩ 1 = (ByteArray.empty, ⟨A, c, [0, 1, 97], 1, 12, 0, false⟩, ws) := by
  unfold dget
  rw [vread_a, if_neg (fun h => by have h2 : true = false := h; cases h2), if_neg (by decide), if_neg (fun h => by have h2 : true = false := h; cases h2), if_pos rfl]
  unfold dfresh
  rw [if_pos h]
  rfl
theorem dget_new {ws : List ByteArray} (A : Option Addr) (c : Nat) (h : ws.length < 65536) (hn : (⟨#[97]⟩ : ByteArray) ∉ ws) : dget ws ⟨A, c, [0, 1, 97], 0, 0, 0, false⟩ 1 = (⟨#[97]⟩, ⟨A, c, [0, 1, 97], 3, 0, 0, false⟩, ws ++ [⟨#[97]⟩]) := by
  unfold dget
  rw [vread_a, if_neg (fun h => by have h2 : true = false := h; cases h2), if_neg (by decide), if_neg (fun h => by have h2 : true = false := h; cases h2), if_pos rfl]
  unfold dfresh
  have e1 : dfs3 ⟨A, c, [0, 1, 97], 1, 0, 0, false⟩ = ⟨A, c, [0, 1, 97], 3, 0, 0, false⟩ := by kernel_rfl
  have e2 : dfT ⟨A, c, [0, 1, 97], 1, 0, 0, false⟩ = ⟨#[97]⟩ := by kernel_rfl
  rw [e1, e2, if_neg (by omega), if_neg (fun h => by have h2 : true = false := h; cases h2), if_neg (by decide), find_zeroF hn, if_neg (by omega)]
theorem wF_conv (i : Nat) (W : World) : (convert 22 9 (.slice (some ⟨W.heap.size, 0, none⟩) 3 3)).run Try.prog (W.alloc (.cells #[.int .u8 (65 + (i : Int) % 64), .int .u8 (65 + (i : Int) / 64 % 64), .int .u8 (65 + (i : Int) / 4096)] 5)) = .ok (.string (wF i)) (W.alloc (.cells #[.int .u8 (65 + (i : Int) % 64), .int .u8 (65 + (i : Int) / 64 % 64), .int .u8 (65 + (i : Int) / 4096)] 5)) := by
  have h := Kd.C_string (P := Try.prog) (src := 22) (dst := 9) (c := 3) uB (by kernel_rfl) (by kernel_rfl) (lit_C (w := W) 5 [65 + (i : Int) % 64, 65 + (i : Int) / 64 % 64, 65 + (i : Int) / 4096] (by show 3 ≤ 9223372036854775807; omega))
  have e : wF i = strOfNums [65 + (i : Int) % 64, 65 + (i : Int) / 64 % 64, 65 + (i : Int) / 4096] := by
    unfold wF
    rw [show ((65 + i % 64 : Nat) : Int) = 65 + (i : Int) % 64 by omega, show ((65 + i / 64 % 64 : Nat) : Int) = 65 + (i : Int) / 64 % 64 by omega, show ((65 + i / 4096 : Nat) : Int) = 65 + (i : Int) / 4096 by omega]
  rw [e]
  exact h
theorem find_first (n : Nat) (h : 0 < n) : findW (wsF n) (wF 0) = 1 := by
  obtain ⟨k, rfl⟩ : ∃ k, n = k + 1 := ⟨n - 1, by omega⟩
  unfold findW wsF
  rw [List.range_succ_eq_map, List.map_cons]
  unfold findFrom
  rw [if_pos rfl]
theorem bang_not (s : ByteArray) (n : Nat) (hn : n ≤ 65536) : s ++ (⟨#[33]⟩ : ByteArray) ∉ wsF n := by
  intro h
  obtain ⟨j, hj, e⟩ := List.mem_map.1 h
  have hj2 := List.mem_range.1 hj
  have h1 := congrArg (fun s : ByteArray => s.data.toList) e
  have h2 : (s ++ (⟨#[33]⟩ : ByteArray)).data.toList = s.data.toList ++ [33] := by rw [Go.Joins.data_append]
  have h3 : (wF j).data.toList = s.data.toList ++ [33] := h1.trans h2
  unfold wF at h3
  rw [strOfNums_data] at h3
  have h4 := congrArg List.getLast? h3
  rw [List.getLast?_concat] at h4
  have h5 : some (UInt8.ofNat (65 + j / 4096)) = some 33 := h4
  injection h5 with h5
  have h6 := congrArg UInt8.toNat h5
  rw [UInt8.toNat_ofNat'] at h6
  have h7 : (65 + j / 4096) % 2 ^ 8 = 33 := h6
  omega
theorem diclen2 (d : Dic) (w : World) (h : DicAt d w) {n : Nat} (hn : d.ws.length = n) : Calls Try.prog 31 #[.pointer (some ⟨d.g, 0, none⟩)] w fun e w' => e = .returned (.int .i64 n) ∧ w = w' := by
  subst hn
  exact diclen_calls d w h
attribute [local go_sem high] eqFault
set_option maxHeartbeats 8000000 in
set_option maxRecDepth 100000 in
theorem dictFull_walk (many : Int) (s : ByteArray) (w : World) (hmb : -9223372036854775808 ≤ many ∧ many ≤ 9223372036854775807) (hs : s.size ≤ 140737488351232) :
    Calls Try.prog 7 #[.int .i64 many, .string s] w fun e w' => e = .returned (.bool true) ∧ Below w.heap.size w w' := by
  have HB := Aside0.mk (Below.refl w.heap.size w)
  by_cases hno : many < 65530 ∨ 65540 < many ∨ 300 < s.size
  · have hno2 : many < 65530 ∨ (¬ many < 65530 ∧ 65540 < many) ∨ (¬ many < 65530 ∧ ¬ 65540 < many ∧ 300 < s.size) := by omega
    clear hno
    rcases hno2 with h1 | ⟨h1, h2⟩ | ⟨h1, h2, h3⟩
    · go_enter Try.func7, Try.ntmps7
      go_wp2_with fail
      with_reducible refine Calls.stepB (awake15_calls _) ⟨(by repeat (first | (with_reducible first | exact HB.out | apply below_alloc | apply pw_below_drewN | apply below_drew1) | exact HB.out))⟩ ?_
      clear HB
      intro w_ HK HB
      clear HK
      go_wp2
      go_ret
      exact ⟨rfl, (by repeat (first | (with_reducible first | exact HB.out | apply below_alloc | apply pw_below_drewN | apply below_drew1) | exact HB.out))⟩
    · go_enter Try.func7, Try.ntmps7
      go_wp2_with fail
      with_reducible refine Calls.stepB (awake15_calls _) ⟨(by repeat (first | (with_reducible first | exact HB.out | apply below_alloc | apply pw_below_drewN | apply below_drew1) | exact HB.out))⟩ ?_
      clear HB
      intro w_ HK HB
      clear HK
      go_wp2
      go_ret
      exact ⟨rfl, (by repeat (first | (with_reducible first | exact HB.out | apply below_alloc | apply pw_below_drewN | apply below_drew1) | exact HB.out))⟩
    · have b3 : decide (300 < (s.size : Int)) = true := decide_eq_true (by omega)
      clear h3
      go_enter Try.func7, Try.ntmps7
      go_wp2_with fail
      with_reducible refine Calls.stepB (awake15_calls _) ⟨(by repeat (first | (with_reducible first | exact HB.out | apply below_alloc | apply pw_below_drewN | apply below_drew1) | exact HB.out))⟩ ?_
      clear HB
      intro w_ HK HB
      clear HK
      go_wp2
      go_ret
      exact ⟨rfl, (by repeat (first | (with_reducible first | exact HB.out | apply below_alloc | apply pw_below_drewN | apply below_drew1) | exact HB.out))⟩
  · obtain ⟨m, rfl⟩ := Int.eq_ofNat_of_zero_le (show 0 ≤ many by omega)
    have hm1 : 65530 ≤ m := by omega
    have hm2 : m ≤ 65540 := by omega
    have b1 : ¬ (m : Int) < 65530 := by omega
    have b2 : ¬ 65540 < (m : Int) := by omega
    have b3 : decide (300 < (s.size : Int)) = false := decide_eq_false (by omega)
    have hs300 : s.size ≤ 300 := by omega
    clear hno hmb
    go_enter Try.func7, Try.ntmps7
    go_wp2_with fail
    with_reducible refine Calls.stepNew HB ?_
    clear HB
    intro g gm w1 HD hnew HF hb1 HB
    clear hnew hb1
    go_wp2
    go_loopw [6] (fun v6 w' => ∃ (i : Nat) (vd : Value), v6 = .int .i64 i ∧ i ≤ m ∧ Aside0 (DicAt ⟨g, gm, vd, wsF (min i 65536)⟩ w') ∧ Aside0 (∀ k, (⟨g, gm, vd, wsF (min i 65536)⟩ : Dic).F k → w.heap.size ≤ k) ∧ Aside0 (Below w.heap.size w w')) (fun v6 _ => m - (intOf v6).toNat)
    case atStart => exact ⟨0, _, rfl, by omega, HD, HF, HB⟩
    case round =>
      clear HB HD HF
      obtain ⟨i, vd, rfl, hi, HD, HF, HB⟩ := hrel
      obtain ⟨wo, rfl⟩ : ∃ wo : World, wo = wr := ⟨_, rfl⟩
      by_cases hlt : i < m
      · obtain ⟨xs, he, hx12, hxl⟩ := dput_at i (by omega)
        have HCV := wF_conv i wo
        have HX12 := Aside0.mk hx12
        have hnx : min (i + 1) 65536 ≤ 65536 := Nat.min_le_right _ _
        by_cases h65 : i < 65536
        · rw [if_pos h65] at he
          have HE := Aside0.mk he
          have b65 : decide ((i : Int) < 65536) = true := decide_eq_true (by omega)
          clear he hx12 hnx h65
          go_wp2_with fail
          with_reducible refine Calls.stepPut (HE.out) (by rw [wF_size]; decide) ⟨(by (with_reducible repeat (first | apply DicAt.alloc | apply DicAt.drewN | apply DicAt.drew)); exact HD.out)⟩ HF ⟨(by repeat (first | (with_reducible first | exact HB.out | apply below_alloc | apply pw_below_drewN | apply below_drew1) | exact HB.out))⟩ ?_
          clear HB
          intro A1 c1 vd1 w_ n1 n2 HG1 HN1 HR1 HB
          have HDO1 := HD
          clear HD HF
          have HD := n1
          have HF := n2
          clear n1 n2
          clear HR1 HG1 HN1 HDO1 HCV hxl
          go_wp2
          go_roundw
          case rel => exact ⟨i + 1, vd1, by go_num, by omega, HD, HF, HB⟩
          case measure => simp [intOf]; omega
        · rw [if_neg h65, hx12 (by omega)] at he
          have HE := Aside0.mk he
          have b65 : decide ((i : Int) < 65536) = false := decide_eq_false (by omega)
          clear he hx12 hnx h65
          go_wp2_with fail
          with_reducible refine Calls.stepPut (HE.out) (by rw [wF_size]; decide) ⟨(by (with_reducible repeat (first | apply DicAt.alloc | apply DicAt.drewN | apply DicAt.drew)); exact HD.out)⟩ HF ⟨(by repeat (first | (with_reducible first | exact HB.out | apply below_alloc | apply pw_below_drewN | apply below_drew1) | exact HB.out))⟩ ?_
          clear HB
          intro A1 c1 vd1 w_ n1 n2 HG1 HN1 HR1 HB
          have HDO1 := HD
          clear HD HF
          have HD := n1
          have HF := n2
          clear n1 n2
          clear HR1 HG1 HN1 HDO1
          go_wp2
          go_roundw
          case rel => exact ⟨i + 1, vd1, by go_num, by omega, HD, HF, HB⟩
          case measure => simp [intOf]; omega
      · obtain rfl : i = m := by omega
        have HNI := Aside0.mk (show findW (wsF (min i 65536)) (wF 0) = 1 from find_first _ (by omega))
        have HEA := Aside0.mk (show dput (wsF (min i 65536)) ⟨#[65, 65, 65]⟩ = ([1], 0, wsF (min i 65536)) by
          have e : (⟨#[65, 65, 65]⟩ : ByteArray) = wF 0 := by rfl
          unfold dput
          rw [e, HNI.out, if_pos (by decide), vput_lt (by decide)]
          rfl)
        obtain ⟨ws, hws⟩ : ∃ ws, wsF (min i 65536) = ws := ⟨_, rfl⟩
        have HWL := Aside0.mk (show ws.length = min i 65536 by rw [← hws, wsF_len])
        have HW1 := Aside0.mk (show (⟨#[97]⟩ : ByteArray) ∉ ws by
          rw [← hws]
          intro h
          obtain ⟨j, _, e⟩ := List.mem_map.1 h
          have := congrArg ByteArray.size e
          rw [wF_size] at this
          cases this)
        have HW2 := Aside0.mk (show s ++ (⟨#[33]⟩ : ByteArray) ∉ ws by
          rw [← hws]
          exact bang_not s _ (by omega))
        rw [hws] at HEA HD HF
        clear hws HNI hi hlt
        have hsb : (s ++ (⟨#[33]⟩ : ByteArray)).size ≤ 140737488350000 := by
          have e : (s ++ (⟨#[33]⟩ : ByteArray)).size = s.size + 1 := by rw [ByteArray.size_append]; rfl
          omega
        have HSB := Aside0.mk hsb
        clear hsb b1 b2 hm1 hm2
        by_cases h65 : i < 65536
        · have HLT := Aside0.mk h65
          have b65 : decide ((i : Int) < 65536) = true := decide_eq_true (by omega)
          have c65 : decide (65536 ≤ (i : Int)) = false := decide_eq_false (by omega)
          have d65 : ((i : Int) == 65536) = false := beq_eq_false_iff_ne.mpr (by omega)
          have HN := Aside0.mk (show ws.length = i by rw [HWL.out]; omega)
          clear h65
          go_wp2_with fail
          with_reducible refine Calls.stepEq (diclen2 ⟨g, gm, vd, ws⟩ _ HD.out HN.out) ?_
          go_wp2_with fail
          with_reducible refine Calls.stepPut (HEA.out) (by decide) ⟨(by (with_reducible repeat (first | apply DicAt.alloc | apply DicAt.drewN | apply DicAt.drew)); exact HD.out)⟩ HF ⟨(by repeat (first | (with_reducible first | exact HB.out | apply below_alloc | apply pw_below_drewN | apply below_drew1) | exact HB.out))⟩ ?_
          clear HB
          intro A1 c1 vd1 w_ n1 n2 HG1 HN1 HR1 HB
          have HDO1 := HD
          clear HD HF
          have HD := n1
          have HF := n2
          clear n1 n2
          have HC1 := Aside0.mk (Kd.R_reads' HR1.out).2.2
          obtain ⟨ad1, e1, hx3⟩ := Kd.at_int HC1.out 0 (by omega) (by simp)
          cases e1
          have hx4 : w_.cell? (ad1.add 0) = some (.int .u8 1) := hx3
          have hx5 : w_.cell? ad1 = some (.int .u8 1) := by rw [show ad1.add 0 = ad1 from rfl] at hx4; exact hx4
          clear HR1 HG1 HN1 HDO1 HC1 hx3
          go_wp2_with fail
          refine Calls.stepCur (lit_C 5 [0, 1, 97] (by decide)) (by decide) (by decide) ⟨(by repeat (first | (with_reducible first | exact HB.out | apply below_alloc | apply pw_below_drewN | apply below_drew1) | exact HB.out))⟩ ?_
          intro ok1 g1 A1' c1' w4 HCu hlo HOK hb1 HB'
          have n0 := Aside0.mk ((DicAt.alloc HD.out _).below hb1.out)
          have HAP := Aside0.mk (show ∀ k, ok1 k → ¬ (⟨g, gm, vd1, ws⟩ : Dic).F k from fun k hk hF => by have h1 := hlo.out k hk; have h2 := HD.out.lt k hF; rw [World.size_alloc] at h1; omega)
          clear HD hlo hb1 HB hx4 hx5
          have HB := HB'
          have HD := n0
          clear n0 HB'
          go_wp2_with fail
          with_reducible refine Calls.stepGet (dget_new A1' c1' (by rw [HN.out]; exact HLT.out) HW1.out) (sane0 ..) HCu HD HAP HOK HF HB ?_
          clear HCu HD HAP HOK HF HB
          intro vd2 w5 HCu HD HAP HOK HF hg HB
          clear hg HAP HOK HF
          go_wp2_with fail
          with_reducible refine (curfault_at g1 ⟨A1', c1', [0, 1, 97], 3, 0, 0, false⟩ 0 0 _ HCu.out rfl rfl).mono ?_
          rintro e w6 ⟨rfl, hb6⟩
          have n0 := Aside0.mk (HD.out.below hb6)
          have n1 := Aside0.mk (below_step HB.out hb6)
          clear HD HB hb6 HCu
          have HD := n0
          have HB := n1
          clear n0 n1
          obtain ⟨n1, hn1⟩ : ∃ n1, n1 = i + 1 := ⟨_, rfl⟩
          have e65 : ((n1 : Int) == (i : Int) + 1) = true := beq_iff_eq.mpr (by omega)
          have HN1 := Aside0.mk (show (ws ++ [(⟨#[97]⟩ : ByteArray)]).length = n1 by rw [List.length_append, HN.out, hn1, List.length_singleton])
          have hib : (i : Int) ≤ 4611686018427387904 := by have := HLT.out; omega
          clear hn1 b65 c65 d65
          go_wp2_with fail
          with_reducible refine Calls.stepEq (diclen2 ⟨g, gm, vd2, ws ++ [⟨#[97]⟩]⟩ _ HD.out HN1.out) ?_
          go_wp2_with fail
          with_reducible refine Calls.stepB (awake15_calls _) ⟨(by repeat (first | (with_reducible first | exact HB.out | apply below_alloc | apply pw_below_drewN | apply below_drew1) | exact HB.out))⟩ ?_
          clear HB
          intro w_ HK HB
          clear HK
          go_wp2
          go_ret
          exact ⟨rfl, (by repeat (first | (with_reducible first | exact HB.out | apply below_alloc | apply pw_below_drewN | apply below_drew1) | exact HB.out))⟩
        · have HGE := Aside0.mk h65
          have b65 : decide ((i : Int) < 65536) = false := decide_eq_false (by omega)
          have c65 : decide (65536 ≤ (i : Int)) = true := decide_eq_true (by omega)
          obtain ⟨n, hn⟩ : ∃ n, ws.length = n := ⟨_, rfl⟩
          have hn2 : n = 65536 := by rw [← hn, HWL.out]; omega
          have d65 : ((n : Int) == 65536) = true := beq_iff_eq.mpr (by omega)
          have d66 : ((n : Int) != 65536) = false := by simp [hn2]
          have HN := Aside0.mk hn
          have HN2 := Aside0.mk hn2
          clear h65 hn hn2
          go_wp2_with fail
          with_reducible refine Calls.stepEq (diclen2 ⟨g, gm, vd, ws⟩ _ HD.out HN.out) ?_
          go_wp2_with fail
          with_reducible refine Calls.stepPut (HEA.out) (by decide) ⟨(by (with_reducible repeat (first | apply DicAt.alloc | apply DicAt.drewN | apply DicAt.drew)); exact HD.out)⟩ HF ⟨(by repeat (first | (with_reducible first | exact HB.out | apply below_alloc | apply pw_below_drewN | apply below_drew1) | exact HB.out))⟩ ?_
          clear HB
          intro A1 c1 vd1 w_ n1 n2 HG1 HN1 HR1 HB
          have HDO1 := HD
          clear HD HF
          have HD := n1
          have HF := n2
          clear n1 n2
          have HC1 := Aside0.mk (Kd.R_reads' HR1.out).2.2
          obtain ⟨ad1, e1, hx3⟩ := Kd.at_int HC1.out 0 (by omega) (by simp)
          cases e1
          have hx4 : w_.cell? (ad1.add 0) = some (.int .u8 1) := hx3
          have hx5 : w_.cell? ad1 = some (.int .u8 1) := by rw [show ad1.add 0 = ad1 from rfl] at hx4; exact hx4
          clear HR1 HG1 HN1 HDO1 HC1 hx3
          go_wp2_with fail
          refine Calls.stepCur (lit_C 5 [0, 1, 97] (by decide)) (by decide) (by decide) ⟨(by repeat (first | (with_reducible first | exact HB.out | apply below_alloc | apply pw_below_drewN | apply below_drew1) | exact HB.out))⟩ ?_
          intro ok1 g1 A1' c1' w4 HCu hlo HOK hb1 HB'
          have n0 := Aside0.mk ((DicAt.alloc HD.out _).below hb1.out)
          have HAP := Aside0.mk (show ∀ k, ok1 k → ¬ (⟨g, gm, vd1, ws⟩ : Dic).F k from fun k hk hF => by have h1 := hlo.out k hk; have h2 := HD.out.lt k hF; rw [World.size_alloc] at h1; omega)
          clear HD hlo hb1 HB hx4 hx5
          have HB := HB'
          have HD := n0
          clear n0 HB'
          go_wp2_with fail
          with_reducible refine Calls.stepGet (dget_full A1' c1' (by rw [HN.out, HN2.out]; decide)) (sane0 ..) HCu HD HAP HOK HF HB ?_
          clear HCu HD HAP HOK HF HB
          intro vd2 w5 HCu HD HAP HOK HF hg HB
          clear hg
          go_wp2_with fail
          have HE3 := Aside0.mk (dput_full HW2.out (by rw [HN.out, HN2.out]; decide))
          with_reducible refine Calls.stepPut HE3.out HSB.out HD HF HB ?_
          clear HB
          intro A3 c3 vd3 w7 HD3 HF3 HG3 HN3 HR3 HB
          have n1 := Aside0.mk (HCu.out.step HG3.out (fun k hk => HAP.out k hk))
          clear HD HF HCu HAP HOK HF3 HG3 HN3 HR3
          have HD := HD3
          have HCu := n1
          clear n1 HD3
          go_wp2_with fail
          with_reducible refine (curfault_at g1 ⟨A1', c1', [0, 1, 97], 1, 12, 0, false⟩ 12 0 _ HCu.out rfl rfl).mono ?_
          rintro e w6 ⟨rfl, hb6⟩
          have n0 := Aside0.mk (HD.out.below hb6)
          have n1 := Aside0.mk (below_step HB.out hb6)
          clear HD HB hb6 HCu
          have HD := n0
          have HB := n1
          clear n0 n1
          go_wp2_with fail
          with_reducible refine Calls.stepEq (diclen2 ⟨g, gm, vd3, ws⟩ _ HD.out HN.out) ?_
          go_wp2_with fail
          with_reducible refine Calls.stepB (awake15_calls _) ⟨(by repeat (first | (with_reducible first | exact HB.out | apply below_alloc | apply pw_below_drewN | apply below_drew1) | exact HB.out))⟩ ?_
          clear HB
          intro w_ HK HB
          clear HK
          go_wp2
          go_ret
          exact ⟨rfl, (by repeat (first | (with_reducible first | exact HB.out | apply below_alloc | apply pw_below_drewN | apply below_drew1) | exact HB.out))⟩
namespace dictFull
open Go.ChangeShapes Go.WideShapes Go.ChangeAt Go.RowKit
open Go.ChangeMaps (open_string shut_string)
theorem own : ownKnob Try.prog.godebug = none := by kernel_rfl
set_option maxRecDepth 100000 in
theorem lifted (os : Os) (started : os.Started) (H : Type) (enc : TypeId × Value → H) :
    ReturnsInHanded {} Try.checked os 7 .any (Rows.dictFullSpec.pre6 enc Try.prog Try.f7 Rows.dictFullRow.domain false) (Rows.dictFullSpec.post enc Try.prog Try.f7 false true false false) := by
  refine returnsInHanded_of_change_sized (C := Try.checked) own started (by kernel_rfl) Try.func7
    (ChangeSpec.witness6 (enc := enc) (C := Try.checked) false ⟨#[], #[.int .i64 0, .string ByteArray.empty], []⟩ 8 (by kernel_rfl) (by kernel_rfl) (by kernel_rfl) (by kernel_rfl)) ?_
  intro W base args ds gs before hval0 hW hcnd hsz0 _
  have hsz : (DataW.weightsEach Try.prog (Try.f7.params.toList ++ Rows.dictFullSpec.plain.varTypes Try.prog) (ds ++ gs)).all (· ≤ reachBytes) = true := hsz0
  have hval : ∀ (j : Nat) t v, Try.f7.params[j]? = some t → args[j]? = some v → Value.okWide Try.prog W .any base t v := hval0
  have hW' := hW
  obtain ⟨p, q, hA0, hV, rfl, hfz, hnd⟩ := hW
  have hA : DataW.TrodAll enc Try.prog W 0 (fun _ => true) true Try.f7.params.toList args.toList ds p := hA0
  rw [Try.params7] at hA hval hsz
  obtain ⟨v0, vs0, d0, ds0, p0, q0, hargs, rfl, rfl, h0, r0⟩ := trodAll_cons hA
  obtain ⟨v1, vs1, d1, ds1, p1, q1, rfl, rfl, rfl, h1, r1⟩ := trodAll_cons r0
  obtain ⟨rfl, rfl, rfl⟩ := trodAll_nil r1
  obtain rfl : args = #[v0, v1] := by cases args; simp_all
  obtain ⟨rfl, rfl⟩ := trodVars_none hV
  obtain ⟨a0, rfl, rfl, rfl, w0⟩ := open_int Try.underlying3 (hval 0 3 v0 rfl rfl) h0
  obtain ⟨a1, rfl, rfl, rfl, y1⟩ := open_string Try.underlying9 (hval 1 9 v1 rfl rfl) h1
  have w1 : a1.size ≤ 140737488351232 := by
    have z := sized_string hsz (j := 1) (t := 9) rfl rfl
    rw [Array.length_toList] at z
    exact z
  clear hA0 hval0 hsz0 hsz
  refine (dictFull_walk a0 a1 W (bounds_i64 w0) w1).mono fun e W' ⟨he, bel⟩ => ?_
  subst he
  exact ⟨_, rfl, _, _, _, [], _, [], hW', trodAll_mk1 (shut_bool Try.underlying4 _), (trodAll_cons_mk (shut_int Try.underlying3 w0) (trodAll_cons_mk (shut_string Try.underlying9 y1) trodAll_mk0)), rfl, bel.frame _, fun h => by cases h⟩
theorem over : Rows.dictFullRow.holds Try.pinned (OpenSpec.ofChange Rows.dictFullSpec) :=
  OpenClaim.holds_of_wide 7 Try.f7 rfl rfl rfl rfl rfl rfl rfl ⟨rfl, rfl, rfl, rfl, rfl⟩ rfl rfl rfl rfl rfl (by kernel_rfl) Try.func7 (by kernel_rfl)
    (of_decide_eq_true (by kernel_rfl)) (by unfold Func.isWrapper; first | (rw [if_pos (by decide +kernel)]; kernel_rfl) | (rw [if_neg (by decide +kernel)]; exact ⟨rfl, rfl⟩))
    (fun os started H enc _ => lifted os started H enc)
theorem proved : Rows.DictFullSaid := over
end dictFull
/-- The row, under a short name, for the claim. -/
theorem dictFull_holds : Rows.DictFullSaid := dictFull.proved
#print axioms dictFull_holds
end Go.Proofs.Ytmbfjaogimkncaa
