/- Package frame: head, Head: how many bytes the frame has that bytes begin with; no condition. -/
import Derived.Test.YtmbfjaogimkncaaVar
import Derived.Test.YtmbfjaogimkncaaCur
namespace Go.Proofs.Ytmbfjaogimkncaa
open Go.RowKit Go.Proofs.YtmbfjaogimkncaaW.PrintWords Go.Proofs.YtmbfjaogimkncaaW.PrintLast Go.Proofs.YtmbfjaogimkncaaW.PrintMore
set_option linter.unusedVariables false
set_option linter.unusedSimpArgs false
/-- The length's bytes: k more may be, from place i on; n so far. -/
def hdx (l : List Int) (most : Int) : Nat → Nat → Int → Int → Int × Int × Int × Int
  | 0, _, _, _ => (0, 0, 12, 5)
  | k + 1, i, n, one =>
    if l.length ≤ i then (0, 0, 0, 0)
    else if 128 ≤ rd l i then hdx l most k (i + 1) (n + one * (rd l i % 128)) (one * 128)
    else if rd l i = 0 ∧ 3 < i then (0, 0, 21, i)
    else if most < n + one * (rd l i % 128) then (0, 0, 12, i)
    else ((i : Int) + 1, n + one * (rd l i % 128), 0, 0)
def hdw (i : Nat) : Int := if i = 0 then 77 else if i = 1 then 71 else 1
def hdc (i : Nat) : Int := if i < 2 then 22 else 23
/-- The head: k bytes of the mark are left, from place i on. -/
def hdm (l : List Int) (most : Int) : Nat → Nat → Int × Int × Int × Int
  | 0, _ => hdx l most 3 3 0 1
  | k + 1, i => if l.length ≤ i then (0, 0, 0, 0) else if rd l i = hdw i then hdm l most k (i + 1) else (0, 0, hdc i, i)
def hd (l : List Int) (most : Int) : Int × Int × Int × Int := hdm l most 3 0
theorem rd_mem (l : List Int) (i : Int) (h0 : 0 ≤ i) (h1 : i < l.length) : rd l i ∈ l := by
  unfold rd
  rw [List.getD_eq_getElem?_getD, List.getElem?_eq_getElem (by omega)]
  exact List.getElem_mem _
theorem or_i64_small (a b : Nat) (ha : a < 1099511627776) (hb : b < 1099511627776) : bits .or .i64 (a : Int) (b : Int) = ((a ||| b : Nat) : Int) := by
  have hx : a ||| b < 2 ^ 40 := Nat.or_lt_two_pow (by omega) (by omega)
  have h1 : (BitVec.ofInt 64 (a : Int)).toNat = a := by
    rw [BitVec.ofInt_natCast, BitVec.toNat_ofNat]; exact Nat.mod_eq_of_lt (by omega)
  have h2 : (BitVec.ofInt 64 (b : Int)).toNat = b := by
    rw [BitVec.ofInt_natCast, BitVec.toNat_ofNat]; exact Nat.mod_eq_of_lt (by omega)
  show IntKind.i64.wrap ((BitVec.ofInt 64 (a : Int) ||| BitVec.ofInt 64 (b : Int)).toNat : Int) = _
  rw [BitVec.toNat_or, h1, h2]
  exact IntWalk.i64_in _ (by omega)
theorem or_part (n y P : Int) (k : Nat) (hk : k ≤ 14) (hP : P = ((2 ^ k : Nat) : Int)) (h0 : 0 ≤ n) (h1 : n < P) (hy0 : 0 ≤ y) (hy1 : y < 128) : bits .or .i64 n (y * P) = n + P * y := by
  obtain ⟨a, rfl⟩ := Int.eq_ofNat_of_zero_le h0
  obtain ⟨b, rfl⟩ := Int.eq_ofNat_of_zero_le hy0
  subst hP
  have hp : 2 ^ k ≤ 2 ^ 14 := Nat.pow_le_pow_right (by decide) hk
  have hb : b < 128 := by omega
  have hm : b * 2 ^ k ≤ 128 * 2 ^ 14 := Nat.mul_le_mul (by omega) hp
  have ha : a < 2 ^ k := by omega
  rw [← Int.natCast_mul, or_i64_small a (b * 2 ^ k) (by omega) (by omega), Nat.mul_comm b, Nat.or_comm, ← Nat.two_pow_add_eq_or_of_lt ha, Nat.add_comm, Int.natCast_add, Int.natCast_mul]
theorem mark0 (W : World) : (Instr.index 134 (.agg #[.int .u8 77, .int .i64 22, .int .u8 71, .int .i64 22, .int .u8 1, .int .i64 23]) (.int .i64 0)).run Try.prog W = .ok (.agg #[.int .u8 77, .int .i64 22]) W := by kernel_rfl
theorem mark1 (W : World) : (Instr.index 134 (.agg #[.int .u8 77, .int .i64 22, .int .u8 71, .int .i64 22, .int .u8 1, .int .i64 23]) (.int .i64 1)).run Try.prog W = .ok (.agg #[.int .u8 71, .int .i64 22]) W := by kernel_rfl
theorem mark2 (W : World) : (Instr.index 134 (.agg #[.int .u8 77, .int .i64 22, .int .u8 71, .int .i64 22, .int .u8 1, .int .i64 23]) (.int .i64 2)).run Try.prog W = .ok (.agg #[.int .u8 1, .int .i64 23]) W := by kernel_rfl
set_option maxHeartbeats 8000000 in
set_option maxRecDepth 100000 in
theorem fhead_calls (A : Option Addr) (c : Nat) (l : List Int) (n : Nat) (hn : l.length = n) (w : World) (hC : (Kd.int .u8).C w A n l) (hx : ∀ x ∈ l, 0 ≤ x ∧ x < 256) :
    Calls Try.prog 53 #[.slice A n c] w fun e w' => e = .returned (.tuple #[.int .i64 (hd l 1048576).1, .int .i64 (hd l 1048576).2.1, .agg #[.int .i64 (hd l 1048576).2.2.1, .int .i64 (hd l 1048576).2.2.2]]) ∧ Below w.heap.size w w' := by
  have HC := Aside0.mk hC
  have HX := Aside0.mk hx
  have HN := Aside0.mk hn
  obtain ⟨r, hr⟩ : ∃ r, hd l 1048576 = r := ⟨_, rfl⟩
  have HR := Aside0.mk hr
  rw [hr]
  have HB := Aside0.mk (below_alloc (Below.refl w.heap.size w) (.cells #[.int .i64 0, .int .i64 0] 40))
  have HF := Aside0.mk (blk_new w (.cells #[.int .i64 0, .int .i64 0] 40))
  clear hC hx hn hr
  go_enter Try.func53, Try.ntmps53
  go_wp2
  go_step3
  go_wp2
  go_loopw [14] (fun v14 w' => ∃ i : Nat, v14 = .int .i64 (i : Int) ∧ i ≤ 3 ∧ Aside0 (hdm l 1048576 (3 - i) i = r) ∧ Aside0 (w'.heap[w.heap.size]? = some (.cells #[.int .i64 0, .int .i64 0] 40 (0, 0))) ∧ Aside0 (Below w.heap.size w w')) (fun v14 _ => 3 - (intOf v14).toNat)
  case atStart => exact ⟨0, rfl, by omega, HR, HF, HB⟩
  case round =>
    clear HB HF HR
    obtain ⟨i, rfl, hi, HR, HF, HB⟩ := hrel
    rcases (show i = 0 ∨ i = 1 ∨ i = 2 ∨ i = 3 by omega) with rfl | rfl | rfl | rfl
    · clear hi
      have HR2 := HR.out
      have hm := mark0
      have HF1 := Aside0.mk (blk_alloc HF.out (.cells #[.int .u8 77, .int .i64 22] 133))
      have HB1 := Aside0.mk (below_alloc HB.out (.cells #[.int .u8 77, .int .i64 22] 133))
      have HM := Aside0.mk (blk_new wr (.cells #[.int .u8 77, .int .i64 22] 133))
      rw [show 3 - 0 = 2 + 1 from rfl, hdm, show hdw 0 = 77 from rfl, show hdc 0 = 22 from rfl] at HR2
      by_cases h0 : l.length ≤ 0
      · rw [if_pos h0] at HR2
        have HR3 := Aside0.mk HR2
        have hn0 : n ≤ 0 := by have := HN.out; omega
        clear HR2 h0 HR HF HB HM
        have HE0 := Aside0.mk ((blk_put HF1.out 0 (.int .i64 0) rfl).trans rfl)
        have HE1 := Aside0.mk ((blk_put HE0.out 1 (.int .i64 0) rfl).trans rfl)
        have c0 := (blk_cell HF1.out 0).trans rfl
        have c1 := (blk_cell HF1.out 1).trans rfl
        have f0 := blk_frozen HF1.out 0
        have f1 := blk_frozen HF1.out 1
        go_wp2
        have e0 : World.cell? _ ⟨w.heap.size, 0, none⟩ = some (.int .i64 0) := (blk_cell HE0.out 0).trans rfl
        have e1 : World.cell? _ ⟨w.heap.size, 1, none⟩ = some (.int .i64 0) := (blk_cell HE1.out 1).trans rfl
        try rw [Exit.noGoto_ret]
        refine bodyPost_ret (v := .tuple #[.int .i64 0, .int .i64 0, .agg #[.int .i64 0, .int .i64 0]]) (by simp [results, Try.results53, go_sem, e0, e1]) rfl ⟨by first | (rw [← HR3.out]; done) | (rw [← HR3.out]; rfl), ?_⟩
        exact Below.setCell (Below.setCell HB1.out (Nat.le_refl _) _) (Nat.le_refl _) _
      · rw [if_neg h0] at HR2
        obtain ⟨ad, e, hx0⟩ := Kd.at_int (Kd.C_below HC.out HB1.out) 0 (by omega) (by have := HN.out; omega)
        cases e
        obtain ⟨x, hxx⟩ : ∃ x, rd l 0 = x := ⟨_, rfl⟩
        have hx1 : (wr.alloc (.cells #[.int .u8 77, .int .i64 22] 133)).cell? ad = some (.int .u8 x) := by rw [← hxx]; have h := hx0; rw [show ((0 : Int)).toNat = 0 from rfl, Addr.add_zero'] at h; exact h
        have hn0 : 0 < n := by have := HN.out; omega
        have m0 := (blk_cell HM.out 0).trans rfl
        have m1 := (blk_cell HM.out 1).trans rfl
        rw [show rd l (0 : Nat) = x from hxx] at HR2
        clear h0 hx0 HR hxx
        by_cases hq : x = 77
        · subst hq
          rw [if_pos rfl] at HR2
          have HR3 := Aside0.mk HR2
          clear HR2
          go_wp2
          go_quiet (fail)
          go_wp2
          go_roundw
          case rel => exact ⟨1, by go_num, by omega, ⟨HR3.out⟩, ⟨blk_drewN HF1.out _⟩, ⟨pw_below_drewN HB1.out _⟩⟩
          case measure => simp [intOf]
        · rw [if_neg hq] at HR2
          have HR3 := Aside0.mk HR2
          have hqb : (x != 77) = true := bne_iff_ne.mpr hq
          clear HR2 hq
          go_wp2
          go_quiet (fail)
          have HF2 := Aside0.mk (blk_drewN HF1.out (nq + 1))
          have HB2 := Aside0.mk (pw_below_drewN HB1.out (nq + 1))
          go_wp2
          have HE0 := Aside0.mk ((blk_put HF2.out 0 (.int .i64 22) rfl).trans rfl)
          have HE1 := Aside0.mk ((blk_put HE0.out 1 (.int .i64 0) rfl).trans rfl)
          have c0 := (blk_cell HF1.out 0).trans rfl
          have c1 := (blk_cell HF1.out 1).trans rfl
          have f0 := blk_frozen HF1.out 0
          have f1 := blk_frozen HF1.out 1
          refine start_ (n := 7) (S := fun w' => w'.cell? ⟨wr.heap.size, 1, none⟩ = some (.int .i64 22)) (ds := [6]) #[false, false, false, false, false, false, false] (by kernel_rfl) rfl rfl ((blk_cell (blk_drew (blk_drewN HM.out nq)) 1).trans rfl) (fun hHeld => ?_)
          refine pure_ (i := 0) (N := some 32) (v := ?_) (a' := ?_) #[true, false, false, false, false, false, false] rfl rfl (by kernel_rfl) (fun _ _ _ h => h) (Or.inl ⟨by rfl, ?_⟩) ?_ ?_
          rotate_left
          · intro w'
            go_simp
            with_reducible rfl
          rotate_left
          · simp only [Act.put, List.setIfInBounds_toArray, List.set_cons_zero, List.set_cons_succ, i64_w, i32_w]
            rfl
          refine pure_ (i := 2) (N := some 34) (v := ?_) (a' := ?_) #[true, false, true, false, false, false, false] rfl rfl (by kernel_rfl) (fun _ _ _ h => h) (Or.inl ⟨by rfl, ?_⟩) ?_ ?_
          rotate_left
          · intro w'
            go_simp
            with_reducible rfl
          rotate_left
          · simp only [Act.put, List.setIfInBounds_toArray, List.set_cons_zero, List.set_cons_succ, i64_w, i32_w]
            rfl
          refine pure_ (i := 4) (N := some 2) (v := ?_) (a' := ?_) #[true, false, true, false, true, false, false] rfl rfl (by kernel_rfl) (fun _ _ _ h => h) (Or.inl ⟨by rfl, ?_⟩) ?_ ?_
          rotate_left
          · intro w'
            go_simp
            with_reducible rfl
          rotate_left
          · simp only [Act.put, List.setIfInBounds_toArray, List.set_cons_zero, List.set_cons_succ, i64_w, i32_w]
            rfl
          refine pure_ (i := 5) (N := some 3) (v := ?_) (a' := ?_) #[true, false, true, false, true, true, false] rfl rfl (by kernel_rfl) (fun _ _ _ h => h) (Or.inl ⟨by rfl, ?_⟩) ?_ ?_
          rotate_left
          · intro w'
            go_simp
            with_reducible rfl
          rotate_left
          · simp only [Act.put, List.setIfInBounds_toArray, List.set_cons_zero, List.set_cons_succ, i64_w, i32_w]
            rfl
          refine take_ (i := 1) (N := some 33) (v := ?_) (a' := ?_) #[true, true, true, false, true, true, false] rfl rfl (by kernel_rfl) (fun _ _ _ h => h) (Or.inl ⟨by rfl, ?_⟩) hHeld ?_ ?_
          rotate_left
          · intro w' s0
            go_simp
            with_reducible rfl
          rotate_left
          · simp only [Act.put, List.setIfInBounds_toArray, List.set_cons_zero, List.set_cons_succ, i64_w, i32_w]
            rfl
          refine pure_ (i := 3) (N := some 35) (v := ?_) (a' := ?_) #[true, true, true, true, true, true, false] rfl rfl (by kernel_rfl) (fun _ _ _ h => h) (Or.inl ⟨by rfl, ?_⟩) ?_ ?_
          rotate_left
          · intro w'
            go_simp
            with_reducible rfl
          rotate_left
          · simp only [Act.put, List.setIfInBounds_toArray, List.set_cons_zero, List.set_cons_succ, i64_w, i32_w]
            rfl
          refine last_ (i := 6) (N := none) #[true, true, true, true, true, true, true] rfl rfl (by kernel_rfl) (by decide) (fun K hK => ?_)
          refine skip_ (w1 := ?_) (by rfl) rfl ?_ ?_
          rotate_left
          · go_simp
            rfl
          refine hK.out _ _ ?_
          clear hK K
          refine done_ (by kernel_rfl) ?_
          go_wp2
          have e0 : World.cell? _ ⟨w.heap.size, 0, none⟩ = some (.int .i64 22) := (blk_cell HE0.out 0).trans rfl
          have e1 : World.cell? _ ⟨w.heap.size, 1, none⟩ = some (.int .i64 0) := (blk_cell HE1.out 1).trans rfl
          try rw [Exit.noGoto_ret]
          refine bodyPost_ret (v := .tuple #[.int .i64 0, .int .i64 0, .agg #[.int .i64 22, .int .i64 0]]) (by simp [results, Try.results53, go_sem, e0, e1]) rfl ⟨by first | (rw [← HR3.out]; done) | (rw [← HR3.out]; rfl), ?_⟩
          exact Below.setCell (Below.setCell HB2.out (Nat.le_refl _) _) (Nat.le_refl _) _
    · clear hi
      have HR2 := HR.out
      have hm := mark1
      have HF1 := Aside0.mk (blk_alloc HF.out (.cells #[.int .u8 71, .int .i64 22] 133))
      have HB1 := Aside0.mk (below_alloc HB.out (.cells #[.int .u8 71, .int .i64 22] 133))
      have HM := Aside0.mk (blk_new wr (.cells #[.int .u8 71, .int .i64 22] 133))
      rw [show 3 - 1 = 1 + 1 from rfl, hdm, show hdw 1 = 71 from rfl, show hdc 1 = 22 from rfl] at HR2
      by_cases h0 : l.length ≤ 1
      · rw [if_pos h0] at HR2
        have HR3 := Aside0.mk HR2
        have hn0 : n ≤ 1 := by have := HN.out; omega
        clear HR2 h0 HR HF HB HM
        have HE0 := Aside0.mk ((blk_put HF1.out 0 (.int .i64 0) rfl).trans rfl)
        have HE1 := Aside0.mk ((blk_put HE0.out 1 (.int .i64 0) rfl).trans rfl)
        have c0 := (blk_cell HF1.out 0).trans rfl
        have c1 := (blk_cell HF1.out 1).trans rfl
        have f0 := blk_frozen HF1.out 0
        have f1 := blk_frozen HF1.out 1
        go_wp2
        have e0 : World.cell? _ ⟨w.heap.size, 0, none⟩ = some (.int .i64 0) := (blk_cell HE0.out 0).trans rfl
        have e1 : World.cell? _ ⟨w.heap.size, 1, none⟩ = some (.int .i64 0) := (blk_cell HE1.out 1).trans rfl
        try rw [Exit.noGoto_ret]
        refine bodyPost_ret (v := .tuple #[.int .i64 0, .int .i64 0, .agg #[.int .i64 0, .int .i64 0]]) (by simp [results, Try.results53, go_sem, e0, e1]) rfl ⟨by first | (rw [← HR3.out]; done) | (rw [← HR3.out]; rfl), ?_⟩
        exact Below.setCell (Below.setCell HB1.out (Nat.le_refl _) _) (Nat.le_refl _) _
      · rw [if_neg h0] at HR2
        obtain ⟨ad, e, hx0⟩ := Kd.at_int (Kd.C_below HC.out HB1.out) 1 (by omega) (by have := HN.out; omega)
        cases e
        obtain ⟨x, hxx⟩ : ∃ x, rd l 1 = x := ⟨_, rfl⟩
        have hx1 : (wr.alloc (.cells #[.int .u8 71, .int .i64 22] 133)).cell? ⟨ad.block, ad.off + 1, none⟩ = some (.int .u8 x) := by rw [← hxx]; exact hx0
        have hn0 : 1 < n := by have := HN.out; omega
        have m0 := (blk_cell HM.out 0).trans rfl
        have m1 := (blk_cell HM.out 1).trans rfl
        rw [show rd l (1 : Nat) = x from hxx] at HR2
        clear h0 hx0 HR hxx
        by_cases hq : x = 71
        · subst hq
          rw [if_pos rfl] at HR2
          have HR3 := Aside0.mk HR2
          clear HR2
          go_wp2
          go_quiet (fail)
          go_wp2
          go_roundw
          case rel => exact ⟨2, by go_num, by omega, ⟨HR3.out⟩, ⟨blk_drewN HF1.out _⟩, ⟨pw_below_drewN HB1.out _⟩⟩
          case measure => simp [intOf]
        · rw [if_neg hq] at HR2
          have HR3 := Aside0.mk HR2
          have hqb : (x != 71) = true := bne_iff_ne.mpr hq
          clear HR2 hq
          go_wp2
          go_quiet (fail)
          have HF2 := Aside0.mk (blk_drewN HF1.out (nq + 1))
          have HB2 := Aside0.mk (pw_below_drewN HB1.out (nq + 1))
          go_wp2
          have HE0 := Aside0.mk ((blk_put HF2.out 0 (.int .i64 22) rfl).trans rfl)
          have HE1 := Aside0.mk ((blk_put HE0.out 1 (.int .i64 1) rfl).trans rfl)
          have c0 := (blk_cell HF1.out 0).trans rfl
          have c1 := (blk_cell HF1.out 1).trans rfl
          have f0 := blk_frozen HF1.out 0
          have f1 := blk_frozen HF1.out 1
          refine start_ (n := 7) (S := fun w' => w'.cell? ⟨wr.heap.size, 1, none⟩ = some (.int .i64 22)) (ds := [6]) #[false, false, false, false, false, false, false] (by kernel_rfl) rfl rfl ((blk_cell (blk_drew (blk_drewN HM.out nq)) 1).trans rfl) (fun hHeld => ?_)
          refine pure_ (i := 0) (N := some 32) (v := ?_) (a' := ?_) #[true, false, false, false, false, false, false] rfl rfl (by kernel_rfl) (fun _ _ _ h => h) (Or.inl ⟨by rfl, ?_⟩) ?_ ?_
          rotate_left
          · intro w'
            go_simp
            with_reducible rfl
          rotate_left
          · simp only [Act.put, List.setIfInBounds_toArray, List.set_cons_zero, List.set_cons_succ, i64_w, i32_w]
            rfl
          refine pure_ (i := 2) (N := some 34) (v := ?_) (a' := ?_) #[true, false, true, false, false, false, false] rfl rfl (by kernel_rfl) (fun _ _ _ h => h) (Or.inl ⟨by rfl, ?_⟩) ?_ ?_
          rotate_left
          · intro w'
            go_simp
            with_reducible rfl
          rotate_left
          · simp only [Act.put, List.setIfInBounds_toArray, List.set_cons_zero, List.set_cons_succ, i64_w, i32_w]
            rfl
          refine pure_ (i := 4) (N := some 2) (v := ?_) (a' := ?_) #[true, false, true, false, true, false, false] rfl rfl (by kernel_rfl) (fun _ _ _ h => h) (Or.inl ⟨by rfl, ?_⟩) ?_ ?_
          rotate_left
          · intro w'
            go_simp
            with_reducible rfl
          rotate_left
          · simp only [Act.put, List.setIfInBounds_toArray, List.set_cons_zero, List.set_cons_succ, i64_w, i32_w]
            rfl
          refine pure_ (i := 5) (N := some 3) (v := ?_) (a' := ?_) #[true, false, true, false, true, true, false] rfl rfl (by kernel_rfl) (fun _ _ _ h => h) (Or.inl ⟨by rfl, ?_⟩) ?_ ?_
          rotate_left
          · intro w'
            go_simp
            with_reducible rfl
          rotate_left
          · simp only [Act.put, List.setIfInBounds_toArray, List.set_cons_zero, List.set_cons_succ, i64_w, i32_w]
            rfl
          refine take_ (i := 1) (N := some 33) (v := ?_) (a' := ?_) #[true, true, true, false, true, true, false] rfl rfl (by kernel_rfl) (fun _ _ _ h => h) (Or.inl ⟨by rfl, ?_⟩) hHeld ?_ ?_
          rotate_left
          · intro w' s0
            go_simp
            with_reducible rfl
          rotate_left
          · simp only [Act.put, List.setIfInBounds_toArray, List.set_cons_zero, List.set_cons_succ, i64_w, i32_w]
            rfl
          refine pure_ (i := 3) (N := some 35) (v := ?_) (a' := ?_) #[true, true, true, true, true, true, false] rfl rfl (by kernel_rfl) (fun _ _ _ h => h) (Or.inl ⟨by rfl, ?_⟩) ?_ ?_
          rotate_left
          · intro w'
            go_simp
            with_reducible rfl
          rotate_left
          · simp only [Act.put, List.setIfInBounds_toArray, List.set_cons_zero, List.set_cons_succ, i64_w, i32_w]
            rfl
          refine last_ (i := 6) (N := none) #[true, true, true, true, true, true, true] rfl rfl (by kernel_rfl) (by decide) (fun K hK => ?_)
          refine skip_ (w1 := ?_) (by rfl) rfl ?_ ?_
          rotate_left
          · go_simp
            rfl
          refine hK.out _ _ ?_
          clear hK K
          refine done_ (by kernel_rfl) ?_
          go_wp2
          have e0 : World.cell? _ ⟨w.heap.size, 0, none⟩ = some (.int .i64 22) := (blk_cell HE0.out 0).trans rfl
          have e1 : World.cell? _ ⟨w.heap.size, 1, none⟩ = some (.int .i64 1) := (blk_cell HE1.out 1).trans rfl
          try rw [Exit.noGoto_ret]
          refine bodyPost_ret (v := .tuple #[.int .i64 0, .int .i64 0, .agg #[.int .i64 22, .int .i64 1]]) (by simp [results, Try.results53, go_sem, e0, e1]) rfl ⟨by first | (rw [← HR3.out]; done) | (rw [← HR3.out]; rfl), ?_⟩
          exact Below.setCell (Below.setCell HB2.out (Nat.le_refl _) _) (Nat.le_refl _) _
    · clear hi
      have HR2 := HR.out
      have hm := mark2
      have HF1 := Aside0.mk (blk_alloc HF.out (.cells #[.int .u8 1, .int .i64 23] 133))
      have HB1 := Aside0.mk (below_alloc HB.out (.cells #[.int .u8 1, .int .i64 23] 133))
      have HM := Aside0.mk (blk_new wr (.cells #[.int .u8 1, .int .i64 23] 133))
      rw [show 3 - 2 = 0 + 1 from rfl, hdm, show hdw 2 = 1 from rfl, show hdc 2 = 23 from rfl] at HR2
      by_cases h0 : l.length ≤ 2
      · rw [if_pos h0] at HR2
        have HR3 := Aside0.mk HR2
        have hn0 : n ≤ 2 := by have := HN.out; omega
        clear HR2 h0 HR HF HB HM
        have HE0 := Aside0.mk ((blk_put HF1.out 0 (.int .i64 0) rfl).trans rfl)
        have HE1 := Aside0.mk ((blk_put HE0.out 1 (.int .i64 0) rfl).trans rfl)
        have c0 := (blk_cell HF1.out 0).trans rfl
        have c1 := (blk_cell HF1.out 1).trans rfl
        have f0 := blk_frozen HF1.out 0
        have f1 := blk_frozen HF1.out 1
        go_wp2
        have e0 : World.cell? _ ⟨w.heap.size, 0, none⟩ = some (.int .i64 0) := (blk_cell HE0.out 0).trans rfl
        have e1 : World.cell? _ ⟨w.heap.size, 1, none⟩ = some (.int .i64 0) := (blk_cell HE1.out 1).trans rfl
        try rw [Exit.noGoto_ret]
        refine bodyPost_ret (v := .tuple #[.int .i64 0, .int .i64 0, .agg #[.int .i64 0, .int .i64 0]]) (by simp [results, Try.results53, go_sem, e0, e1]) rfl ⟨by first | (rw [← HR3.out]; done) | (rw [← HR3.out]; rfl), ?_⟩
        exact Below.setCell (Below.setCell HB1.out (Nat.le_refl _) _) (Nat.le_refl _) _
      · rw [if_neg h0] at HR2
        obtain ⟨ad, e, hx0⟩ := Kd.at_int (Kd.C_below HC.out HB1.out) 2 (by omega) (by have := HN.out; omega)
        cases e
        obtain ⟨x, hxx⟩ : ∃ x, rd l 2 = x := ⟨_, rfl⟩
        have hx1 : (wr.alloc (.cells #[.int .u8 1, .int .i64 23] 133)).cell? ⟨ad.block, ad.off + 2, none⟩ = some (.int .u8 x) := by rw [← hxx]; exact hx0
        have hn0 : 2 < n := by have := HN.out; omega
        have m0 := (blk_cell HM.out 0).trans rfl
        have m1 := (blk_cell HM.out 1).trans rfl
        rw [show rd l (2 : Nat) = x from hxx] at HR2
        clear h0 hx0 HR hxx
        by_cases hq : x = 1
        · subst hq
          rw [if_pos rfl] at HR2
          have HR3 := Aside0.mk HR2
          clear HR2
          go_wp2
          go_quiet (fail)
          go_wp2
          go_roundw
          case rel => exact ⟨3, by go_num, by omega, ⟨HR3.out⟩, ⟨blk_drewN HF1.out _⟩, ⟨pw_below_drewN HB1.out _⟩⟩
          case measure => simp [intOf]
        · rw [if_neg hq] at HR2
          have HR3 := Aside0.mk HR2
          have hqb : (x != 1) = true := bne_iff_ne.mpr hq
          clear HR2 hq
          go_wp2
          go_quiet (fail)
          have HF2 := Aside0.mk (blk_drewN HF1.out (nq + 1))
          have HB2 := Aside0.mk (pw_below_drewN HB1.out (nq + 1))
          go_wp2
          have HE0 := Aside0.mk ((blk_put HF2.out 0 (.int .i64 23) rfl).trans rfl)
          have HE1 := Aside0.mk ((blk_put HE0.out 1 (.int .i64 2) rfl).trans rfl)
          have c0 := (blk_cell HF1.out 0).trans rfl
          have c1 := (blk_cell HF1.out 1).trans rfl
          have f0 := blk_frozen HF1.out 0
          have f1 := blk_frozen HF1.out 1
          refine start_ (n := 7) (S := fun w' => w'.cell? ⟨wr.heap.size, 1, none⟩ = some (.int .i64 23)) (ds := [6]) #[false, false, false, false, false, false, false] (by kernel_rfl) rfl rfl ((blk_cell (blk_drew (blk_drewN HM.out nq)) 1).trans rfl) (fun hHeld => ?_)
          refine pure_ (i := 0) (N := some 32) (v := ?_) (a' := ?_) #[true, false, false, false, false, false, false] rfl rfl (by kernel_rfl) (fun _ _ _ h => h) (Or.inl ⟨by rfl, ?_⟩) ?_ ?_
          rotate_left
          · intro w'
            go_simp
            with_reducible rfl
          rotate_left
          · simp only [Act.put, List.setIfInBounds_toArray, List.set_cons_zero, List.set_cons_succ, i64_w, i32_w]
            rfl
          refine pure_ (i := 2) (N := some 34) (v := ?_) (a' := ?_) #[true, false, true, false, false, false, false] rfl rfl (by kernel_rfl) (fun _ _ _ h => h) (Or.inl ⟨by rfl, ?_⟩) ?_ ?_
          rotate_left
          · intro w'
            go_simp
            with_reducible rfl
          rotate_left
          · simp only [Act.put, List.setIfInBounds_toArray, List.set_cons_zero, List.set_cons_succ, i64_w, i32_w]
            rfl
          refine pure_ (i := 4) (N := some 2) (v := ?_) (a' := ?_) #[true, false, true, false, true, false, false] rfl rfl (by kernel_rfl) (fun _ _ _ h => h) (Or.inl ⟨by rfl, ?_⟩) ?_ ?_
          rotate_left
          · intro w'
            go_simp
            with_reducible rfl
          rotate_left
          · simp only [Act.put, List.setIfInBounds_toArray, List.set_cons_zero, List.set_cons_succ, i64_w, i32_w]
            rfl
          refine pure_ (i := 5) (N := some 3) (v := ?_) (a' := ?_) #[true, false, true, false, true, true, false] rfl rfl (by kernel_rfl) (fun _ _ _ h => h) (Or.inl ⟨by rfl, ?_⟩) ?_ ?_
          rotate_left
          · intro w'
            go_simp
            with_reducible rfl
          rotate_left
          · simp only [Act.put, List.setIfInBounds_toArray, List.set_cons_zero, List.set_cons_succ, i64_w, i32_w]
            rfl
          refine take_ (i := 1) (N := some 33) (v := ?_) (a' := ?_) #[true, true, true, false, true, true, false] rfl rfl (by kernel_rfl) (fun _ _ _ h => h) (Or.inl ⟨by rfl, ?_⟩) hHeld ?_ ?_
          rotate_left
          · intro w' s0
            go_simp
            with_reducible rfl
          rotate_left
          · simp only [Act.put, List.setIfInBounds_toArray, List.set_cons_zero, List.set_cons_succ, i64_w, i32_w]
            rfl
          refine pure_ (i := 3) (N := some 35) (v := ?_) (a' := ?_) #[true, true, true, true, true, true, false] rfl rfl (by kernel_rfl) (fun _ _ _ h => h) (Or.inl ⟨by rfl, ?_⟩) ?_ ?_
          rotate_left
          · intro w'
            go_simp
            with_reducible rfl
          rotate_left
          · simp only [Act.put, List.setIfInBounds_toArray, List.set_cons_zero, List.set_cons_succ, i64_w, i32_w]
            rfl
          refine last_ (i := 6) (N := none) #[true, true, true, true, true, true, true] rfl rfl (by kernel_rfl) (by decide) (fun K hK => ?_)
          refine skip_ (w1 := ?_) (by rfl) rfl ?_ ?_
          rotate_left
          · go_simp
            rfl
          refine hK.out _ _ ?_
          clear hK K
          refine done_ (by kernel_rfl) ?_
          go_wp2
          have e0 : World.cell? _ ⟨w.heap.size, 0, none⟩ = some (.int .i64 23) := (blk_cell HE0.out 0).trans rfl
          have e1 : World.cell? _ ⟨w.heap.size, 1, none⟩ = some (.int .i64 2) := (blk_cell HE1.out 1).trans rfl
          try rw [Exit.noGoto_ret]
          refine bodyPost_ret (v := .tuple #[.int .i64 0, .int .i64 0, .agg #[.int .i64 23, .int .i64 2]]) (by simp [results, Try.results53, go_sem, e0, e1]) rfl ⟨by first | (rw [← HR3.out]; done) | (rw [← HR3.out]; rfl), ?_⟩
          exact Below.setCell (Below.setCell HB2.out (Nat.le_refl _) _) (Nat.le_refl _) _
    · have HR2 := HR.out
      have HR3 := Aside0.mk (show hdx l 1048576 3 3 0 1 = r from HR2)
      clear HR2 HR hi
      go_wp2
      try go_step3
      try go_wp2
      go_loopw [7, 8] (fun v7 v8 w' => ∃ (i : Nat) (nn one : Int), v7 = .int .i64 nn ∧ v8 = .int .i64 (i : Int) ∧ 3 ≤ i ∧ i ≤ 5 ∧ 0 ≤ nn ∧ nn < one ∧ Aside0 (one = 128 ^ (i - 3)) ∧ Aside0 (hdx l 1048576 (6 - i) i nn one = r) ∧ Aside0 (w'.heap[w.heap.size]? = some (.cells #[.int .i64 0, .int .i64 0] 40 (0, 0))) ∧ Aside0 (Below w.heap.size w w')) (fun _ v8 _ => 6 - (intOf v8).toNat)
      case atStart => exact ⟨3, 0, 1, rfl, rfl, by omega, by omega, by omega, by omega, ⟨rfl⟩, HR3, HF, HB⟩
      case round =>
        clear HB HF HR3
        obtain ⟨i, nn, one, rfl, rfl, hi3, hi5, hn0, hn1, HONE, HR, HF, HB⟩ := hrel
        rcases (show i = 3 ∨ i = 4 ∨ i = 5 by omega) with rfl | rfl | rfl
        · have HR2 := HR.out
          have e1 : one = 1 := HONE.out
          subst e1
          clear HONE hi3 hi5
          rw [show 6 - 3 = 2 + 1 from rfl, hdx] at HR2
          by_cases h0 : l.length ≤ 3
          · rw [if_pos h0] at HR2
            have HR3 := Aside0.mk HR2
            have hl0 : n ≤ 3 := by have := HN.out; omega
            clear HR2 HR h0
            have HE0 := Aside0.mk ((blk_put HF.out 0 (.int .i64 0) rfl).trans rfl)
            have HE1 := Aside0.mk ((blk_put HE0.out 1 (.int .i64 0) rfl).trans rfl)
            have c0 := (blk_cell HF.out 0).trans rfl
            have c1 := (blk_cell HF.out 1).trans rfl
            have f0 := blk_frozen HF.out 0
            have f1 := blk_frozen HF.out 1
            go_wp2
            have e0 : World.cell? _ ⟨w.heap.size, 0, none⟩ = some (.int .i64 0) := (blk_cell HE0.out 0).trans rfl
            have e1 : World.cell? _ ⟨w.heap.size, 1, none⟩ = some (.int .i64 0) := (blk_cell HE1.out 1).trans rfl
            try rw [Exit.noGoto_ret]
            refine bodyPost_ret (v := .tuple #[.int .i64 0, .int .i64 0, .agg #[.int .i64 0, .int .i64 0]]) (by simp [results, Try.results53, go_sem, e0, e1]) rfl ⟨by first | (rw [← HR3.out]; done) | (rw [← HR3.out]; rfl), ?_⟩
            exact Below.setCell (Below.setCell HB.out (Nat.le_refl _) _) (Nat.le_refl _) _
          · rw [if_neg h0] at HR2
            obtain ⟨ad, e, hx0⟩ := Kd.at_int (Kd.C_below HC.out HB.out) 3 (by omega) (by have := HN.out; omega)
            cases e
            have hxb := HX.out (rd l 3) (rd_mem l 3 (by omega) (by omega))
            obtain ⟨x, hxx⟩ : ∃ x, rd l 3 = x := ⟨_, rfl⟩
            have hx1 : wr.cell? ⟨ad.block, ad.off + 3, none⟩ = some (.int .u8 x) := by rw [← hxx]; exact hx0
            have hl0 : 3 < n := by have := HN.out; omega
            rw [show rd l (3 : Nat) = x from hxx] at HR2
            rw [hxx] at hxb
            have hw : wrap64 x = x := IntWalk.wrap64_in _ (by omega)
            obtain ⟨y, hy⟩ : ∃ y, x % 128 = y := ⟨_, rfl⟩
            have hy0 : 0 ≤ y := by omega
            have hy1 : y < 128 := by omega
            have hyx : x < 128 → y = x := by omega
            have ht : x.tmod 128 = y := by rw [← hy]; exact Int.tmod_eq_emod_of_nonneg hxb.1
            have hm : wrap64 y = y := IntWalk.wrap64_in _ (by omega)
            have hor := or_part nn y 1 0 (by omega) (by decide) hn0 hn1 hy0 hy1
            rw [Int.mul_one, Int.one_mul] at hor
            rw [hy, Int.one_mul] at HR2
            clear h0 hx0 HR hxx hy
            by_cases hq : 128 ≤ x
            · rw [if_pos hq] at HR2
              have HR3 := Aside0.mk HR2
              clear HR2
              go_wp2
              go_roundw
              case rel => exact ⟨4, nn + y, 1 * 128, by go_num, by go_num, by omega, by omega, by omega, by omega, ⟨rfl⟩, ⟨HR3.out⟩, HF, HB⟩
              case measure => simp [intOf]
            · rw [if_neg hq] at HR2
              have hq2 : x < 128 := by omega
              clear hq
              rw [if_neg (fun h => absurd h.2 (by decide))] at HR2
              clear hyx
              have hL : ¬ 1048576 < nn + y := by omega
              rw [if_neg hL] at HR2
              have HR3 := Aside0.mk HR2
              clear HR2
              by_cases hz : x = 0
              · have hzb : (x == 0) = true := beq_iff_eq.mpr hz
                clear hz
                have HE0 := Aside0.mk ((blk_put HF.out 0 (.int .i64 0) rfl).trans rfl)
                have HE1 := Aside0.mk ((blk_put HE0.out 1 (.int .i64 0) rfl).trans rfl)
                have c0 := (blk_cell HF.out 0).trans rfl
                have c1 := (blk_cell HF.out 1).trans rfl
                have f0 := blk_frozen HF.out 0
                have f1 := blk_frozen HF.out 1
                (go_wp2)
                have e0 : World.cell? _ ⟨w.heap.size, 0, none⟩ = some (.int .i64 0) := (blk_cell HE0.out 0).trans rfl
                have e1 : World.cell? _ ⟨w.heap.size, 1, none⟩ = some (.int .i64 0) := (blk_cell HE1.out 1).trans rfl
                try rw [Exit.noGoto_ret]
                refine bodyPost_ret (v := .tuple #[.int .i64 4, .int .i64 (nn + y), .agg #[.int .i64 0, .int .i64 0]]) (by simp [results, Try.results53, go_sem, e0, e1]) rfl ⟨by first | (rw [← HR3.out]; done) | (rw [← HR3.out]; rfl), ?_⟩
                exact Below.setCell (Below.setCell HB.out (Nat.le_refl _) _) (Nat.le_refl _) _
              · have hzb : (x == 0) = false := beq_eq_false_iff_ne.mpr hz
                clear hz
                have HE0 := Aside0.mk ((blk_put HF.out 0 (.int .i64 0) rfl).trans rfl)
                have HE1 := Aside0.mk ((blk_put HE0.out 1 (.int .i64 0) rfl).trans rfl)
                have c0 := (blk_cell HF.out 0).trans rfl
                have c1 := (blk_cell HF.out 1).trans rfl
                have f0 := blk_frozen HF.out 0
                have f1 := blk_frozen HF.out 1
                (go_wp2)
                have e0 : World.cell? _ ⟨w.heap.size, 0, none⟩ = some (.int .i64 0) := (blk_cell HE0.out 0).trans rfl
                have e1 : World.cell? _ ⟨w.heap.size, 1, none⟩ = some (.int .i64 0) := (blk_cell HE1.out 1).trans rfl
                try rw [Exit.noGoto_ret]
                refine bodyPost_ret (v := .tuple #[.int .i64 4, .int .i64 (nn + y), .agg #[.int .i64 0, .int .i64 0]]) (by simp [results, Try.results53, go_sem, e0, e1]) rfl ⟨by first | (rw [← HR3.out]; done) | (rw [← HR3.out]; rfl), ?_⟩
                exact Below.setCell (Below.setCell HB.out (Nat.le_refl _) _) (Nat.le_refl _) _
        · have HR2 := HR.out
          have e1 : one = 128 := HONE.out
          subst e1
          clear HONE hi3 hi5
          rw [show 6 - 4 = 1 + 1 from rfl, hdx] at HR2
          by_cases h0 : l.length ≤ 4
          · rw [if_pos h0] at HR2
            have HR3 := Aside0.mk HR2
            have hl0 : n ≤ 4 := by have := HN.out; omega
            clear HR2 HR h0
            have HE0 := Aside0.mk ((blk_put HF.out 0 (.int .i64 0) rfl).trans rfl)
            have HE1 := Aside0.mk ((blk_put HE0.out 1 (.int .i64 0) rfl).trans rfl)
            have c0 := (blk_cell HF.out 0).trans rfl
            have c1 := (blk_cell HF.out 1).trans rfl
            have f0 := blk_frozen HF.out 0
            have f1 := blk_frozen HF.out 1
            go_wp2
            have e0 : World.cell? _ ⟨w.heap.size, 0, none⟩ = some (.int .i64 0) := (blk_cell HE0.out 0).trans rfl
            have e1 : World.cell? _ ⟨w.heap.size, 1, none⟩ = some (.int .i64 0) := (blk_cell HE1.out 1).trans rfl
            try rw [Exit.noGoto_ret]
            refine bodyPost_ret (v := .tuple #[.int .i64 0, .int .i64 0, .agg #[.int .i64 0, .int .i64 0]]) (by simp [results, Try.results53, go_sem, e0, e1]) rfl ⟨by first | (rw [← HR3.out]; done) | (rw [← HR3.out]; rfl), ?_⟩
            exact Below.setCell (Below.setCell HB.out (Nat.le_refl _) _) (Nat.le_refl _) _
          · rw [if_neg h0] at HR2
            obtain ⟨ad, e, hx0⟩ := Kd.at_int (Kd.C_below HC.out HB.out) 4 (by omega) (by have := HN.out; omega)
            cases e
            have hxb := HX.out (rd l 4) (rd_mem l 4 (by omega) (by omega))
            obtain ⟨x, hxx⟩ : ∃ x, rd l 4 = x := ⟨_, rfl⟩
            have hx1 : wr.cell? ⟨ad.block, ad.off + 4, none⟩ = some (.int .u8 x) := by rw [← hxx]; exact hx0
            have hl0 : 4 < n := by have := HN.out; omega
            rw [show rd l (4 : Nat) = x from hxx] at HR2
            rw [hxx] at hxb
            have hw : wrap64 x = x := IntWalk.wrap64_in _ (by omega)
            obtain ⟨y, hy⟩ : ∃ y, x % 128 = y := ⟨_, rfl⟩
            have hy0 : 0 ≤ y := by omega
            have hy1 : y < 128 := by omega
            have hyx : x < 128 → y = x := by omega
            have ht : x.tmod 128 = y := by rw [← hy]; exact Int.tmod_eq_emod_of_nonneg hxb.1
            have hm : wrap64 (y * 128) = y * 128 := IntWalk.wrap64_in _ (by omega)
            have hor := or_part nn y 128 7 (by omega) (by decide) hn0 hn1 hy0 hy1
            rw [hy] at HR2
            clear h0 hx0 HR hxx hy
            by_cases hq : 128 ≤ x
            · rw [if_pos hq] at HR2
              have HR3 := Aside0.mk HR2
              clear HR2
              go_wp2
              go_roundw
              case rel => exact ⟨5, nn + 128 * y, 128 * 128, by go_num, by go_num, by omega, by omega, by omega, by omega, ⟨rfl⟩, ⟨HR3.out⟩, HF, HB⟩
              case measure => simp [intOf]
            · rw [if_neg hq] at HR2
              have hq2 : x < 128 := by omega
              clear hq
              by_cases hz : x = 0
              · rw [if_pos ⟨hz, by decide⟩] at HR2
                have HR3 := Aside0.mk HR2
                have hzb : (x == 0) = true := beq_iff_eq.mpr hz
                clear HR2 hz hyx
                have HE0 := Aside0.mk ((blk_put HF.out 0 (.int .i64 21) rfl).trans rfl)
                have HE1 := Aside0.mk ((blk_put HE0.out 1 (.int .i64 4) rfl).trans rfl)
                have c0 := (blk_cell HF.out 0).trans rfl
                have c1 := (blk_cell HF.out 1).trans rfl
                have f0 := blk_frozen HF.out 0
                have f1 := blk_frozen HF.out 1
                go_wp2
                have e0 : World.cell? _ ⟨w.heap.size, 0, none⟩ = some (.int .i64 21) := (blk_cell HE0.out 0).trans rfl
                have e1 : World.cell? _ ⟨w.heap.size, 1, none⟩ = some (.int .i64 4) := (blk_cell HE1.out 1).trans rfl
                try rw [Exit.noGoto_ret]
                refine bodyPost_ret (v := .tuple #[.int .i64 0, .int .i64 0, .agg #[.int .i64 21, .int .i64 4]]) (by simp [results, Try.results53, go_sem, e0, e1]) rfl ⟨by first | (rw [← HR3.out]; done) | (rw [← HR3.out]; rfl), ?_⟩
                exact Below.setCell (Below.setCell HB.out (Nat.le_refl _) _) (Nat.le_refl _) _
              · rw [if_neg (fun h => hz h.1)] at HR2
                have hzb : (x == 0) = false := beq_eq_false_iff_ne.mpr hz
                clear hz hyx
                have hL : ¬ 1048576 < nn + 128 * y := by omega
                rw [if_neg hL] at HR2
                have HR3 := Aside0.mk HR2
                clear HR2
                have HE0 := Aside0.mk ((blk_put HF.out 0 (.int .i64 0) rfl).trans rfl)
                have HE1 := Aside0.mk ((blk_put HE0.out 1 (.int .i64 0) rfl).trans rfl)
                have c0 := (blk_cell HF.out 0).trans rfl
                have c1 := (blk_cell HF.out 1).trans rfl
                have f0 := blk_frozen HF.out 0
                have f1 := blk_frozen HF.out 1
                (go_wp2)
                have e0 : World.cell? _ ⟨w.heap.size, 0, none⟩ = some (.int .i64 0) := (blk_cell HE0.out 0).trans rfl
                have e1 : World.cell? _ ⟨w.heap.size, 1, none⟩ = some (.int .i64 0) := (blk_cell HE1.out 1).trans rfl
                try rw [Exit.noGoto_ret]
                refine bodyPost_ret (v := .tuple #[.int .i64 5, .int .i64 (nn + 128 * y), .agg #[.int .i64 0, .int .i64 0]]) (by simp [results, Try.results53, go_sem, e0, e1]) rfl ⟨by first | (rw [← HR3.out]; done) | (rw [← HR3.out]; rfl), ?_⟩
                exact Below.setCell (Below.setCell HB.out (Nat.le_refl _) _) (Nat.le_refl _) _
        · have HR2 := HR.out
          have e1 : one = 16384 := HONE.out
          subst e1
          clear HONE hi3 hi5
          rw [show 6 - 5 = 0 + 1 from rfl, hdx] at HR2
          by_cases h0 : l.length ≤ 5
          · rw [if_pos h0] at HR2
            have HR3 := Aside0.mk HR2
            have hl0 : n ≤ 5 := by have := HN.out; omega
            clear HR2 HR h0
            have HE0 := Aside0.mk ((blk_put HF.out 0 (.int .i64 0) rfl).trans rfl)
            have HE1 := Aside0.mk ((blk_put HE0.out 1 (.int .i64 0) rfl).trans rfl)
            have c0 := (blk_cell HF.out 0).trans rfl
            have c1 := (blk_cell HF.out 1).trans rfl
            have f0 := blk_frozen HF.out 0
            have f1 := blk_frozen HF.out 1
            go_wp2
            have e0 : World.cell? _ ⟨w.heap.size, 0, none⟩ = some (.int .i64 0) := (blk_cell HE0.out 0).trans rfl
            have e1 : World.cell? _ ⟨w.heap.size, 1, none⟩ = some (.int .i64 0) := (blk_cell HE1.out 1).trans rfl
            try rw [Exit.noGoto_ret]
            refine bodyPost_ret (v := .tuple #[.int .i64 0, .int .i64 0, .agg #[.int .i64 0, .int .i64 0]]) (by simp [results, Try.results53, go_sem, e0, e1]) rfl ⟨by first | (rw [← HR3.out]; done) | (rw [← HR3.out]; rfl), ?_⟩
            exact Below.setCell (Below.setCell HB.out (Nat.le_refl _) _) (Nat.le_refl _) _
          · rw [if_neg h0] at HR2
            obtain ⟨ad, e, hx0⟩ := Kd.at_int (Kd.C_below HC.out HB.out) 5 (by omega) (by have := HN.out; omega)
            cases e
            have hxb := HX.out (rd l 5) (rd_mem l 5 (by omega) (by omega))
            obtain ⟨x, hxx⟩ : ∃ x, rd l 5 = x := ⟨_, rfl⟩
            have hx1 : wr.cell? ⟨ad.block, ad.off + 5, none⟩ = some (.int .u8 x) := by rw [← hxx]; exact hx0
            have hl0 : 5 < n := by have := HN.out; omega
            rw [show rd l (5 : Nat) = x from hxx] at HR2
            rw [hxx] at hxb
            have hw : wrap64 x = x := IntWalk.wrap64_in _ (by omega)
            obtain ⟨y, hy⟩ : ∃ y, x % 128 = y := ⟨_, rfl⟩
            have hy0 : 0 ≤ y := by omega
            have hy1 : y < 128 := by omega
            have hyx : x < 128 → y = x := by omega
            have ht : x.tmod 128 = y := by rw [← hy]; exact Int.tmod_eq_emod_of_nonneg hxb.1
            have hm : wrap64 (y * 16384) = y * 16384 := IntWalk.wrap64_in _ (by omega)
            have hor := or_part nn y 16384 14 (by omega) (by decide) hn0 hn1 hy0 hy1
            rw [hy] at HR2
            clear h0 hx0 HR hxx hy
            by_cases hq : 128 ≤ x
            · rw [if_pos hq] at HR2
              have HR3 := Aside0.mk HR2
              clear HR2
              have HE0 := Aside0.mk ((blk_put HF.out 0 (.int .i64 12) rfl).trans rfl)
              have HE1 := Aside0.mk ((blk_put HE0.out 1 (.int .i64 5) rfl).trans rfl)
              have c0 := (blk_cell HF.out 0).trans rfl
              have c1 := (blk_cell HF.out 1).trans rfl
              have f0 := blk_frozen HF.out 0
              have f1 := blk_frozen HF.out 1
              go_wp2
              have e0 : World.cell? _ ⟨w.heap.size, 0, none⟩ = some (.int .i64 12) := (blk_cell HE0.out 0).trans rfl
              have e1 : World.cell? _ ⟨w.heap.size, 1, none⟩ = some (.int .i64 5) := (blk_cell HE1.out 1).trans rfl
              try rw [Exit.noGoto_ret]
              refine bodyPost_ret (v := .tuple #[.int .i64 0, .int .i64 0, .agg #[.int .i64 12, .int .i64 5]]) (by simp [results, Try.results53, go_sem, e0, e1]) rfl ⟨by first | (rw [← HR3.out]; done) | (rw [← HR3.out]; rfl), ?_⟩
              exact Below.setCell (Below.setCell HB.out (Nat.le_refl _) _) (Nat.le_refl _) _
            · rw [if_neg hq] at HR2
              have hq2 : x < 128 := by omega
              clear hq
              by_cases hz : x = 0
              · rw [if_pos ⟨hz, by decide⟩] at HR2
                have HR3 := Aside0.mk HR2
                have hzb : (x == 0) = true := beq_iff_eq.mpr hz
                clear HR2 hz hyx
                have HE0 := Aside0.mk ((blk_put HF.out 0 (.int .i64 21) rfl).trans rfl)
                have HE1 := Aside0.mk ((blk_put HE0.out 1 (.int .i64 5) rfl).trans rfl)
                have c0 := (blk_cell HF.out 0).trans rfl
                have c1 := (blk_cell HF.out 1).trans rfl
                have f0 := blk_frozen HF.out 0
                have f1 := blk_frozen HF.out 1
                go_wp2
                have e0 : World.cell? _ ⟨w.heap.size, 0, none⟩ = some (.int .i64 21) := (blk_cell HE0.out 0).trans rfl
                have e1 : World.cell? _ ⟨w.heap.size, 1, none⟩ = some (.int .i64 5) := (blk_cell HE1.out 1).trans rfl
                try rw [Exit.noGoto_ret]
                refine bodyPost_ret (v := .tuple #[.int .i64 0, .int .i64 0, .agg #[.int .i64 21, .int .i64 5]]) (by simp [results, Try.results53, go_sem, e0, e1]) rfl ⟨by first | (rw [← HR3.out]; done) | (rw [← HR3.out]; rfl), ?_⟩
                exact Below.setCell (Below.setCell HB.out (Nat.le_refl _) _) (Nat.le_refl _) _
              · rw [if_neg (fun h => hz h.1)] at HR2
                have hzb : (x == 0) = false := beq_eq_false_iff_ne.mpr hz
                clear hz hyx
                by_cases hL : 1048576 < nn + 16384 * y
                · rw [if_pos hL] at HR2
                  have HR3 := Aside0.mk HR2
                  clear HR2
                  have HE0 := Aside0.mk ((blk_put HF.out 0 (.int .i64 12) rfl).trans rfl)
                  have HE1 := Aside0.mk ((blk_put HE0.out 1 (.int .i64 5) rfl).trans rfl)
                  have c0 := (blk_cell HF.out 0).trans rfl
                  have c1 := (blk_cell HF.out 1).trans rfl
                  have f0 := blk_frozen HF.out 0
                  have f1 := blk_frozen HF.out 1
                  (go_wp2)
                  have e0 : World.cell? _ ⟨w.heap.size, 0, none⟩ = some (.int .i64 12) := (blk_cell HE0.out 0).trans rfl
                  have e1 : World.cell? _ ⟨w.heap.size, 1, none⟩ = some (.int .i64 5) := (blk_cell HE1.out 1).trans rfl
                  try rw [Exit.noGoto_ret]
                  refine bodyPost_ret (v := .tuple #[.int .i64 0, .int .i64 0, .agg #[.int .i64 12, .int .i64 5]]) (by simp [results, Try.results53, go_sem, e0, e1]) rfl ⟨by first | (rw [← HR3.out]; done) | (rw [← HR3.out]; rfl), ?_⟩
                  exact Below.setCell (Below.setCell HB.out (Nat.le_refl _) _) (Nat.le_refl _) _
                · rw [if_neg hL] at HR2
                  have HR3 := Aside0.mk HR2
                  clear HR2
                  have HE0 := Aside0.mk ((blk_put HF.out 0 (.int .i64 0) rfl).trans rfl)
                  have HE1 := Aside0.mk ((blk_put HE0.out 1 (.int .i64 0) rfl).trans rfl)
                  have c0 := (blk_cell HF.out 0).trans rfl
                  have c1 := (blk_cell HF.out 1).trans rfl
                  have f0 := blk_frozen HF.out 0
                  have f1 := blk_frozen HF.out 1
                  (go_wp2)
                  have e0 : World.cell? _ ⟨w.heap.size, 0, none⟩ = some (.int .i64 0) := (blk_cell HE0.out 0).trans rfl
                  have e1 : World.cell? _ ⟨w.heap.size, 1, none⟩ = some (.int .i64 0) := (blk_cell HE1.out 1).trans rfl
                  try rw [Exit.noGoto_ret]
                  refine bodyPost_ret (v := .tuple #[.int .i64 6, .int .i64 (nn + 16384 * y), .agg #[.int .i64 0, .int .i64 0]]) (by simp [results, Try.results53, go_sem, e0, e1]) rfl ⟨by first | (rw [← HR3.out]; done) | (rw [← HR3.out]; rfl), ?_⟩
                  exact Below.setCell (Below.setCell HB.out (Nat.le_refl _) _) (Nat.le_refl _) _
end Go.Proofs.Ytmbfjaogimkncaa
