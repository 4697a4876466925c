/- The document's Cur: Fail, Take; and the document's Number; no condition. -/
import Derived.Test.YtmbfjaogimkncaaRefDict
import Derived.Test.YtmbfjaogimkncaaPlExact
import Derived.Test.YtmbfjaogimkncaaClsR
namespace Go.Proofs.Ytmbfjaogimkncaa
open Go.RowKit Go.Proofs.YtmbfjaogimkncaaW.PrintWords Go.Proofs.YtmbfjaogimkncaaW.PrintLast Go.Proofs.YtmbfjaogimkncaaW.PrintMore
set_option linter.unusedVariables false
set_option linter.unusedSimpArgs false
theorem C_belowB {k : IntKind} {w w' : World} {A : Option Addr} {n B : Nat} {xs : List Int} (h : (Kd.int k).C w A n xs) (hA : ∀ ad, A = some ad → 0 < n → ad.block < B) (hb : Below B w w') : (Kd.int k).C w' A n xs := by
  obtain ⟨h1, h2, h3⟩ := h
  refine ⟨h1, h2, fun hn => ?_⟩
  obtain ⟨ad, e, hc⟩ := h3 hn
  refine ⟨ad, e, fun j p hj => ?_⟩
  obtain ⟨cs, hl, hK, hcs⟩ := hc j p hj
  refine ⟨cs, hl, hK, fun i u hi => ?_⟩
  have h4 := hcs i u hi
  rw [Below.cell (p := ad.add (j * (Kd.int k).sz + i)) hb (by rw [add_block]; exact hA ad e hn)]
  exact h4
/-- The document's Cur at block g: its bytes lie below B. -/
structure RCuAt (B g : Nat) (s : Cu) (w : World) : Prop where
  blk : w.heap[g]? = some (.cells #[.slice s.A s.b.length s.c, .int .i64 s.pos, .int .i64 s.code, .int .i64 s.fat] 71 (0, 0))
  read : (Kd.int .u8).C w s.A s.b.length s.b
  low : ∀ ad, s.A = some ad → 0 < s.b.length → ad.block < B
  up : B ≤ g
  cap : s.b.length ≤ s.c
  le : s.pos ≤ s.b.length
  big : s.b.length ≤ 140737488355328
  bytes : ∀ x ∈ s.b, 0 ≤ x ∧ x < 256
section
variable {B g : Nat} {s s' : Cu} {w w' : World} {S : Nat → Prop}
theorem Chg.belowB (hc : Chg S w w') (hs : ∀ k, S k → B ≤ k) (hB : B ≤ w.heap.size) : Below B w w' := hc.to_below hs hB
theorem RCuAt.step (h : RCuAt B g s w) (hc : Chg S w w') (hs : ∀ k, S k → B ≤ k) (hg : ¬ S g) : RCuAt B g s w' where
  blk := (hc.block _ (blk_lt h.blk) hg).trans h.blk
  read := C_belowB h.read h.low (hc.belowB hs (Nat.le_trans h.up (Nat.le_of_lt (blk_lt h.blk))))
  low := h.low
  up := h.up
  cap := h.cap
  le := h.le
  big := h.big
  bytes := h.bytes
theorem RCuAt.below (h : RCuAt B g s w) (hb : Below w.heap.size w w') : RCuAt B g s w' := h.step (Chg.of_below hb (fun _ => False)) (fun _ h => h.elim) (fun h => h)
theorem RCuAt.drewN (h : RCuAt B g s w) (n : Nat) : RCuAt B g s (w.drewN n) := h.below (pw_below_drewN (Below.refl _ _) n)
theorem RCuAt.drew (h : RCuAt B g s w) : RCuAt B g s w.drew := h.below (below_drew1 (Below.refl _ _))
theorem RCuAt.alloc (h : RCuAt B g s w) (o : Obj) : RCuAt B g s (w.alloc o) := h.below (below_alloc (Below.refl _ _) o)
theorem RCuAt.lt (h : RCuAt B g s w) : g < w.heap.size := blk_lt h.blk
/-- A cell of the Cur itself is written. -/
theorem RCuAt.put (h : RCuAt B g s w) (hg : w'.heap[g]? = some (.cells #[.slice s'.A s'.b.length s'.c, .int .i64 s'.pos, .int .i64 s'.code, .int .i64 s'.fat] 71 (0, 0)))
    (hc : Chg (fun k => k = g) w w') (hA : s'.A = s.A) (hcc : s'.c = s.c) (hb : s'.b = s.b) (hp : s'.pos ≤ s'.b.length) : RCuAt B g s' w' where
  blk := hg
  read := by rw [hA, hb]; exact C_belowB h.read h.low (hc.belowB (fun k hk => by rw [hk]; exact h.up) (Nat.le_trans h.up (Nat.le_of_lt (blk_lt h.blk))))
  low := by rw [hA, hb]; exact h.low
  up := h.up
  cap := by rw [hb, hcc]; exact h.cap
  le := hp
  big := by rw [hb]; exact h.big
  bytes := by rw [hb]; exact h.bytes
end
set_option maxHeartbeats 2000000 in
set_option maxRecDepth 100000 in
theorem rfail_calls {B : Nat} (g : Nat) (s : Cu) (code fat : Int) (w : World) (h : RCuAt B g s w) (hs : s.sane) : Calls Try.prog 64 #[.pointer (some ⟨g, 0, none⟩), .int .i64 code, .int .i64 fat] w fun e w' => e = .returned (.tuple #[]) ∧ RCuAt B g (s.fail code fat) w' ∧ Chg (fun k => k = g) w w' := by
  have H := Aside0.mk h
  have c2 := (blk_cell h.blk 2).trans rfl
  have c3 := (blk_cell h.blk 3).trans rfl
  have f2 := blk_frozen h.blk 2
  have f3 := blk_frozen h.blk 3
  clear h
  rcases hs.cases with ⟨h1, h2, h3⟩ | ⟨h1, h2⟩
  · by_cases hc0 : code = 0
    · have e1 : s.fail code fat = s := by unfold Cu.fail; rw [if_neg (fun h => h.2 hc0)]
      rw [e1]
      have hcb : (code != 0) = false := by simp [hc0]
      have hsb : (s.code == 0) = true := by simp [h2]
      clear e1 h1 h3 hs h2 hc0
      go_enter Try.func64, Try.ntmps64
      go_wp2
      go_end0
      exact ⟨rfl, H.out, Chg.refl _ _⟩
    · have e1 : s.fail code fat = { s with code := code, fat := fat } := if_pos ⟨h1, hc0⟩
      rw [e1]
      have hcb : (code != 0) = true := bne_iff_ne.mpr hc0
      have hsb : (s.code == 0) = true := by simp [h2]
      clear e1 h1 h3 hs h2 hc0
      go_enter Try.func64, Try.ntmps64
      go_wp2
      go_end0
      have HCh := ((Chg.refl (fun k => k = g) w).set1 2 (.int .i64 code)).set1 3 (.int .i64 fat)
      exact ⟨rfl, H.out.put (blk_put (blk_put H.out.blk 2 _ rfl) 3 _ rfl) HCh rfl rfl rfl H.out.le, HCh⟩
  · have e1 : s.fail code fat = s := by unfold Cu.fail; rw [if_neg (fun h => by rw [h1] at h; cases h.1)]
    rw [e1]
    have hsb : (s.code == 0) = false := beq_eq_false_iff_ne.mpr h2
    clear e1 h1 hs h2
    go_enter Try.func64, Try.ntmps64
    go_wp2
    go_end0
    exact ⟨rfl, H.out, Chg.refl _ _⟩
theorem vrd_wrong : ∀ (l : List Int) (i n : Nat), (vrd l i n).2.2 ≠ 0 → (vrd l i n).1 = 0
  | [], i, n, _ => rfl
  | b :: t, i, n, h => by
    unfold vrd at h ⊢
    split
    · rfl
    · rename_i h9
      rw [if_neg h9] at h
      split
      · rename_i h128
        rw [if_pos h128] at h
        split
        · rfl
        · rename_i hz
          rw [if_neg hz] at h
          exact absurd rfl h
      · rename_i h128
        rw [if_neg h128] at h
        exact vrd_wrong t (i + 1) _ h
theorem vrd_short : ∀ (l : List Int) (i n : Nat), (vrd l i n).2.2 = 13 → (vrd l i n).2.1 = i + l.length
  | [], i, n, _ => rfl
  | b :: t, i, n, h => by
    unfold vrd at h ⊢
    split
    · rename_i h9
      rw [if_pos h9] at h
      exact absurd h (show ¬ (10 : Int) = 13 by decide)
    · rename_i h9
      rw [if_neg h9] at h
      split
      · rename_i h128
        rw [if_pos h128] at h
        split
        · rename_i hz
          rw [if_pos hz] at h
          exact absurd h (show ¬ (21 : Int) = 13 by decide)
        · rename_i hz
          rw [if_neg hz] at h
          exact absurd h (show ¬ (0 : Int) = 13 by decide)
      · rename_i h128
        rw [if_neg h128] at h
        rw [vrd_short t (i + 1) _ h, List.length_cons]
        omega
theorem vrd_asked : ∀ (l : List Int) (i n : Nat), (vrd l i n).2.1 ≤ i + l.length
  | [], i, n => by unfold vrd; simp
  | b :: t, i, n => by
    unfold vrd
    rw [List.length_cons]
    split
    · show i + 1 ≤ _; omega
    · split
      · split
        · show i + 1 ≤ _; omega
        · show i + 1 ≤ _; omega
      · have := vrd_asked t (i + 1) (n + b.toNat % 128 * 128 ^ i)
        omega
theorem vread_fin {s : Cu} (hs : s.fine = true) {n k : Nat} {er : Int} (hv : vrd (s.b.drop s.pos) 0 0 = (n, k, er)) (hle : s.pos ≤ s.b.length) :
    (er = 0 ∧ s.vread = (n, s.adv k)) ∨ (er = 13 ∧ n = 0 ∧ s.vread = (0, (s.adv k).fail 13 s.b.length)) ∨ (er ≠ 0 ∧ er ≠ 13 ∧ n = 0 ∧ s.vread = (0, (s.adv k).fail er ((s.pos : Int) + k - 1))) := by
  unfold Cu.vread
  rw [if_neg (by rw [hs]; decide), hv]
  simp only
  by_cases h0 : er = 0
  · left
    exact ⟨h0, if_pos h0⟩
  · right
    have hn : n = 0 := by
      have := vrd_wrong (s.b.drop s.pos) 0 0 (by rw [hv]; exact h0)
      rw [hv] at this
      exact this
    rw [if_neg h0]
    by_cases h13 : er = 13
    · left
      have hk := vrd_short (s.b.drop s.pos) 0 0 (by rw [hv]; exact h13)
      rw [hv, List.length_drop] at hk
      simp only at hk
      exact ⟨h13, hn, by rw [if_pos h13, show s.b.length - s.pos = k by omega]⟩
    · right
      exact ⟨h0, h13, hn, by rw [if_neg h13]⟩
set_option maxHeartbeats 4000000 in
set_option maxRecDepth 100000 in
theorem number_calls {B : Nat} (g : Nat) (s : Cu) (w : World) (h : RCuAt B g s w) (hs : s.sane) : Calls Try.prog 65 #[.pointer (some ⟨g, 0, none⟩)] w fun e w' => e = .returned (.int .u64 (s.vread.1 : Nat)) ∧ RCuAt B g s.vread.2 w' ∧ Chg (fun k => k = g) w w' := by
  have H := Aside0.mk h
  have c0 := (blk_cell h.blk 0).trans rfl
  have c1 := (blk_cell h.blk 1).trans rfl
  have c2 := (blk_cell h.blk 2).trans rfl
  have f1 := blk_frozen h.blk 1
  have hcap := h.cap
  have hle := h.le
  have hbig := h.big
  clear h
  rcases hs.cases with ⟨h1, h2, h3⟩ | ⟨h1, h2⟩
  · have hsb : (s.code == 0) = true := by simp [h2]
    have hsb2 : (s.code != 0) = false := by simp [h2]
    obtain ⟨n, k, er, hv⟩ : ∃ n k er, vrd (s.b.drop s.pos) 0 0 = (n, k, er) := ⟨_, _, _, rfl⟩
    have hk := vrd_asked (s.b.drop s.pos) 0 0
    rw [hv, List.length_drop] at hk
    have hk2 : k ≤ s.b.length - s.pos := by simpa using hk
    have HC := vread_fin h1 hv hle
    have HF := Aside0.mk (show (s.adv k).fine = true from h1)
    have HV := Aside0.mk hv
    have HG := Aside0.mk (fun (W : World) (hb : Below w.heap.size w W) => refget_n (if s.c = s.pos then s.A else Option.map (fun x => x.add s.pos) s.A) (s.b.length - s.pos) (s.c - s.pos) (s.b.drop s.pos) W (Kd.C_below (C_from H.out.read s.pos s.c hle hcap) hb) (fun x hx => H.out.bytes x (List.mem_of_mem_drop hx)))
    rw [hv] at HG
    clear h1 h2 h3 hs hv hk
    go_enter Try.func65, Try.ntmps65
    go_wp2
    refine start_ (n := 17) (S := fun w' => w'.cell? ⟨g, 0, none⟩ = some (.slice s.A s.b.length s.c) ∧ w'.cell? ⟨g, 1, none⟩ = some (.int .i64 (s.pos : Int))) (ds := []) #[false, false, false, false, false, false, false, false, false, false, false, false, false, false, false, false, false] (by kernel_rfl) rfl rfl ⟨(blk_cell (blk_drew H.out.blk) 0).trans rfl, (blk_cell (blk_drew H.out.blk) 1).trans rfl⟩ (fun hHeld => ?_)
    refine pure_ (i := 0) (N := some 13) (v := ?_) (a' := ?_) #[true, false, false, false, false, false, false, false, false, false, false, false, false, false, false, false, false] rfl rfl (by kernel_rfl) (fun _ _ _ h => h) (Or.inl ⟨by rfl, ?_⟩) ?_ ?_
    rotate_left
    · intro w'
      go_simp
      with_reducible rfl
    rotate_left
    · simp only [Act.put, List.setIfInBounds_toArray, List.set_cons_zero, List.set_cons_succ, i64_w, i32_w]
      rfl
    refine pure_ (i := 1) (N := some 14) (v := ?_) (a' := ?_) #[true, true, false, false, false, false, false, false, false, false, false, false, false, false, false, false, false] rfl rfl (by kernel_rfl) (fun _ _ _ h => h) (Or.inl ⟨by rfl, ?_⟩) ?_ ?_
    rotate_left
    · intro w'
      go_simp
      with_reducible rfl
    rotate_left
    · simp only [Act.put, List.setIfInBounds_toArray, List.set_cons_zero, List.set_cons_succ, i64_w, i32_w]
      rfl
    refine pure_ (i := 2) (N := some 15) (v := ?_) (a' := ?_) #[true, true, true, false, false, false, false, false, false, false, false, false, false, false, false, false, false] rfl rfl (by kernel_rfl) (fun _ _ _ h => h) (Or.inl ⟨by rfl, ?_⟩) ?_ ?_
    rotate_left
    · intro w'
      go_simp
      with_reducible rfl
    rotate_left
    · simp only [Act.put, List.setIfInBounds_toArray, List.set_cons_zero, List.set_cons_succ, i64_w, i32_w]
      rfl
    refine pure_ (i := 4) (N := some 17) (v := ?_) (a' := ?_) #[true, true, true, false, true, false, false, false, false, false, false, false, false, false, false, false, false] rfl rfl (by kernel_rfl) (fun _ _ _ h => h) (Or.inl ⟨by rfl, ?_⟩) ?_ ?_
    rotate_left
    · intro w'
      go_simp
      with_reducible rfl
    rotate_left
    · simp only [Act.put, List.setIfInBounds_toArray, List.set_cons_zero, List.set_cons_succ, i64_w, i32_w]
      rfl
    refine pure_ (i := 5) (N := some 18) (v := ?_) (a' := ?_) #[true, true, true, false, true, true, false, false, false, false, false, false, false, false, false, false, false] rfl rfl (by kernel_rfl) (fun _ _ _ h => h) (Or.inl ⟨by rfl, ?_⟩) ?_ ?_
    rotate_left
    · intro w'
      go_simp
      with_reducible rfl
    rotate_left
    · simp only [Act.put, List.setIfInBounds_toArray, List.set_cons_zero, List.set_cons_succ, i64_w, i32_w]
      rfl
    refine pure_ (i := 6) (N := some 19) (v := ?_) (a' := ?_) #[true, true, true, false, true, true, true, false, false, false, false, false, false, false, false, false, false] rfl rfl (by kernel_rfl) (fun _ _ _ h => h) (Or.inl ⟨by rfl, ?_⟩) ?_ ?_
    rotate_left
    · intro w'
      go_simp
      with_reducible rfl
    rotate_left
    · simp only [Act.put, List.setIfInBounds_toArray, List.set_cons_zero, List.set_cons_succ, i64_w, i32_w]
      rfl
    refine take_ (i := 3) (N := some 16) (v := ?_) (a' := ?_) #[true, true, true, true, true, true, true, false, false, false, false, false, false, false, false, false, false] rfl rfl (by kernel_rfl) (fun _ _ _ h => h) (Or.inl ⟨by rfl, ?_⟩) hHeld ?_ ?_
    rotate_left
    · rintro w' ⟨s0, s1⟩
      go_simp
      with_reducible rfl
    rotate_left
    · simp only [Act.put, List.setIfInBounds_toArray, List.set_cons_zero, List.set_cons_succ, i64_w, i32_w]
      rfl
    refine take_ (i := 7) (N := some 20) (v := ?_) (a' := ?_) #[true, true, true, true, true, true, true, true, false, false, false, false, false, false, false, false, false] rfl rfl (by kernel_rfl) (fun _ _ _ h => h) (Or.inl ⟨by rfl, ?_⟩) hHeld ?_ ?_
    rotate_left
    · rintro w' ⟨s0, s1⟩
      go_simp
      with_reducible rfl
    rotate_left
    · simp only [Act.put, List.setIfInBounds_toArray, List.set_cons_zero, List.set_cons_succ, i64_w, i32_w]
      rfl
    refine pure_ (i := 8) (N := some 21) (v := ?_) (a' := ?_) #[true, true, true, true, true, true, true, true, true, false, false, false, false, false, false, false, false] rfl rfl (by kernel_rfl) (fun _ _ _ h => h) (Or.inl ⟨by rfl, ?_⟩) ?_ ?_
    rotate_left
    · intro w'
      go_simp
      with_reducible rfl
    rotate_left
    · simp only [Act.put, List.setIfInBounds_toArray, List.set_cons_zero, List.set_cons_succ, i64_w, i32_w]
      rfl
    refine one_ (i := 9) (N := some 22) #[true, true, true, true, true, true, true, true, true, true, false, false, false, false, false, false, false] rfl rfl (by kernel_rfl) (by decide) (fun K hK => ?_)
    refine goes_ Try.func84 (by kernel_rfl) rfl #[.slice (if s.c = s.pos then s.A else Option.map (fun x => x.add s.pos) s.A) (s.b.length - s.pos) (s.c - s.pos)] (by rfl) rfl rfl (by first | (simp only [List.map_toArray, List.map_cons, List.map_nil]; done) | (simp only [List.map_toArray, List.map_cons, List.map_nil]; rfl) | simp) ?_
    with_reducible refine (HG.out _ (below_drew1 (Below.refl _ _))).mono ?_
    rintro e w3 ⟨rfl, ⟨nd3, rfl⟩⟩
    refine ⟨_, rfl, ?_⟩
    refine hK.out _ _ ⟨(blk_cell (blk_drewN (blk_drew H.out.blk) nd3) 0).trans rfl, (blk_cell (blk_drewN (blk_drew H.out.blk) nd3) 1).trans rfl⟩ (fun hHeld => ?_)
    clear hK K
    refine norm_ (a' := ?_) ?_ ?_
    rotate_left
    · show Act.put _ (some 22) _ = _
      simp only [Act.put, List.setIfInBounds_toArray, List.set_cons_zero, List.set_cons_succ, i64_w, i32_w]
      rfl
    refine pure_ (i := 10) (N := some 12) (v := ?_) (a' := ?_) #[true, true, true, true, true, true, true, true, true, true, true, false, false, false, false, false, false] rfl rfl (by kernel_rfl) (fun _ _ _ h => h) (Or.inl ⟨by rfl, ?_⟩) ?_ ?_
    rotate_left
    · intro w'
      go_simp
      with_reducible rfl
    rotate_left
    · simp only [Act.put, List.setIfInBounds_toArray, List.set_cons_zero, List.set_cons_succ, i64_w, i32_w]
      rfl
    refine pure_ (i := 11) (N := some 23) (v := ?_) (a' := ?_) #[true, true, true, true, true, true, true, true, true, true, true, true, false, false, false, false, false] rfl rfl (by kernel_rfl) (fun _ _ _ h => h) (Or.inl ⟨by rfl, ?_⟩) ?_ ?_
    rotate_left
    · intro w'
      go_simp
      with_reducible rfl
    rotate_left
    · simp only [Act.put, List.setIfInBounds_toArray, List.set_cons_zero, List.set_cons_succ, i64_w, i32_w]
      rfl
    refine pure_ (i := 12) (N := some 24) (v := ?_) (a' := ?_) #[true, true, true, true, true, true, true, true, true, true, true, true, true, false, false, false, false] rfl rfl (by kernel_rfl) (fun _ _ _ h => h) (Or.inl ⟨by rfl, ?_⟩) ?_ ?_
    rotate_left
    · intro w'
      go_simp
      with_reducible rfl
    rotate_left
    · simp only [Act.put, List.setIfInBounds_toArray, List.set_cons_zero, List.set_cons_succ, i64_w, i32_w]
      rfl
    refine pure_ (i := 13) (N := some 25) (v := ?_) (a' := ?_) #[true, true, true, true, true, true, true, true, true, true, true, true, true, true, false, false, false] rfl rfl (by kernel_rfl) (fun _ _ _ h => h) (Or.inl ⟨by rfl, ?_⟩) ?_ ?_
    rotate_left
    · intro w'
      go_simp
      with_reducible rfl
    rotate_left
    · simp only [Act.put, List.setIfInBounds_toArray, List.set_cons_zero, List.set_cons_succ, i64_w, i32_w]
      rfl
    refine pure_ (i := 14) (N := some 3) (v := ?_) (a' := ?_) #[true, true, true, true, true, true, true, true, true, true, true, true, true, true, true, false, false] rfl rfl (by kernel_rfl) (fun _ _ _ h => h) (Or.inl ⟨by rfl, ?_⟩) ?_ ?_
    rotate_left
    · intro w'
      go_simp
      with_reducible rfl
    rotate_left
    · simp only [Act.put, List.setIfInBounds_toArray, List.set_cons_zero, List.set_cons_succ, i64_w, i32_w]
      rfl
    refine pure_ (i := 15) (N := some 4) (v := ?_) (a' := ?_) #[true, true, true, true, true, true, true, true, true, true, true, true, true, true, true, true, false] rfl rfl (by kernel_rfl) (fun _ _ _ h => h) (Or.inl ⟨by rfl, ?_⟩) ?_ ?_
    rotate_left
    · intro w'
      go_simp
      with_reducible rfl
    rotate_left
    · simp only [Act.put, List.setIfInBounds_toArray, List.set_cons_zero, List.set_cons_succ, i64_w, i32_w]
      rfl
    refine pure_ (i := 16) (N := some 5) (v := ?_) (a' := ?_) #[true, true, true, true, true, true, true, true, true, true, true, true, true, true, true, true, true] rfl rfl (by kernel_rfl) (fun _ _ _ h => h) (Or.inl ⟨by rfl, ?_⟩) ?_ ?_
    rotate_left
    · intro w'
      go_simp
      with_reducible rfl
    rotate_left
    · simp only [Act.put, List.setIfInBounds_toArray, List.set_cons_zero, List.set_cons_succ, i64_w, i32_w]
      rfl
    refine done_ (by kernel_rfl) ?_
    have HD := Aside0.mk (blk_drewN (blk_drew H.out.blk) nd3)
    have HCh0 := Aside0.mk (((Chg.refl (fun k => k = g) w).drew).drewN nd3)
    obtain ⟨wd, hwd⟩ : ∃ wd, w.drew.drewN nd3 = wd := ⟨_, rfl⟩
    rw [hwd] at HD HCh0
    have HRD := Aside0.mk (show RCuAt B g s wd from by rw [← hwd]; exact (H.out.drew).drewN nd3)
    have d0 := (blk_cell HD.out 0).trans rfl
    have d1 := (blk_cell HD.out 1).trans rfl
    have g1 := blk_frozen HD.out 1
    have hpk : (s.pos : Int) + (k : Int) ≤ 140737488355328 := by omega
    have HBP := Aside0.mk ((blk_put HD.out 1 (.int .i64 ((s.pos : Int) + (k : Int))) rfl).trans rfl)
    have HCh := Aside0.mk (HCh0.out.set1 1 (.int .i64 ((s.pos : Int) + (k : Int))))
    have HRP := Aside0.mk (show RCuAt B g (s.adv k) (wd.setCell ⟨g, 1, none⟩ (.int .i64 ((s.pos : Int) + (k : Int)))) from HRD.out.put (s' := s.adv k) HBP.out ((Chg.refl (fun k => k = g) wd).set1 1 _) rfl rfl rfl (by show s.pos + k ≤ s.b.length; omega))
    have e0 := (blk_cell HBP.out 0).trans rfl
    have e1 := (blk_cell HBP.out 1).trans rfl
    clear c0 c1 c2 f1 hHeld
    try clear hHeld
    rcases HC with ⟨rfl, hv⟩ | ⟨rfl, rfl, hv⟩ | ⟨he0, he13, rfl, hv⟩
    · have HV2 := Aside0.mk hv
      clear hv
      go_wp2
      all_goals
        go_ret
        rw [HV2.out]
        exact ⟨rfl, HRP.out, HCh.out⟩
    · have HV2 := Aside0.mk hv
      have HFL := Aside0.mk (fun W (h : RCuAt B g (s.adv k) W) => rfail_calls g (s.adv k) 13 (s.b.length : Int) W h (Or.inl HF.out))
      clear hv
      go_wp2_with fail
      all_goals
        with_reducible refine (HFL.out _ HRP.out).mono ?_
        rintro e w8 ⟨rfl, hr8, hc8⟩
        have HR8 := Aside0.mk hr8
        have HC8 := Aside0.mk hc8
        clear hr8 hc8
        go_wp2
        go_ret
        rw [HV2.out]
        exact ⟨rfl, HR8.out, HCh.out.trans HC8.out (fun _ h => .inl h)⟩
    · have HV2 := Aside0.mk hv
      have b0 : (er == 13) = false := beq_eq_false_iff_ne.mpr he13
      have b1 : (er != 0) = true := bne_iff_ne.mpr he0
      have HFL := Aside0.mk (fun W (h : RCuAt B g (s.adv k) W) => rfail_calls g (s.adv k) er ((s.pos : Int) + (k : Int) - 1) W h (Or.inl HF.out))
      clear hv he0 he13
      go_wp2_with fail
      all_goals
        with_reducible refine (HFL.out _ HRP.out).mono ?_
        rintro e w8 ⟨rfl, hr8, hc8⟩
        have HR8 := Aside0.mk hr8
        have HC8 := Aside0.mk hc8
        clear hr8 hc8
        go_wp2
        go_ret
        rw [HV2.out]
        exact ⟨rfl, HR8.out, HCh.out.trans HC8.out (fun _ h => .inl h)⟩
  · have HE := Aside0.mk (show s.vread = (0, s) by unfold Cu.vread; rw [if_pos h1])
    have hsb : (s.code == 0) = false := beq_eq_false_iff_ne.mpr h2
    have hsb2 : (s.code != 0) = true := bne_iff_ne.mpr h2
    clear h1 h2 hs
    go_enter Try.func65, Try.ntmps65
    go_wp2
    go_ret
    rw [HE.out]
    exact ⟨rfl, H.out, Chg.refl _ _⟩
/-- One byte appended to a row of bytes, in a region. -/
theorem R_app_u8_step {P : Program} {ops : Array Oper} {o : Oper} {a : Act} {Q : Exit → Act → World → Prop} {Kc : Act → World → Prop} {W : World} {s x : Operand} {t e : TypeId} {v : Value} {xs : List Int} {p : Int} {base : Nat} (hw : Region.wanted o (yielded ops a.tmps) = true)
    (ho : o.op = .call { callee := .builtin .append, args := #[s, x], argTypes := #[t, t] }) (hs : a.eval s = v) (hx : a.eval x = .slice (some ⟨W.heap.size, 0, none⟩) 1 1)
    (ht : P.underlying t = some (.slice e)) (hinfo : (P.info? e).map (fun i => (i.zero, i.size, i.bytes)) = some (some (.int .u8 0), 1, 1))
    (HO : (Kd.int .u8).R e W base (fun _ => True) v xs) (hbase : base ≤ W.heap.size) (hl : xs.length < 140737488355328)
    (h : ∀ v1 w1, (Kd.int .u8).R e w1 base (fun _ => True) v1 (xs ++ [p]) → W.grownBy w1 v.ownBlock → Kc (a.put o.dst v1) w1) :
    if Region.wanted o (yielded ops a.tmps) = true then Oper.wp P o a (W.alloc (.cells #[.int .u8 p] e)) Kc Q else Kc (a.put o.dst undef) (W.alloc (.cells #[.int .u8 p] e)) := by
  refine Kd.R_append_step (Kd.int .u8) (w0 := W) base hw s x t e (.int .u8 0) 1 ho ht hinfo rfl (by decide) (by omega) v xs p [.int .u8 p] (fun _ => True) (fun _ => False) hs hx rfl (fun _ hk => hk.elim) (fun _ _ => trivial) HO ((Below.refl _ _).mono hbase) hbase (by omega) ?_
  intro v1 w1 ho hb hg _
  exact h v1 w1 ho hg
theorem own_grown {w0 W w1 : World} {e : Nat} {ok : Nat → Prop} {v : Value} {xs : List Int} (hR : (Kd.int .u8).R e W w0.heap.size ok v xs) (hg : W.drew.grownBy w1 v.ownBlock) (hsz : w0.heap.size ≤ W.heap.size) : (∀ k, k < w0.heap.size → some k ≠ v.ownBlock) ∧ Below w0.heap.size W w1 := by
  have h1 : ∀ k, k < w0.heap.size → some k ≠ v.ownBlock := fun k hk h => by
    have := Kd.R_base hR k h.symm
    omega
  refine ⟨h1, ⟨hg.os, hg.tape, hg.output, hg.size, fun k hk => ?_⟩⟩
  exact hg.block k (Nat.lt_of_lt_of_le hk hsz) (h1 k hk)
theorem Chg.ext_below {S : Nat → Prop} {w W W' : World} (h : Chg S w W) (hb : Below w.heap.size W W') : Chg S w W' :=
  ⟨hb.os.trans h.os, hb.tape.trans h.tape, hb.output.trans h.output, Nat.le_trans h.size hb.size, fun k hk hn => (hb.block k hk).trans (h.block k hk hn)⟩
theorem take_pos {s : Cu} (hs : s.fine = true) {n : Nat} (hn : n ≤ s.b.length - s.pos) (hle : s.pos ≤ s.b.length) : s.takeL n = (s.b.drop s.pos).take n ∧ s.take n = s.adv n := by
  unfold Cu.takeL Cu.take
  rw [if_neg (by
    rintro (h | h | h)
    · rw [hs] at h; cases h
    · omega
    · omega), if_neg (by rw [hs]; decide), if_neg (by omega), if_neg (by omega), Int.toNat_natCast]
  exact ⟨rfl, rfl⟩
theorem take_over {s : Cu} (hs : s.fine = true) {n : Nat} (hn : ¬ n ≤ s.b.length - s.pos) (hle : s.pos ≤ s.b.length) : s.takeL n = [] ∧ s.take n = s.fail 13 s.b.length := by
  unfold Cu.takeL Cu.take
  rw [if_pos (.inr (.inr (by omega))), if_neg (by rw [hs]; decide), if_neg (by omega), if_pos (by omega)]
  exact ⟨rfl, rfl⟩
theorem take_more {s : Cu} {j : Nat} (h : s.pos + j < s.b.length) : (s.b.drop s.pos).take (j + 1) = (s.b.drop s.pos).take j ++ [rd s.b ((s.pos + j : Nat) : Int)] := by
  have hl : j < (s.b.drop s.pos).length := by rw [List.length_drop]; omega
  rw [List.take_succ_eq_append_getElem hl, List.getElem_drop]
  unfold rd
  rw [Int.toNat_natCast, List.getD_eq_getElem?_getD, List.getElem?_eq_getElem h]
  rfl
set_option maxHeartbeats 4000000 in
set_option maxRecDepth 100000 in
theorem rtake_calls {B : Nat} (g : Nat) (s : Cu) (n : Nat) (hn : n ≤ 200) (w : World) (h : RCuAt B g s w) (hs : s.fine = true) : Calls Try.prog 67 #[.pointer (some ⟨g, 0, none⟩), .int .i64 n] w fun e w' => ∃ v, e = .returned v ∧ (Kd.int .u8).R 5 w' w.heap.size (fun _ => True) v (s.takeL n) ∧ RCuAt B g (s.take n) w' ∧ Chg (fun k => k = g) w w' := by
  have H := Aside0.mk h
  have hcap := h.cap
  have hle := h.le
  have hbig := h.big
  have hlt := h.lt
  have hsc : s.code = 0 := by unfold Cu.fine at hs; simp at hs; exact hs.1
  have hsb2 : (s.code != 0) = false := by simp [hsc]
  have HF := Aside0.mk hs
  have H1 := Aside0.mk (h.alloc (.cells #[] 5))
  have c0 := (blk_cell H1.out.blk 0).trans rfl
  have c1 := (blk_cell H1.out.blk 1).trans rfl
  have c2 := (blk_cell H1.out.blk 2).trans rfl
  clear h
  by_cases hroom : n ≤ s.b.length - s.pos
  · obtain ⟨ht1, ht2⟩ := take_pos hs hroom hle
    rw [ht1, ht2]
    have hgt : ¬ (s.b.length : Int) - (s.pos : Int) < (n : Int) := by omega
    have hr0 : ¬ (n : Int) < 0 := by omega
    clear ht1 ht2 hs hsc
    go_enter Try.func67, Try.ntmps67
    go_wp2
    repeat (go_quiet (fail); try go_wp2)
    have HR0 := Aside0.mk (Kd.R_drewN (R_lit_u8 (w := w) (base := w.heap.size) 5 (Nat.le_refl _) [] (by simp)) nq)
    have HC0 := Aside0.mk (((Chg.refl (fun k => k = g) w).alloc (.cells #[] 5)).drewN nq)
    have HD0 := Aside0.mk (H1.out.drewN nq)
    clear c0 c1 c2
    go_loopw [5, 6] (fun v5 v6 w' => ∃ j : Nat, v6 = .int .i64 j ∧ j ≤ n ∧ Aside0 (RCuAt B g (s.adv j) w') ∧ Aside0 ((Kd.int .u8).R 5 w' w.heap.size (fun _ => True) v5 ((s.b.drop s.pos).take j)) ∧ Aside0 (Chg (fun k => k = g) w w')) (fun _ v6 _ => n - (intOf v6).toNat)
    case atStart => exact ⟨0, rfl, by omega, HD0, HR0, HC0⟩
    case round =>
      clear HD0 HR0 HC0
      obtain ⟨j, rfl, hj, HD, HR, HCh⟩ := hrel
      by_cases hjn : j < n
      · obtain ⟨q, hq⟩ : ∃ q, q = s.pos + j := ⟨_, rfl⟩
        have hql : q < s.b.length := by omega
        obtain ⟨ad, e, hx⟩ := Kd.at_int HD.out.read (q : Int) (by omega) (by show (q : Int) < (s.b.length : Int); omega)
        have hx2 : wr.cell? (ad.add q) = some (.int .u8 (rd s.b (q : Int))) := by
          rw [Int.toNat_natCast] at hx
          exact hx
        have hlow := HD.out.low ad e (by show 0 < s.b.length; omega)
        have hb : wr.heap[g]? = some (.cells #[.slice (some ad) s.b.length s.c, .int .i64 (q : Nat), .int .i64 s.code, .int .i64 s.fat] 71 (0, 0)) := by
          have h := HD.out.blk
          rw [e] at h
          rw [hq]
          exact h
        have hup := HD.out.up
        have HBK := Aside0.mk hb
        have HX := Aside0.mk hx2
        have HQ := Aside0.mk hq
        have HTM := Aside0.mk (take_more (s := s) (j := j) (by omega))
        rw [← hq] at HTM
        have HLT := Aside0.mk (show ((s.b.drop s.pos).take j).length < 140737488355328 by have := List.length_take_le j (s.b.drop s.pos); omega)
        obtain ⟨x, hxx⟩ : ∃ x, rd s.b (q : Int) = x := ⟨_, rfl⟩
        rw [hxx] at HX HTM
        clear hx hx2 hb hq hxx e
        have hq0 : 0 ≤ (q : Int) := by omega
        have hq1 : (q : Int) < (s.b.length : Int) := by omega
        have hqn : ((q : Int)).toNat = q := Int.toNat_natCast q
        have hwz : w.heap.size ≤ wr.heap.size := HCh.out.size
        go_wp2
        refine start_ (n := 14) (S := fun w' => w'.cell? ⟨g, 0, none⟩ = some (.slice (some ad) s.b.length s.c) ∧ w'.cell? ⟨g, 1, none⟩ = some (.int .i64 (q : Int)) ∧ w'.cell? (ad.add q) = some (.int .u8 x)) (ds := []) #[false, false, false, false, false, false, false, false, false, false, false, false, false, false] (by kernel_rfl) rfl rfl ⟨(blk_cell (blk_drew HBK.out) 0).trans rfl, (blk_cell (blk_drew HBK.out) 1).trans rfl, pw_cell_below (below_drew1 (Below.refl _ _)) HX.out⟩ (fun hHeld => ?_)
        refine pure_ (i := 0) (N := some 49) (v := ?_) (a' := ?_) #[true, false, false, false, false, false, false, false, false, false, false, false, false, false] rfl rfl (by kernel_rfl) (fun _ _ _ h => h) (Or.inl ⟨by rfl, ?_⟩) ?_ ?_
        rotate_left
        · intro w'
          go_simp
          with_reducible rfl
        rotate_left
        · simp only [Act.put, List.setIfInBounds_toArray, List.set_cons_zero, List.set_cons_succ, i64_w, i32_w]
          rfl
        refine pure_ (i := 1) (N := some 50) (v := ?_) (a' := ?_) #[true, true, false, false, false, false, false, false, false, false, false, false, false, false] rfl rfl (by kernel_rfl) (fun _ _ _ h => h) (Or.inl ⟨by rfl, ?_⟩) ?_ ?_
        rotate_left
        · intro w'
          go_simp
          with_reducible rfl
        rotate_left
        · simp only [Act.put, List.setIfInBounds_toArray, List.set_cons_zero, List.set_cons_succ, i64_w, i32_w]
          rfl
        refine pure_ (i := 2) (N := some 51) (v := ?_) (a' := ?_) #[true, true, true, false, false, false, false, false, false, false, false, false, false, false] rfl rfl (by kernel_rfl) (fun _ _ _ h => h) (Or.inl ⟨by rfl, ?_⟩) ?_ ?_
        rotate_left
        · intro w'
          go_simp
          with_reducible rfl
        rotate_left
        · simp only [Act.put, List.setIfInBounds_toArray, List.set_cons_zero, List.set_cons_succ, i64_w, i32_w]
          rfl
        refine pure_ (i := 3) (N := some 52) (v := ?_) (a' := ?_) #[true, true, true, true, false, false, false, false, false, false, false, false, false, false] rfl rfl (by kernel_rfl) (fun _ _ _ h => h) (Or.inl ⟨by rfl, ?_⟩) ?_ ?_
        rotate_left
        · intro w'
          go_simp
          with_reducible rfl
        rotate_left
        · simp only [Act.put, List.setIfInBounds_toArray, List.set_cons_zero, List.set_cons_succ, i64_w, i32_w]
          rfl
        refine pure_ (i := 5) (N := some 54) (v := ?_) (a' := ?_) #[true, true, true, true, false, true, false, false, false, false, false, false, false, false] rfl rfl (by kernel_rfl) (fun _ _ _ h => h) (Or.inl ⟨by rfl, ?_⟩) ?_ ?_
        rotate_left
        · intro w'
          go_simp
          with_reducible rfl
        rotate_left
        · simp only [Act.put, List.setIfInBounds_toArray, List.set_cons_zero, List.set_cons_succ, i64_w, i32_w]
          rfl
        refine pure_ (i := 6) (N := some 55) (v := ?_) (a' := ?_) #[true, true, true, true, false, true, true, false, false, false, false, false, false, false] rfl rfl (by kernel_rfl) (fun _ _ _ h => h) (Or.inl ⟨by rfl, ?_⟩) ?_ ?_
        rotate_left
        · intro w'
          go_simp
          with_reducible rfl
        rotate_left
        · simp only [Act.put, List.setIfInBounds_toArray, List.set_cons_zero, List.set_cons_succ, i64_w, i32_w]
          rfl
        refine pure_ (i := 7) (N := some 56) (v := ?_) (a' := ?_) #[true, true, true, true, false, true, true, true, false, false, false, false, false, false] rfl rfl (by kernel_rfl) (fun _ _ _ h => h) (Or.inl ⟨by rfl, ?_⟩) ?_ ?_
        rotate_left
        · intro w'
          go_simp
          with_reducible rfl
        rotate_left
        · simp only [Act.put, List.setIfInBounds_toArray, List.set_cons_zero, List.set_cons_succ, i64_w, i32_w]
          rfl
        refine take_ (i := 4) (N := some 53) (v := ?_) (a' := ?_) #[true, true, true, true, true, true, true, true, false, false, false, false, false, false] rfl rfl (by kernel_rfl) (fun _ _ _ h => h) (Or.inl ⟨by rfl, ?_⟩) hHeld ?_ ?_
        rotate_left
        · rintro w' ⟨s0, s1, s2⟩
          go_simp
          with_reducible rfl
        rotate_left
        · simp only [Act.put, List.setIfInBounds_toArray, List.set_cons_zero, List.set_cons_succ, i64_w, i32_w]
          rfl
        refine take_ (i := 8) (N := some 57) (v := ?_) (a' := ?_) #[true, true, true, true, true, true, true, true, true, false, false, false, false, false] rfl rfl (by kernel_rfl) (fun _ _ _ h => h) (Or.inl ⟨by rfl, ?_⟩) hHeld ?_ ?_
        rotate_left
        · rintro w' ⟨s0, s1, s2⟩
          go_simp
          with_reducible rfl
        rotate_left
        · simp only [Act.put, List.setIfInBounds_toArray, List.set_cons_zero, List.set_cons_succ, i64_w, i32_w]
          rfl
        refine pure_ (i := 9) (N := some 58) (v := ?_) (a' := ?_) #[true, true, true, true, true, true, true, true, true, true, false, false, false, false] rfl rfl (by kernel_rfl) (fun _ _ _ h => h) (Or.inl ⟨by rfl, ?_⟩) ?_ ?_
        rotate_left
        · intro w'
          go_simp
          with_reducible rfl
        rotate_left
        · simp only [Act.put, List.setIfInBounds_toArray, List.set_cons_zero, List.set_cons_succ, i64_w, i32_w]
          rfl
        refine take_ (i := 10) (N := some 59) (v := ?_) (a' := ?_) #[true, true, true, true, true, true, true, true, true, true, true, false, false, false] rfl rfl (by kernel_rfl) (fun _ _ _ h => h) (Or.inl ⟨by rfl, ?_⟩) hHeld ?_ ?_
        rotate_left
        · rintro w' ⟨s0, s1, s2⟩
          go_simp
          with_reducible rfl
        rotate_left
        · simp only [Act.put, List.setIfInBounds_toArray, List.set_cons_zero, List.set_cons_succ, i64_w, i32_w]
          rfl
        refine one_ (i := 11) (N := some 60) #[true, true, true, true, true, true, true, true, true, true, true, true, false, false] rfl rfl (by kernel_rfl) (by decide) (fun K hK => ?_)
        refine value_ (w1 := ?_) (v := ?_) (by rfl) rfl ?_ ?_
        rotate_left 2
        · go_simp
          constructor
          · rfl
          · rfl
        refine hK.out _ _ ⟨(blk_cell (blk_alloc (blk_drew HBK.out) _) 0).trans rfl, (blk_cell (blk_alloc (blk_drew HBK.out) _) 1).trans rfl, pw_cell_below (below_alloc (below_drew1 (Below.refl _ _)) _) HX.out⟩ (fun hHeld => ?_)
        clear hK K
        refine norm_ (a' := ?_) ?_ ?_
        rotate_left
        · show Act.put _ (some 60) _ = _
          simp only [Act.put, List.setIfInBounds_toArray, List.set_cons_zero, List.set_cons_succ, i64_w, i32_w]
          rfl
        refine one_ (i := 12) (N := some 61) #[true, true, true, true, true, true, true, true, true, true, true, true, true, false] rfl rfl (by kernel_rfl) (by decide) (fun K hK => ?_)
        refine R_app_u8_step (p := x) (by rfl) rfl rfl rfl uB iB (Kd.R_drew HR.out) hwz HLT.out ?_
        intro v5 w5 hr5 hg5
        have HR5 := Aside0.mk hr5
        have HG5 := Aside0.mk (own_grown HR.out hg5 hwz)
        have HB5 := Aside0.mk ((hg5.block _ (blk_lt HBK.out) (HG5.out.1 _ hlt)).trans HBK.out)
        clear hr5 hg5
        refine hK.out _ _ ⟨(blk_cell HB5.out 0).trans rfl, (blk_cell HB5.out 1).trans rfl, (Below.cell HG5.out.2 (by rw [add_block]; omega)).trans HX.out⟩ (fun hHeld => ?_)
        clear hK K
        refine norm_ (a' := ?_) ?_ ?_
        rotate_left
        · show Act.put _ (some 61) _ = _
          simp only [Act.put, List.setIfInBounds_toArray, List.set_cons_zero, List.set_cons_succ, i64_w, i32_w]
          rfl
        refine pure_ (i := 13) (N := some 5) (v := ?_) (a' := ?_) #[true, true, true, true, true, true, true, true, true, true, true, true, true, true] rfl rfl (by kernel_rfl) (fun _ _ _ h => h) (Or.inl ⟨by rfl, ?_⟩) ?_ ?_
        rotate_left
        · intro w'
          go_simp
          with_reducible rfl
        rotate_left
        · simp only [Act.put, List.setIfInBounds_toArray, List.set_cons_zero, List.set_cons_succ, i64_w, i32_w]
          rfl
        refine done_ (by kernel_rfl) ?_
        have c1 := (blk_cell HB5.out 1).trans rfl
        have f1 := blk_frozen HB5.out 1
        have hqm : (q : Int) + 1 ≤ 140737488355328 := by omega
        go_wp2
        have HBS := Aside0.mk ((blk_put HB5.out 1 (.int .i64 ((q : Int) + 1)) rfl).trans rfl)
        have HC5 := Aside0.mk ((HCh.out.ext_below HG5.out.2).set1 1 (.int .i64 ((q : Int) + 1)))
        have HD5 := Aside0.mk (show RCuAt B g (s.adv (j + 1)) (w5.setCell ⟨g, 1, none⟩ (.int .i64 ((q : Int) + 1))) from by
          have h5 : RCuAt B g (s.adv j) w5 := by
            refine ⟨?_, C_belowB HD.out.read HD.out.low (HG5.out.2.mono (Nat.le_trans hup (Nat.le_of_lt hlt))), HD.out.low, HD.out.up, HD.out.cap, HD.out.le, HD.out.big, HD.out.bytes⟩
            exact (Below.block HG5.out.2 g hlt).trans HD.out.blk
          refine h5.put (s' := s.adv (j + 1)) ?_ ((Chg.refl (fun k => k = g) w5).set1 1 _) rfl rfl rfl (by show s.pos + (j + 1) ≤ s.b.length; omega)
          have h := blk_put h5.blk 1 (.int .i64 ((q : Int) + 1)) rfl
          have e5 : ((q : Int) + 1) = (((s.adv (j + 1)).pos : Nat) : Int) := by show (q : Int) + 1 = ((s.pos + (j + 1) : Nat) : Int); have := HQ.out; omega
          rw [e5] at h ⊢
          exact h)
        have HR6 := Aside0.mk (Kd.R_step (Kd.R_tight rfl HR5.out) (w1 := w5.setCell ⟨g, 1, none⟩ (.int .i64 ((q : Int) + 1))) (fun k hk hl => Below.heap_setCell w5 _ _ k (fun e => by have h8 := Kd.R_base HR5.out k hk.symm; have e9 : k = g := e; omega)))
        go_roundw
        case rel => exact ⟨j + 1, by go_num, by omega, HD5, ⟨by rw [HTM.out]; exact Kd.R_mono HR6.out (fun _ _ => trivial)⟩, HC5⟩
        case measure => simp [intOf]; omega
      · have hje : j = n := by omega
        subst hje
        go_wp2
        go_ret
        exact ⟨_, rfl, HR.out, HD.out, HCh.out⟩
  · obtain ⟨ht1, ht2⟩ := take_over hs hroom hle
    rw [ht1, ht2]
    have hgt : decide ((s.b.length : Int) - (s.pos : Int) < (n : Int)) = true := decide_eq_true (by omega)
    have hr0 : ¬ (n : Int) < 0 := by omega
    clear ht1 ht2 hs hsc hroom
    go_enter Try.func67, Try.ntmps67
    go_wp2
    go_quiet (fail)
    go_wp2_with fail
    have HSA := Aside0.mk (show s.sane from Or.inl HF.out)
    with_reducible refine (rfail_calls g s 13 (s.b.length : Int) _ (H1.out.drewN _) HSA.out).mono ?_
    rintro e w8 ⟨rfl, hr8, hc8⟩
    go_wp2
    go_ret
    refine ⟨_, rfl, ?_, hr8, (((Chg.refl (fun k => k = g) w).alloc _).drewN _).trans hc8 (fun _ h => .inl h)⟩
    refine Kd.R_mono (Kd.R_step (Kd.R_tight rfl (Kd.R_drewN (R_lit_u8 (w := w) (base := w.heap.size) 5 (Nat.le_refl _) [] (by simp)) nq)) (fun k hk hl => hc8.block k hl (fun e => ?_))) (fun _ _ => trivial)
    have e2 : k = w.heap.size := by injection hk
    omega
end Go.Proofs.Ytmbfjaogimkncaa
