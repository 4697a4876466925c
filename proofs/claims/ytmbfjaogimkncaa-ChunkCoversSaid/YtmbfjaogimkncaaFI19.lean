/- The law's cuts of a stream: what they are, all together; no condition. -/
import Derived.Test.YtmbfjaogimkncaaAwake19
namespace Go.Proofs.Ytmbfjaogimkncaa
open Go.RowKit Go.Proofs.YtmbfjaogimkncaaW.PrintWords Go.Proofs.YtmbfjaogimkncaaW.PrintLast Go.Proofs.YtmbfjaogimkncaaW.PrintMore
set_option linter.unusedVariables false
set_option linter.unusedSimpArgs false
theorem tm20 (x : Int) : ∃ n : Nat, Int.tmod (wrap64 ((Int.tmod x 20) + 20)) 20 = n ∧ n < 20 := by
  have h1 : Int.tmod x 20 < 20 := Int.tmod_lt_of_pos x (by decide)
  have h2 : -20 < Int.tmod x 20 := Int.lt_tmod_of_pos x (by decide)
  obtain ⟨t, ht⟩ : ∃ t, Int.tmod x 20 = t := ⟨_, rfl⟩
  rw [ht] at h1 h2 ⊢
  have b1 : -1000000000000000 ≤ t + 20 ∧ t + 20 ≤ 1000000000000000 := by omega
  rw [w64 _ b1, Int.tmod_eq_emod_of_nonneg (by omega)]
  exact ⟨((t + 20) % 20).toNat, by omega, by omega⟩
section
variable {K : Nat} {b cuts : List Int} {out : List (List Int)} {at' i n e : Int}
theorem cuts_j1 : PChunkFeeds.forebaylaw18_Cuts.j1 (K + 1) b cuts out at' i false = (if 0 ≤ at' then (if at' ≤ (b.length : Int) then (if out.length < 5864062014805 then (some (out ++ [(b.drop (at' : Int).toNat)])) else (none)) else (none)) else (none)) := by
  unfold PChunkFeeds.forebaylaw18_Cuts.j1
  rfl
theorem cuts_end (h0 : 0 ≤ at') (h1 : at' ≤ (b.length : Int)) (ho : out.length < 5864062014805) : PChunkFeeds.forebaylaw18_Cuts.j1 (K + 1) b cuts out at' i false = some (out ++ [b.drop at'.toNat]) := by
  rw [cuts_j1, if_pos h0, if_pos h1, if_pos ho]
theorem cuts_less (hi0 : 0 ≤ i) (hi1 : i < (cuts.length : Int)) (hn : Int.tmod (wrap64 ((Int.tmod (rd cuts i) 20) + 20)) 20 = n) (hw : wrap64 ((b.length : Int) - at') = e) (hg : n > e) (he : wrap64 (at' + e) = (b.length : Int)) (h0 : 0 ≤ at') (h1 : at' ≤ (b.length : Int)) (ho : out.length < 5864062014805) :
    PChunkFeeds.forebaylaw18_Cuts.j1 (K + 1) b cuts out at' i true = PChunkFeeds.forebaylaw18_Cuts.l0 K b cuts (out ++ [(b.take (b.length : Int).toNat).drop at'.toNat]) b.length (wrap64 (i + 1)) := by
  conv => lhs; unfold PChunkFeeds.forebaylaw18_Cuts.j1
  show (if true = true then (if 0 ≤ i then (if i < (cuts.length : Int) then (if (Int.tmod (wrap64 ((Int.tmod (rd cuts i) 20) + 20)) 20) > (wrap64 ((b.length : Int) - at')) then (if 0 ≤ at' then (if at' ≤ (wrap64 (at' + (wrap64 ((b.length : Int) - at')))) then (if (wrap64 (at' + (wrap64 ((b.length : Int) - at')))) ≤ (b.length : Int) then (if out.length < 5864062014805 then (PChunkFeeds.forebaylaw18_Cuts.l0 K b cuts (out ++ [((b.take ((wrap64 (at' + (wrap64 ((b.length : Int) - at')))) : Int).toNat).drop (at' : Int).toNat)]) (wrap64 (at' + (wrap64 ((b.length : Int) - at')))) (wrap64 (i + 1))) else (none)) else (none)) else (none)) else (none)) else _) else none) else none) else _) = _
  rw [if_pos rfl, if_pos hi0, if_pos hi1, hn, hw, if_pos hg, he, if_pos h0, if_pos h1, if_pos (Int.le_refl _), if_pos ho]
theorem cuts_more (hi0 : 0 ≤ i) (hi1 : i < (cuts.length : Int)) (hn : Int.tmod (wrap64 ((Int.tmod (rd cuts i) 20) + 20)) 20 = n) (hw : wrap64 ((b.length : Int) - at') = e) (hg : ¬ n > e) {q : Int} (he : wrap64 (at' + n) = q) (h0 : 0 ≤ at') (h1 : at' ≤ q) (h2 : q ≤ (b.length : Int)) (ho : out.length < 5864062014805) :
    PChunkFeeds.forebaylaw18_Cuts.j1 (K + 1) b cuts out at' i true = PChunkFeeds.forebaylaw18_Cuts.l0 K b cuts (out ++ [(b.take q.toNat).drop at'.toNat]) q (wrap64 (i + 1)) := by
  conv => lhs; unfold PChunkFeeds.forebaylaw18_Cuts.j1
  show (if true = true then (if 0 ≤ i then (if i < (cuts.length : Int) then (if (Int.tmod (wrap64 ((Int.tmod (rd cuts i) 20) + 20)) 20) > (wrap64 ((b.length : Int) - at')) then _ else (if 0 ≤ at' then (if at' ≤ (wrap64 (at' + (Int.tmod (wrap64 ((Int.tmod (rd cuts i) 20) + 20)) 20))) then (if (wrap64 (at' + (Int.tmod (wrap64 ((Int.tmod (rd cuts i) 20) + 20)) 20))) ≤ (b.length : Int) then (if out.length < 5864062014805 then (PChunkFeeds.forebaylaw18_Cuts.l0 K b cuts (out ++ [((b.take ((wrap64 (at' + (Int.tmod (wrap64 ((Int.tmod (rd cuts i) 20) + 20)) 20))) : Int).toNat).drop (at' : Int).toNat)]) (wrap64 (at' + (Int.tmod (wrap64 ((Int.tmod (rd cuts i) 20) + 20)) 20))) (wrap64 (i + 1))) else (none)) else (none)) else (none)) else (none))) else none) else none) else _) = _
  rw [if_pos rfl, if_pos hi0, if_pos hi1, hn, hw, if_neg hg, he, if_pos h0, if_pos h1, if_pos h2, if_pos ho]
end
theorem flat_step {b : List Int} {out : List (List Int)} {p q : Nat} (h : out.flatten = b.take p) (hpq : p ≤ q) : (out ++ [(b.take q).drop p]).flatten = b.take q := by
  rw [List.flatten_append, h]
  simp only [List.flatten_cons, List.flatten_nil, List.append_nil]
  have e : b.take p = (b.take q).take p := by rw [List.take_take, Nat.min_eq_left hpq]
  rw [e, List.take_append_drop]
theorem cuts_l0 (b cuts : List Int) (hb : b.length ≤ 1000000) (hc : cuts.length ≤ 100) : ∀ (k i p : Nat) (out : List (List Int)) (K : Nat), i + k = cuts.length → p ≤ b.length → out.flatten = b.take p → out.length ≤ i → 2 * k + 4 ≤ K →
    ∃ r, PChunkFeeds.forebaylaw18_Cuts.l0 K b cuts out p i = some r ∧ r.flatten = b ∧ r.length ≤ cuts.length + 1 := by
  intro k
  induction k with
  | zero =>
    intro i p out K hi hp ho hol hK
    obtain ⟨K, rfl⟩ : ∃ K', K = K' + 2 := ⟨K - 2, by omega⟩
    unfold PChunkFeeds.forebaylaw18_Cuts.l0
    rw [if_neg (show ¬ (i : Int) < (cuts.length : Int) by omega), cuts_end (by omega) (by omega) (by omega)]
    refine ⟨_, rfl, ?_, by rw [List.length_append, List.length_singleton]; omega⟩
    rw [List.flatten_append, ho, Int.toNat_natCast]
    simp
  | succ k ih =>
    intro i p out K hi hp ho hol hK
    obtain ⟨K, rfl⟩ : ∃ K', K = K' + 2 := ⟨K - 2, by omega⟩
    have hil : (i : Int) < (cuts.length : Int) := by omega
    have hi1 : (i : Int) < 100 := by omega
    have hi0 : (0 : Int) ≤ i := by omega
    have hp0 : (0 : Int) ≤ p := by omega
    have hp1 : (p : Int) ≤ (b.length : Int) := by omega
    have hol2 : out.length < 5864062014805 := by omega
    obtain ⟨n, hn, hn20⟩ := tm20 (rd cuts i)
    have b1 : -1000000000000000 ≤ (b.length : Int) - p ∧ (b.length : Int) - p ≤ 1000000000000000 := by clear hn; omega
    have b2 : -1000000000000000 ≤ (p : Int) + ((b.length : Int) - p) ∧ (p : Int) + ((b.length : Int) - p) ≤ 1000000000000000 := by clear hn; omega
    have b3 : -1000000000000000 ≤ (p : Int) + n ∧ (p : Int) + n ≤ 1000000000000000 := by clear hn; omega
    have b4 : -1000000000000000 ≤ (i : Int) + 1 ∧ (i : Int) + 1 ≤ 1000000000000000 := by clear hn; omega
    have b5 : (i : Int) + 1 = ((i + 1 : Nat) : Int) := by clear hn; omega
    have b6 : (p : Int) + ((b.length : Int) - p) = (b.length : Int) := by clear hn; omega
    have b7 : (p : Int) + n = ((p + n : Nat) : Int) := by clear hn; omega
    unfold PChunkFeeds.forebaylaw18_Cuts.l0
    rw [if_pos hil, show decide ((i : Int) < 100) = true from decide_eq_true hi1]
    by_cases hg : (n : Int) > (b.length : Int) - p
    · rw [cuts_less hi0 hil hn (w64 _ b1) hg ((w64 _ b2).trans b6) hp0 hp1 hol2, (w64 _ b4).trans b5]
      clear hn
      rw [Int.toNat_natCast, Int.toNat_natCast]
      exact ih (i + 1) b.length _ K (by omega) (Nat.le_refl _) ((flat_step ho hp)) (by rw [List.length_append, List.length_singleton]; omega) (by omega)
    · have hq1 : (p : Int) ≤ ((p + n : Nat) : Int) := by clear hn; omega
      have hq2 : ((p + n : Nat) : Int) ≤ (b.length : Int) := by clear hn; omega
      rw [cuts_more hi0 hil hn (w64 _ b1) hg ((w64 _ b3).trans b7) hp0 hq1 hq2 hol2, (w64 _ b4).trans b5]
      clear hn
      rw [Int.toNat_natCast, Int.toNat_natCast]
      exact ih (i + 1) (p + n) _ K (by omega) (by omega) (flat_step ho (by omega)) (by rw [List.length_append, List.length_singleton]; omega) (by omega)
/-- The cuts of a stream are, all together, the stream. -/
theorem cuts_flat (b cuts : List Int) (hb : b.length ≤ 1000000) (hc : cuts.length ≤ 100) : ∃ r, PChunkFeeds.forebaylaw18_Cuts.f (2 * cuts.length + 4) b cuts = some r ∧ r.flatten = b ∧ r.length ≤ cuts.length + 1 := by
  unfold PChunkFeeds.forebaylaw18_Cuts.f
  exact cuts_l0 b cuts hb hc cuts.length 0 0 [] _ (by omega) (Nat.zero_le _) rfl (Nat.le_refl _) (Nat.le_refl _)
theorem F_low {k : IntKind} {w : World} {A : Option Addr} {n : Nat} {xs : List Int} (h : (Kd.int k).C w A n xs) : Kd.F (Kd.int k) w (fun k => k < w.heap.size) A n xs := by
  intro W' hW
  refine ⟨h.1, h.2.1, fun hn => ?_⟩
  obtain ⟨ad, e, hc⟩ := h.2.2 hn
  refine ⟨ad, e, fun j p hj => ?_⟩
  obtain ⟨c, h1, h2, h3⟩ := hc j p hj
  refine ⟨c, h1, h2, fun i u hu => ?_⟩
  have h4 := h3 i u hu
  obtain ⟨o', ho, _⟩ := not_walk_of_cell h4
  have hlt := (Array.getElem?_eq_some_iff.1 ho).1
  exact (World.cell?_of_block (hW _ hlt hlt)).trans h4
open PChunkFeeds (S40 S42 S45 k40 k42 k45 rd_T42 rd_T45)
/-- Since w: a framer (at w's end), the rows of the cuts (blocks below, or from lo up to hi). -/
structure FI (w : World) (lo hi : Nat) (most : Int) (r : List (List Int)) (Al : Option Addr) (cl : Nat) (S : FS) (v : Value) (W : World) : Prop where
  bel : Below w.heap.size w W
  fr : FrAt (ofS w.heap.size most v S) W
  own : ∀ k, (ofS w.heap.size most v S).F k → k = w.heap.size ∨ hi ≤ k
  rows : Kd.N (Kd.slice 5 (Kd.int .u8)) 22 W 0 (fun k => k < w.heap.size ∨ (lo ≤ k ∧ k < hi)) (.slice Al r.length cl) r
  kl : w.heap.size < lo
  kh : hi ≤ W.heap.size
  low : w.heap.size ≤ hi
section
variable {w W W' : World} {lo hi : Nat} {most : Int} {r : List (List Int)} {Al : Option Addr} {cl : Nat} {S S' : FS} {v v' : Value}
theorem FI.step (h : FI w lo hi most r Al cl S v W) (hb : Below W.heap.size W W') : FI w lo hi most r Al cl S v W' where
  bel := below_step h.bel hb
  fr := h.fr.below hb
  own := h.own
  rows := Kd.N_below h.rows hb
  kl := h.kl
  kh := Nat.le_trans h.kh hb.size
  low := h.low
theorem FI.turn (h : FI w lo hi most r Al cl S v W) (hc : Chg (ofS w.heap.size most v S).F W W') (hf : FrAt (ofS w.heap.size most v' S') W') (ho : ∀ k, (ofS w.heap.size most v' S').F k → (ofS w.heap.size most v S).F k ∨ W.heap.size ≤ k) : FI w lo hi most r Al cl S' v' W' where
  bel := below_chg h.bel (Nat.le_refl _) hc (fun k hk => by
    rcases h.own k hk with h2 | h2
    · omega
    · exact Nat.le_trans h.low h2)
  fr := hf
  own := fun k hk => by
    rcases ho k hk with h1 | h1
    · exact h.own k h1
    · exact .inr (Nat.le_trans h.kh h1)
  rows := Kd.N_step h.rows (fun k hk hl => hc.block k hl (fun hn => by
    rcases h.own k hn with h1 | h1
    · have := h.kl; omega
    · have := h.low; omega))
  kl := h.kl
  kh := Nat.le_trans h.kh hc.size
  low := h.low
/-- A chunk. -/
theorem FI.chunk (h : FI w lo hi most r Al cl S v W) (i : Nat) (x : List Int) (hx : r[i]? = some x) : ∃ ad A c, Al = some ad ∧ W.cell? (ad.add i) = some (.slice A x.length c) ∧ x.length ≤ c ∧ (Kd.int .u8).C W A x.length x := by
  obtain ⟨hi', hxx⟩ := List.getElem?_eq_some_iff.1 hx
  obtain ⟨_, _, hC⟩ := Kd.N_reads' h.rows
  obtain ⟨ad, c, e, hl, hK, hc⟩ := Kd.C_get hC [] (i : Int) (by omega) (by omega)
  rw [Int.toNat_natCast] at hK hc
  rw [List.getD_eq_getElem?_getD, hx] at hK
  obtain ⟨A, c', rfl, hle, hr⟩ := hK
  refine ⟨ad, A, c', e, ?_, hle, hr⟩
  have := hc 0 _ rfl
  simpa [Kd.slice] using this
/-- A chunk is fed. -/
theorem FI.feed (h : FI w lo hi most r Al cl S v W) {S' : FS} {outs : List FX} {xs : List Int} {A : Option Addr} {n c : Nat} (hS : frun most S xs = (S', outs)) (he : S.ended = false) (hok : FSok most S) (h0 : 0 ≤ most) (hm : most ≤ 1048576) (hC : (Kd.int .u8).C W A n xs) (hx : ∀ x ∈ xs, 0 ≤ x ∧ x < 256) (hbig : S.pos + xs.length ≤ 1000000000000) :
    Calls Try.prog 18 #[.pointer (some ⟨w.heap.size, 0, none⟩), .slice A n c] W fun e W' => ∃ A' c' v' F, e = .returned (.tuple #[.slice A' outs.length c', .int .i64 0]) ∧ outs.length ≤ c' ∧ FI w lo hi most r Al cl S' v' W' ∧ k42.R 42 W' 0 F (.slice A' outs.length c') (outs.map FX.s) ∧ (∀ k, F k → ¬ (ofS w.heap.size most v' S').F k ∧ ((ofS w.heap.size most v S).F k ∨ W.heap.size ≤ k)) ∧ Chg (ofS w.heap.size most v S).F W W' := by
  refine (frfeed2 (ofS w.heap.size most v S) A n c xs W S' outs hS h.fr he hok h0 hm hC hx hbig).mono ?_
  rintro e W' ⟨A', c', v', F, rfl, hc', hf⟩
  exact ⟨A', c', v', F, rfl, hc', h.turn hf.chg hf.fr hf.own, hf.row, hf.off, hf.chg⟩
end
/-- One frame, as a row. -/
theorem one42 (W : World) (x : FX) (hx : x.by' = []) : k42.C (W.alloc (.cells #[.int .i64 x.lo, .int .i64 x.hi, .slice none 0 0, .int .i64 x.code, .int .i64 x.at'] 42)) (some ⟨W.heap.size, 0, none⟩) 1 ([x].map FX.s) := by
  have hb := blk_new W (.cells #[.int .i64 x.lo, .int .i64 x.hi, .slice none 0 0, .int .i64 x.code, .int .i64 x.at'] 42)
  refine ⟨rfl, by decide, fun _ => ⟨_, rfl, fun j p hj => ?_⟩⟩
  cases j with
  | succ j => cases hj
  | zero =>
    injection hj with hj
    subst hj
    obtain ⟨lo, hi, by', code, at'⟩ := x
    change by' = [] at hx
    subst hx
    refine ⟨[.int .i64 lo, .int .i64 hi, .slice none 0 0, .int .i64 code, .int .i64 at'], rfl, PChunkFeeds.k42_mk _ (FX.mk lo hi [] code at').s (A2 := none) (c2 := 0) (Nat.le_refl _) ⟨rfl, Nat.zero_le _, fun h => absurd h (Nat.lt_irrefl 0)⟩, fun i u hu => ?_⟩
    rw [Nat.zero_mul, Nat.zero_add]
    have h5 : i < 5 := (List.getElem?_eq_some_iff.1 hu).1
    rcases (show i = 0 ∨ i = 1 ∨ i = 2 ∨ i = 3 ∨ i = 4 by omega) with rfl | rfl | rfl | rfl | rfl
    · injection hu with hu; subst hu; exact (blk_cell hb 0).trans rfl
    · injection hu with hu; subst hu; exact (blk_cell hb 1).trans rfl
    · injection hu with hu; subst hu; exact (blk_cell hb 2).trans rfl
    · injection hu with hu; subst hu; exact (blk_cell hb 3).trans rfl
    · injection hu with hu; subst hu; exact (blk_cell hb 4).trans rfl
theorem one45 (W : World) (x : FX) (hx : x.by' = []) : k45.C (W.alloc (.cells #[.int .i64 x.lo, .int .i64 x.hi, .slice none 0 0, .int .i64 x.code, .int .i64 x.at'] 45)) (some ⟨W.heap.size, 0, none⟩) 1 ([x].map FX.r) := by
  have hb := blk_new W (.cells #[.int .i64 x.lo, .int .i64 x.hi, .slice none 0 0, .int .i64 x.code, .int .i64 x.at'] 45)
  refine ⟨rfl, by decide, fun _ => ⟨_, rfl, fun j p hj => ?_⟩⟩
  cases j with
  | succ j => cases hj
  | zero =>
    injection hj with hj
    subst hj
    obtain ⟨lo, hi, by', code, at'⟩ := x
    change by' = [] at hx
    subst hx
    refine ⟨[.int .i64 lo, .int .i64 hi, .slice none 0 0, .int .i64 code, .int .i64 at'], rfl, PChunkFeeds.k45_mk _ (FX.mk lo hi [] code at').r (A2 := none) (c2 := 0) (Nat.le_refl _) ⟨rfl, Nat.zero_le _, fun h => absurd h (Nat.lt_irrefl 0)⟩, fun i u hu => ?_⟩
    rw [Nat.zero_mul, Nat.zero_add]
    have h5 : i < 5 := (List.getElem?_eq_some_iff.1 hu).1
    rcases (show i = 0 ∨ i = 1 ∨ i = 2 ∨ i = 3 ∨ i = 4 by omega) with rfl | rfl | rfl | rfl | rfl
    · injection hu with hu; subst hu; exact (blk_cell hb 0).trans rfl
    · injection hu with hu; subst hu; exact (blk_cell hb 1).trans rfl
    · injection hu with hu; subst hu; exact (blk_cell hb 2).trans rfl
    · injection hu with hu; subst hu; exact (blk_cell hb 3).trans rfl
    · injection hu with hu; subst hu; exact (blk_cell hb 4).trans rfl
end Go.Proofs.Ytmbfjaogimkncaa
