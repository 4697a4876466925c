/- The law's whole: the frames of a stream that is cut, with what is left as the last one; no condition. -/
import Derived.Test.YtmbfjaogimkncaaFI19
namespace Go.Proofs.Ytmbfjaogimkncaa
open Go.RowKit Go.Proofs.YtmbfjaogimkncaaW.PrintWords Go.Proofs.YtmbfjaogimkncaaW.PrintLast Go.Proofs.YtmbfjaogimkncaaW.PrintMore
open PChunkFeeds (S40 S42 S45 k40 k42 k45 rd_T42 rd_T45)
set_option linter.unusedVariables false
set_option linter.unusedSimpArgs false
/-- What Close tells of a state. -/
def clos (S : FS) : List FX := if S.ended = true ∨ S.op = [] then [] else [⟨(S.pos : Int) - S.op.length, S.pos, [], 13, S.pos⟩]
def wholeM (most : Int) (b : List Int) : List FX := (frun most ⟨0, [], 0, false⟩ b).2 ++ clos (frun most ⟨0, [], 0, false⟩ b).1
/-- What whole keeps from chunk to chunk. -/
structure WW (w : World) (lo hi : Nat) (most : Int) (b : List Int) (r : List (List Int)) (Al : Option Addr) (cl : Nat) (i p : Nat) (S : FS) (outs : List FX) (v vo : Value) (W : World) : Prop where
  fi : FI w lo hi most r Al cl S v W
  pre : (r.take i).flatten = b.take p
  pl : p ≤ b.length
  run : frun most ⟨0, [], 0, false⟩ (b.take p) = (S, outs)
  row : k42.R 42 W 0 (fun k => ¬ (ofS w.heap.size most v S).F k ∧ w.heap.size < k ∧ (k < lo ∨ hi ≤ k)) vo (outs.map FX.s)
theorem flat_next {b : List Int} {r : List (List Int)} {i p : Nat} (hpre : (r.take i).flatten = b.take p) (hpl : p ≤ b.length) (hf : r.flatten = b) {x : List Int} (hx : r[i]? = some x) :
    (r.take (i + 1)).flatten = b.take (p + x.length) ∧ p + x.length ≤ b.length ∧ b.take (p + x.length) = b.take p ++ x ∧ ∃ T, b = b.take p ++ x ++ T := by
  obtain ⟨hi', hxx⟩ := List.getElem?_eq_some_iff.1 hx
  have e1 : r.take (i + 1) = r.take i ++ [x] := by rw [List.take_add_one, hx]; rfl
  have e2 : (r.take (i + 1)).flatten = b.take p ++ x := by rw [e1, List.flatten_append, hpre]; simp
  have e3 : b = (r.take (i + 1)).flatten ++ (r.drop (i + 1)).flatten := by rw [← List.flatten_append, List.take_append_drop, hf]
  rw [e2] at e3
  have e4 : (b.take p ++ x).length = p + x.length := by rw [List.length_append, List.length_take, Nat.min_eq_left hpl]
  have e5 : b.take (p + x.length) = b.take p ++ x := by
    conv => lhs; rw [e3]
    rw [← e4, List.take_left]
  have e6 : p + x.length ≤ b.length := by
    have := congrArg List.length e3
    rw [List.length_append, e4] at this
    omega
  exact ⟨by rw [e2, e5], e6, e5, _, e3⟩
theorem frun_pos' (most : Int) : ∀ (xs : List Int) (s : FS), (frun most s xs).1.pos ≤ s.pos + xs.length
  | [], s => Nat.le_refl _
  | x :: xs, s => by
    simp only [frun, List.length_cons]
    have h1 := frun_pos' most xs (fstep most s x).1
    have h2 : (fstep most s x).1.pos ≤ s.pos + 1 := by
      unfold fstep
      split
      · exact Nat.le_succ _
      · split
        · split
          · exact Nat.le_refl _
          · exact Nat.le_refl _
        · split
          · exact Nat.le_refl _
          · exact Nat.le_refl _
    omega
/-- The row of frames is the law's own, ahead of what a Feed hands over. -/
theorem R_empty19 (W : World) (e : TypeId) : k42.R e (W.alloc (.cells #[] e)) 0 (fun k => k = W.heap.size) (.slice (some ⟨W.heap.size, 0, none⟩) 0 0) [] := by
  refine ⟨fun k hk => ?_, [], ⟨rfl, .inr ⟨W.heap.size, 0, #[], rfl, Nat.zero_le _, blk_new W _, Nat.le_refl _, by decide, rfl, rfl⟩⟩, ⟨rfl, fun j p hj => by cases hj⟩⟩
  injection hk with hk
  exact hk.symm
theorem cuts_calls' (A : Option Addr) (n c : Nat) (l : List Int) (A1 : Option Addr) (n1 c1 : Nat) (cuts : List Int) (w : World) (hn : l.length = n) (hn1 : cuts.length = n1) (hC : (Kd.int .u8).C w A n l) (hc : n ≤ c) (hC1 : (Kd.int .i64).C w A1 n1 cuts) (hc1 : n1 ≤ c1) (hl : l.length ≤ 1000000) (hcl : cuts.length ≤ 100) (P : Nat → Prop) (hP : Kd.F (Kd.int .u8) w P A n l) :
    Calls Try.prog 17 #[.slice A n c, .slice A1 n1 c1] w fun e w' => ∃ A' c' r, e = .returned (.slice A' r.length c') ∧ r.length ≤ c' ∧ r.flatten = l ∧ r.length ≤ 101 ∧ Kd.N (Kd.slice 5 (Kd.int .u8)) 22 w' 0 (fun k => P k ∨ w.heap.size ≤ k ∧ k < w'.heap.size) (.slice A' r.length c') r ∧ Below w.heap.size w w' := by
  subst hn hn1
  obtain ⟨r, hr, hf, hlen⟩ := cuts_flat l cuts hl hcl
  refine (PChunkFeeds.forebaylaw18_Cuts.calls (2 * cuts.length + 4) P A c l A1 c1 cuts r w (Kd.V_mk hc hP) hC1 hc1 hr).mono ?_
  rintro e w' ⟨v, rfl, hN, hb⟩
  obtain ⟨A', c', rfl, hl', hC'⟩ := Kd.N_reads hN
  refine ⟨A', c', r, rfl, hl', hf, by omega, ?_, hb⟩
  refine Kd.N_mono (Kd.N_bound (Kd.N_lower hN (Nat.zero_le _))) (fun k hk => ?_)
  rcases hk with ⟨hk | hk, h2⟩
  · exact .inl hk
  · exact .inr ⟨hk, h2⟩
section
variable {w W W' : World} {lo hi : Nat} {most : Int} {b : List Int} {r : List (List Int)} {Al : Option Addr} {cl i p : Nat} {S S' : FS} {outs o2 : List FX} {v v' vo : Value}
def okO (w : World) (lo hi : Nat) (most : Int) (v : Value) (S : FS) (k : Nat) : Prop := ¬ (ofS w.heap.size most v S).F k ∧ w.heap.size < k ∧ (k < lo ∨ hi ≤ k)
/-- Another row of the law's own has been written. -/
theorem FI.grown (h : FI w lo hi most r Al cl S v W) {row : Option Nat} (hg : W.grownBy W' row) (hr : ∀ k, row = some k → okO w lo hi most v S k) : FI w lo hi most r Al cl S v W' where
  bel := below_chg h.bel (Nat.le_refl _) (Chg.of_grown (S := fun k => row = some k) hg (fun k hk => hk)) (fun k hk => Nat.le_of_lt (hr k hk).2.1)
  fr := h.fr.step (Chg.of_grown (S := fun k => row = some k) hg (fun k hk => hk)) (fun k hk e => (hr k e).1 hk)
  own := h.own
  rows := Kd.N_grown h.rows hg (fun k hk e => by
    have h1 := (hr k e.symm).2
    have h2 := h.low
    omega)
  kl := h.kl
  kh := Nat.le_trans h.kh hg.size
  low := h.low
/-- A chunk, whether the framer has ended or not. -/
theorem WW.feed (h : WW w lo hi most b r Al cl i p S outs v vo W) {xs : List Int} {A : Option Addr} {n c : Nat} (hS : frun most S xs = (S', o2)) (hok : FSok most S) (h0 : 0 ≤ most) (hm : most ≤ 1048576) (hC : (Kd.int .u8).C W A n xs) (hx : ∀ x ∈ xs, 0 ≤ x ∧ x < 256) (hbig : S.pos + xs.length ≤ 1000000000000) :
    Calls Try.prog 18 #[.pointer (some ⟨w.heap.size, 0, none⟩), .slice A n c] W fun e W' => ∃ A' c' v' F code, e = .returned (.tuple #[.slice A' o2.length c', .int .i64 code]) ∧ o2.length ≤ c' ∧ FI w lo hi most r Al cl S' v' W' ∧ k42.R 42 W' 0 F (.slice A' o2.length c') (o2.map FX.s) ∧ (∀ k, F k → okO w lo hi most v' S' k) ∧ k42.R 42 W' 0 (fun k => okO w lo hi most v' S' k ∧ ¬ F k) vo (outs.map FX.s) := by
  cases he : S.ended with
  | true =>
    rw [frun_ended most xs S he] at hS
    injection hS with hS1 hS2
    subst hS1 hS2
    refine (frfeed_ended (ofS w.heap.size most v S) A n c W h.fi.fr he).mono ?_
    rintro e W' ⟨rfl, rfl⟩
    exact ⟨none, 0, v, fun _ => False, 28, rfl, Nat.le_refl _, h.fi, Kd.R_nil _ _ _ _ _, fun k hk => hk.elim, Kd.R_mono h.row (fun k hk => ⟨hk, fun hf => hf⟩)⟩
  | false =>
    refine (frfeed2 (ofS w.heap.size most v S) A n c xs W S' o2 hS h.fi.fr he hok h0 hm hC hx hbig).mono ?_
    rintro e W' ⟨A', c', v', F, rfl, hc', hf⟩
    have hfi := h.fi.turn hf.chg hf.fr hf.own
    have hrow := hf.row
    have hoff := hf.off
    have hch := hf.chg
    have hown' := hf.own
    have hF : ∀ k, F k → okO w lo hi most v' S' k := by
      intro k hk
      obtain ⟨h1, h2⟩ := hoff k hk
      have hkg : k ≠ w.heap.size := fun e => h1 (.inl e)
      have hl1 := h.fi.low
      have hl2 := h.fi.kh
      rcases h2 with h2 | h2
      · rcases h.fi.own k h2 with h3 | h3
        · exact absurd h3 hkg
        · exact ⟨h1, by omega, .inr h3⟩
      · exact ⟨h1, by omega, .inr (by omega)⟩
    refine ⟨A', c', v', F, 0, rfl, hc', hfi, hrow, hF, ?_⟩
    refine Kd.R_mono (Kd.R_step (Kd.R_mono (Kd.R_bound h.row) (ok' := fun k => (¬ (ofS w.heap.size most v S).F k ∧ w.heap.size < k ∧ (k < lo ∨ hi ≤ k)) ∧ k < W.heap.size) (fun k hk => ⟨hk.1, hk.2.2.1⟩)) (fun k hk hl => hch.block k hl hk.1.1)) (fun k hk => ?_)
    refine ⟨⟨fun hf => ?_, hk.1.2⟩, fun hf => ?_⟩
    · rcases hfi.own k hf with h1 | h1
      · omega
      · have hf2 : (ofS w.heap.size most v' S').F k := hf
        have hown : (ofS w.heap.size most v S).F k ∨ W.heap.size ≤ k := hown' k hf2
        rcases hown with h2 | h2
        · exact hk.1.1 h2
        · omega
    · rcases (hoff k hf).2 with h2 | h2
      · exact hk.1.1 h2
      · omega
/-- The elements of a row of frames, as they stand. -/
theorem rows19 {W : World} {F : Nat → Prop} {A : Option Addr} {n c : Nat} {xs : List FX} (h : k42.R 42 W 0 F (.slice A n c) (xs.map FX.s)) : ReadsRow (k42.M W 0 F) 5 W A n (xs.map FX.s) := by
  have hl := (R_reads19 h).1
  obtain ⟨A', c', hv, hc', hC⟩ := OwnRow.reads h.2
  injection hv with h1 h2 h3
  subst h1 h2 h3
  exact hC.imp_ (Below.refl _ _) (fun _ _ hp => k42.M_mono (fun k hk => hk.1) hp)
end
set_option maxHeartbeats 4000000 in
set_option maxRecDepth 100000 in
theorem whole_bad (A0 : Option Addr) (n c0 : Nat) (A1 : Option Addr) (m c1 : Nat) (most : Int) (w : World) (h : most < 1 ∨ 1048576 < most) :
    Calls Try.prog 24 #[.slice A0 n c0, .slice A1 m c1, .int .i64 most] w fun e w' => e = .returned (.tuple #[.slice none 0 0, .bool true, .int .i64 (-1)]) ∧ w = w' := by
  have HNW := Aside0.mk (frnew_bad most w h)
  clear h
  go_enter Try.func24, Try.ntmps24
  go_wp2_with fail
  with_reducible refine HNW.out.mono ?_
  rintro e w1 ⟨rfl, rfl⟩
  go_wp2
  refine bodyPost_ret (v := .tuple #[.slice none 0 0, .bool true, .int .i64 (-1)]) (by simp [results, Try.results24, go_sem]) rfl ⟨rfl, rfl⟩
set_option maxHeartbeats 8000000 in
set_option maxRecDepth 100000 in
theorem whole_calls (A0 : Option Addr) (n c0 : Nat) (b : List Int) (A1 : Option Addr) (m c1 : Nat) (cuts : List Int) (most : Int) (w : World) (hn : b.length = n) (hm : cuts.length = m) (hC0 : (Kd.int .u8).C w A0 n b) (hcap0 : n ≤ c0) (hC1 : (Kd.int .i64).C w A1 m cuts) (hcap1 : m ≤ c1) (hby : ∀ x ∈ b, 0 ≤ x ∧ x < 256) (h8 : ¬ 1000000 < n) (h1 : ¬ 100 < m) (hq1 : ¬ most < 1) (hq2 : ¬ 1048576 < most) :
    Calls Try.prog 24 #[.slice A0 n c0, .slice A1 m c1, .int .i64 most] w fun e w' => ∃ Ao co F, e = .returned (.tuple #[.slice Ao (wholeM most b).length co, .bool true, .int .i64 ((frun most ⟨0, [], 0, false⟩ b).1.pos : Int)]) ∧ (wholeM most b).length ≤ co ∧ k42.R 42 w' 0 F (.slice Ao (wholeM most b).length co) ((wholeM most b).map FX.s) ∧ (∀ k, F k → w.heap.size ≤ k) ∧ Below w.heap.size w w' := by
  have HBY := Aside0.mk hby
  have HC0 := Aside0.mk hC0
  have HC1 := Aside0.mk hC1
  have HN := Aside0.mk hn
  have HM := Aside0.mk hm
  have HNW := Aside0.mk (frnew_calls most w (by omega) (by omega))
  clear hC0 hC1 hby hn hm
  go_enter Try.func24, Try.ntmps24
  go_wp2_with fail
  with_reducible refine HNW.out.mono ?_
  clear HNW
  rintro e w1 ⟨rfl, hf1, hb1⟩
  have hlt1 := blk_lt hf1.blk
  have hb1a := below_alloc hb1 (.cells #[] 42)
  have HCC := Aside0.mk (cuts_calls' A0 n c0 b A1 m c1 cuts (w1.alloc (.cells #[] 42)) HN.out HM.out (Kd.C_below HC0.out hb1a) hcap0 (Kd.C_below HC1.out hb1a) hcap1 (by have := HN.out; omega) (by have := HM.out; omega) (fun k => k < w.heap.size) (Kd.F_below (F_low HC0.out) hb1a))
  have HF1 := Aside0.mk hf1
  have HB1 := Aside0.mk hb1a
  have HL1 := Aside0.mk hlt1
  clear hf1 hb1 hb1a hlt1
  go_wp2_with fail
  with_reducible refine HCC.out.mono ?_
  clear HCC
  rintro e w2 ⟨Al, cl, r, rfl, hcl, hfl, hr101, hrows, hb2⟩
  have hown0 : ∀ k, (ofS w.heap.size most (.slice none 0 0) ⟨0, [], 0, false⟩).F k → k = w.heap.size ∨ w2.heap.size ≤ k := by
    rintro k (hk | hk)
    · exact .inl hk
    · cases hk
  obtain ⟨lo, hlo⟩ : ∃ lo, (w1.alloc (.cells #[] 42)).heap.size = lo := ⟨_, rfl⟩
  have hlo1 : w1.heap.size + 1 = lo := by rw [← hlo, World.size_alloc]
  have hrow0 : k42.R 42 w2 0 (fun k => ¬ (ofS w.heap.size most (.slice none 0 0) ⟨0, [], 0, false⟩).F k ∧ w.heap.size < k ∧ (k < lo ∨ w2.heap.size ≤ k)) (.slice (some ⟨w1.heap.size, 0, none⟩) 0 0) (([] : List FX).map FX.s) := by
    refine Kd.R_mono (Kd.R_below (R_empty19 w1 42) hb2) (fun k hk => ⟨fun h => ?_, ?_, .inl (by omega)⟩)
    · have h2 := HL1.out
      rcases h with h | h
      · have h3 : k = w.heap.size := h
        omega
      · cases h
    · have := HL1.out
      omega
  have hkl : w.heap.size < lo := by have := HL1.out; omega
  have hrows2 : Kd.N (Kd.slice 5 (Kd.int .u8)) 22 w2 0 (fun k => k < w.heap.size ∨ (lo ≤ k ∧ k < w2.heap.size)) (.slice Al r.length cl) r := by rw [← hlo]; exact hrows
  have HWW : Aside0 (WW w lo w2.heap.size most b r Al cl 0 0 ⟨0, [], 0, false⟩ [] (.slice none 0 0) (.slice (some ⟨w1.heap.size, 0, none⟩) 0 0) w2) := ⟨⟨⟨below_step HB1.out hb2, (HF1.out.alloc _).below hb2, hown0, hrows2, hkl, Nat.le_refl _, Nat.le_trans HB1.out.size hb2.size⟩, rfl, Nat.zero_le _, rfl, hrow0⟩⟩
  clear hrow0 hkl hrows2
  have HFL := Aside0.mk hfl
  obtain ⟨R, hR⟩ : ∃ R, r.length = R := ⟨_, rfl⟩
  rw [hR] at hcl hr101 ⊢
  have HR := Aside0.mk hR
  clear hrows hb2 hfl hR HF1 HB1 HL1 hown0 hlo hlo1
  have hwmb : -1000000000000000 ≤ most + 10 ∧ most + 10 ≤ 1000000000000000 := by omega
  have HWM := Aside0.mk (w64 _ hwmb)
  clear hwmb
  go_wp2
  go_loopw [11, 12, 14] (fun v11 v12 v14 w' => ∃ (i p : Nat) (Ao : Option Addr) (L co : Nat), v11 = .slice Ao L co ∧ v12 = .bool true ∧ v14 = .int .i64 (i : Int) ∧ i ≤ R ∧ ∃ S outs v, Aside0 (outs.length = L) ∧ Aside0 (WW w lo w2.heap.size most b r Al cl i p S outs v (.slice Ao L co) w')) (fun v11 v12 v14 _ => R - (intOf v14).toNat)
  case atStart => exact ⟨0, 0, _, _, _, rfl, rfl, rfl, Nat.zero_le _, _, _, _, ⟨rfl⟩, HWW⟩
  case round =>
    clear HWW
    obtain ⟨i, p, Ao, L, co, rfl, rfl, rfl, hi, S, outs, v, HO, HF⟩ := hrel
    have hok : FSok most S := by
      have h1 := frun_ok (by omega) (by omega) (b.take p) ⟨0, [], 0, false⟩ (fun y hy => (HBY.out y (List.mem_of_mem_take hy)).1) (FSok.new most (by omega) 0)
      rw [HF.out.run] at h1
      exact h1
    have hpos : S.pos ≤ n := by
      have h1 := frun_pos' most (b.take p) ⟨0, [], 0, false⟩
      rw [HF.out.run, List.length_take] at h1
      have h2 : S.pos ≤ 0 + min p b.length := h1
      have h3 := HN.out
      omega
    by_cases hin : i < R
    · have hir : i < r.length := by rw [HR.out]; exact hin
      obtain ⟨x, hx⟩ : ∃ x, r[i]? = some x := ⟨_, List.getElem?_eq_getElem hir⟩
      obtain ⟨hp1, hp2, hp3, T, hT⟩ := flat_next HF.out.pre HF.out.pl HFL.out hx
      obtain ⟨ad, A, c, e0, hcell, hxc, hxC⟩ := HF.out.fi.chunk i x hx
      obtain ⟨X, hX⟩ : ∃ X, x.length = X := ⟨_, rfl⟩
      rw [hX] at hcell hxc hxC hp1 hp2 hp3
      obtain ⟨p2, hpp⟩ : ∃ p2, p + X = p2 := ⟨_, rfl⟩
      rw [hpp] at hp1 hp2 hp3
      have hxb : ∀ y ∈ x, 0 ≤ y ∧ y < 256 := fun y hy => HBY.out y (by rw [hT]; simp [hy])
      have hin1 : (i : Int) < (R : Int) := by omega
      obtain ⟨S', hS'⟩ : ∃ S', (frun most S x).1 = S' := ⟨_, rfl⟩
      obtain ⟨o2, ho2⟩ : ∃ o2, (frun most S x).2 = o2 := ⟨_, rfl⟩
      have hSp : frun most S x = (S', o2) := by rw [← hS', ← ho2]
      have hrun2 : frun most ⟨0, [], 0, false⟩ (b.take p2) = (S', outs ++ o2) := by rw [hp3, frun_append, HF.out.run, hSp]
      have hok2 : FSok most S' := by
        have h1 := frun_ok (most := most) (by omega) (by omega) x S (fun y hy => (hxb y hy).1) hok
        rw [hS'] at h1
        exact h1
      have HFE := Aside0.mk (HF.out.feed (n := X) (c := c) hSp hok (by omega) (by omega) hxC hxb (by have := HN.out; omega))
      have HPA := Aside0.mk hp1
      have HPB := Aside0.mk hp2
      have HRUN := Aside0.mk hrun2
      obtain ⟨M, hM⟩ : ∃ k, o2.length = k := ⟨_, rfl⟩
      have HMM := Aside0.mk hM
      have hLM : L + M ≤ 2000000 := by
        have h1 := frun_few most (b.take p2) ⟨0, [], 0, false⟩
        rw [hrun2, List.length_take] at h1
        have h2 : (outs ++ o2).length ≤ min p2 b.length := h1
        rw [List.length_append, hM, HO.out] at h2
        have h3 := HN.out
        omega
      obtain ⟨hl, hhl⟩ : ∃ k, S'.op.length = k := ⟨_, rfl⟩
      have hle : (hl : Int) ≤ most + 10 := by rw [← hhl]; exact hok2.held (by omega)
      have HHL := Aside0.mk hhl
      rw [hM] at HFE
      subst e0
      clear hp1 hp2 hp3 hT hx hir hX hxC hxb hpp hrun2 hS' ho2 hSp hok hok2 hM hhl
      go_wp2_with fail
      with_reducible refine HFE.out.mono ?_
      clear HFE
      rintro e w3 ⟨A3, c3, v3, F3, code, rfl, hc3, hfi3, hrow3, hok3, hout3⟩
      have HFI3 := Aside0.mk hfi3
      have HRW3 := Aside0.mk (rows19 hrow3)
      have HOK3 := Aside0.mk hok3
      have HOUT3 := Aside0.mk (Kd.R_mono hout3 (fun k hk => hk.1))
      have hokp : ∀ k, F3 k → okO w lo w2.heap.size most v3 S' k ∧ some k ≠ (Value.slice Ao L co).ownBlock := fun k hk => ⟨hok3 k hk, fun e => (hout3.1 k e.symm).2 hk⟩
      have HOKP := Aside0.mk hokp
      have hfresh : ∀ k, w3.heap.size ≤ k → okO w lo w2.heap.size most v3 S' k := fun k hk => ⟨fun hf => by have := hfi3.fr.lt k hf; omega, by have := hfi3.low; have := hfi3.kh; have := hfi3.bel.size; have := blk_lt hfi3.fr.blk; have h5 : w.heap.size < w3.heap.size := this; omega, .inr (Nat.le_trans hfi3.kh hk)⟩
      have HFR := Aside0.mk hfresh
      have hlen : ((outs.map FX.s).length + M) * 56 ≤ 140737488355328 := by rw [List.length_map, HO.out]; omega
      have HLEN := Aside0.mk hlen
      obtain ⟨L2, hL2⟩ : ∃ L2, L + M = L2 := ⟨_, rfl⟩
      have HL2 := Aside0.mk hL2
      clear hfi3 hrow3 hok3 hout3 hokp hfresh hlen hL2
      go_wp2_with (first | ((with_reducible refine gate_dst (N := 54) rfl ?_); at_builtin; go_must (refine Kd.R_append_rows k42 (Rr := k42.M w3 0 F3) (w0 := w3) 0 rfl (.tmp 52) (.tmp 53) 31 42 (.agg #[(.int .i64 0), (.int .i64 0), (.slice none 0 0), (.int .i64 0), (.int .i64 0)]) 56 rfl (by kernel_rfl) info_Frame rfl (by decide) (by decide) (.slice Ao L co) (outs.map FX.s) (o2.map FX.s) A3 M c3 (okO w lo w2.heap.size most v3 S') F3 rfl rfl HOUT3.out HRW3.out (fun x cs h => h) HOKP.out HFR.out (Below.refl _ _) (Nat.zero_le _) HLEN.out ?_); intro v4 w4 hr4 hb4 hg4 hat4; obtain ⟨A4, c4, hv4, hcc4, hC4⟩ := Kd.R_reads hr4; have hl4 : (outs.map FX.s ++ o2.map FX.s).length = L2 := (by rw [List.length_append, List.length_map, List.length_map, HO.out, HMM.out]; exact HL2.out); rw [hl4] at hv4; subst hv4; have HR4 := Aside0.mk hr4; have HFI4 := Aside0.mk (HFI3.out.grown hg4 (fun k hk => HOUT3.out.1 k hk)); clear hr4 hb4 hg4 hat4 hcc4 hC4 hl4) | fail)
      have HHE : Aside0 (Calls Try.prog 22 #[.pointer (some ⟨w.heap.size, 0, none⟩)] w4 fun e w' => e = .returned (.int .i64 (hl : Int)) ∧ w4 = w') := ⟨by rw [← HHL.out]; exact frheld_calls _ _ HFI4.out.fr⟩
      have hwm := HWM.out
      have hwm2 : IntKind.i64.wrap (most + 10) = most + 10 := (i64_w _).trans hwm
      go_wp2_with fail
      with_reducible refine HHE.out.mono ?_
      rintro e w5 ⟨rfl, rfl⟩
      go_wp2_with fail
      with_reducible refine HHE.out.mono ?_
      rintro e w5 ⟨rfl, rfl⟩
      go_wp2
      go_roundw
      clear hwm hwm2
      case rel =>
        refine ⟨i + 1, p2, A4, L2, c4, rfl, by simp, by go_num, by omega, S', outs ++ o2, v3, ⟨by rw [List.length_append, HO.out, HMM.out]; exact HL2.out⟩, ⟨HFI4.out, HPA.out, HPB.out, HRUN.out, ?_⟩⟩
        rw [List.map_append]
        exact HR4.out
      case measure => simp [intOf]; omega
    · obtain rfl : i = R := by omega
      have hpn : p = n := by
        have h1 := HF.out.pre
        rw [List.take_of_length_le (by rw [HR.out]; exact Nat.le_refl _), HFL.out] at h1
        have h2 := congrArg List.length h1
        rw [List.length_take, HN.out] at h2
        have h3 := HF.out.pl
        rw [HN.out] at h3
        omega
      subst hpn
      have hbb : b.take p = b := List.take_of_length_le (by rw [HN.out]; exact Nat.le_refl _)
      have hbr := HF.out.run
      rw [hbb] at hbr
      have hst : (frun most ⟨0, [], 0, false⟩ b).1 = S := by rw [hbr]
      have hwm : wholeM most b = outs ++ clos S := by unfold wholeM; rw [hbr]
      have HST := Aside0.mk hst
      have HWL := Aside0.mk hwm
      have HB := Aside0.mk HF.out.fi.bel
      have HRW := Aside0.mk HF.out.row
      have HFR := Aside0.mk HF.out.fi.fr
      clear hin hbb hbr hok hst hwm
      cases he : S.ended with
      | true =>
        have HCL : Aside0 (Calls Try.prog 23 #[.pointer (some ⟨w.heap.size, 0, none⟩)] wr fun e w' => e = .returned (.tuple #[.agg #[.int .i64 0, .int .i64 0, .slice none 0 0, .int .i64 0, .int .i64 0], .bool false, .int .i64 28]) ∧ Below wr.heap.size wr w') := ⟨frclose_ended (ofS w.heap.size most v S) wr HFR.out he⟩
        have hcs : clos S = [] := if_pos (.inl he)
        have HCS := Aside0.mk hcs
        clear hcs he
        go_wp2_with fail
        with_reducible refine HCL.out.mono ?_
        clear HCL
        rintro e w3 ⟨rfl, hb3⟩
        have hb4 := below_alloc hb3 (.cells #[.int .i64 0, .int .i64 0, .slice none 0 0, .int .i64 0, .int .i64 0] 42)
        have HB3 := Aside0.mk hb4
        have HAT : Aside0 (Calls Try.prog 21 #[.pointer (some ⟨w.heap.size, 0, none⟩)] (w3.alloc (.cells #[.int .i64 0, .int .i64 0, .slice none 0 0, .int .i64 0, .int .i64 0] 42)) fun e w' => e = .returned (.int .i64 (S.pos : Int)) ∧ w3.alloc (.cells #[.int .i64 0, .int .i64 0, .slice none 0 0, .int .i64 0, .int .i64 0] 42) = w') := ⟨frat_calls _ _ (HFR.out.below hb4)⟩
        clear hb3 hb4
        go_wp2_with fail
        with_reducible refine HAT.out.mono ?_
        rintro e w4 ⟨rfl, rfl⟩
        go_wp2
        refine bodyPost_ret (v := .tuple #[.slice Ao L co, .bool true, .int .i64 (S.pos : Int)]) (by simp [results, Try.results24, go_sem]) rfl ?_
        rw [HWL.out, HCS.out, List.append_nil, HST.out, HO.out]
        exact ⟨Ao, co, _, rfl, by have := (R_reads19 HRW.out).2.1; exact this, Kd.R_below HRW.out HB3.out, fun k hk => Nat.le_of_lt hk.2.1, below_step HB.out HB3.out⟩
      | false =>
        have hrowS : ∀ W, Chg (fun k => k = w.heap.size) wr W → k42.R 42 W 0 (fun k => k ≠ w.heap.size ∧ w.heap.size < k) (.slice Ao L co) (outs.map FX.s) := fun W hW => Kd.R_mono (Kd.R_step HRW.out (fun k hk hl => hW.block k hl (fun e => by have := hk.2.1; omega))) (fun k hk => ⟨by have := hk.2.1; omega, hk.2.1⟩)
        by_cases hop : S.op = []
        · have HCL : Aside0 (Calls Try.prog 23 #[.pointer (some ⟨w.heap.size, 0, none⟩)] wr fun e w' => e = .returned (.tuple #[.agg #[.int .i64 0, .int .i64 0, .slice none 0 0, .int .i64 0, .int .i64 0], .bool false, .int .i64 0]) ∧ FrAt { ofS w.heap.size most v S with ended := true } w' ∧ Chg (fun k => k = w.heap.size) wr w') := ⟨frclose_empty (ofS w.heap.size most v S) wr HFR.out he hop⟩
          have hcs : clos S = [] := if_pos (.inr hop)
          have HCS := Aside0.mk hcs
          have HRS := Aside0.mk hrowS
          clear hcs he hop hrowS
          go_wp2_with fail
          with_reducible refine HCL.out.mono ?_
          clear HCL
          rintro e w3 ⟨rfl, hf3, hc3⟩
          have HAT : Aside0 (Calls Try.prog 21 #[.pointer (some ⟨w.heap.size, 0, none⟩)] (w3.alloc (.cells #[.int .i64 0, .int .i64 0, .slice none 0 0, .int .i64 0, .int .i64 0] 42)) fun e w' => e = .returned (.int .i64 (S.pos : Int)) ∧ w3.alloc (.cells #[.int .i64 0, .int .i64 0, .slice none 0 0, .int .i64 0, .int .i64 0] 42) = w') := ⟨frat_calls _ _ (hf3.alloc _)⟩
          have HC3 := Aside0.mk (hc3.alloc (.cells #[.int .i64 0, .int .i64 0, .slice none 0 0, .int .i64 0, .int .i64 0] 42))
          clear hf3 hc3
          go_wp2_with fail
          with_reducible refine HAT.out.mono ?_
          rintro e w4 ⟨rfl, rfl⟩
          go_wp2
          refine bodyPost_ret (v := .tuple #[.slice Ao L co, .bool true, .int .i64 (S.pos : Int)]) (by simp [results, Try.results24, go_sem]) rfl ?_
          rw [HWL.out, HCS.out, List.append_nil, HST.out, HO.out]
          exact ⟨Ao, co, _, rfl, by have := (R_reads19 HRW.out).2.1; exact this, HRS.out _ HC3.out, fun k hk => Nat.le_of_lt hk.2, below_chg HB.out (Nat.le_refl _) HC3.out (fun k hk => Nat.le_of_eq hk.symm)⟩
        · have HCL := frclose_left (ofS w.heap.size most v S) wr HFR.out he hop
          obtain ⟨y, hy⟩ : ∃ y : FX, (⟨(S.pos : Int) - S.op.length, S.pos, [], 13, S.pos⟩ : FX) = y := ⟨_, rfl⟩
          have hcs : clos S = [y] := by rw [← hy]; exact if_neg (fun h => h.elim (fun h1 => by rw [he] at h1; cases h1) hop)
          have HCL2 : Aside0 (Calls Try.prog 23 #[.pointer (some ⟨w.heap.size, 0, none⟩)] wr fun e w' => e = .returned (.tuple #[.agg #[.int .i64 y.lo, .int .i64 y.hi, .slice none 0 0, .int .i64 y.code, .int .i64 y.at'], .bool true, .int .i64 0]) ∧ FrAt { ofS w.heap.size most v S with v := .slice none 0 0, op := [], need := 0, ended := true } w' ∧ Chg (fun k => k = w.heap.size) wr w') := ⟨by rw [← hy]; exact HCL⟩
          have hyb : y.by' = [] := by rw [← hy]
          have HYB := Aside0.mk hyb
          have HCS := Aside0.mk hcs
          have HRS := Aside0.mk hrowS
          have HLEN : Aside0 (((outs.map FX.s).length + 1) * 56 ≤ 140737488355328) := ⟨by
            have h1 := frun_few most b ⟨0, [], 0, false⟩
            have h2 := HF.out.run
            rw [List.take_of_length_le (by rw [HN.out]; exact Nat.le_refl _)] at h2
            rw [h2, HN.out] at h1
            have h3 : outs.length ≤ p := h1
            rw [List.length_map]
            omega⟩
          clear hcs he hop hrowS hy hyb HCL HF
          obtain ⟨L2, hL2⟩ : ∃ L2, L + 1 = L2 := ⟨_, rfl⟩
          have HL2 := Aside0.mk hL2
          clear hL2
          go_wp2_with fail
          with_reducible refine HCL2.out.mono ?_
          clear HCL2
          rintro e w3 ⟨rfl, hf3, hc3⟩
          have HM3 := Aside0.mk (blk_new w3 (.cells #[.int .i64 y.lo, .int .i64 y.hi, .slice none 0 0, .int .i64 y.code, .int .i64 y.at'] 42))
          have m0 := (blk_cell HM3.out 0).trans rfl
          have m1 := (blk_cell HM3.out 1).trans rfl
          have m2 := (blk_cell HM3.out 2).trans rfl
          have m3 := (blk_cell HM3.out 3).trans rfl
          have m4 := (blk_cell HM3.out 4).trans rfl
          have hc4 := hc3.alloc (.cells #[.int .i64 y.lo, .int .i64 y.hi, .slice none 0 0, .int .i64 y.code, .int .i64 y.at'] 42)
          have hb4 := below_chg HB.out (Nat.le_refl _) hc4 (fun k hk => Nat.le_of_eq hk.symm)
          have HB4 := Aside0.mk hb4
          have HF4 := Aside0.mk (hf3.alloc (.cells #[.int .i64 y.lo, .int .i64 y.hi, .slice none 0 0, .int .i64 y.code, .int .i64 y.at'] 42))
          have hr4 := HRS.out _ hc4
          have HR4 := Aside0.mk (Kd.R_mono hr4 (ok' := fun k => k ≠ w.heap.size ∧ w.heap.size < k) (fun k hk => hk))
          have hgl := blk_lt hf3.blk
          have hgl2 : w.heap.size < (w3.alloc (.cells #[.int .i64 y.lo, .int .i64 y.hi, .slice none 0 0, .int .i64 y.code, .int .i64 y.at'] 42)).heap.size := by rw [World.size_alloc]; exact Nat.lt_succ_of_lt hgl
          have HGL := Aside0.mk hgl2
          have HMM : Aside0 (∀ W, k42.M W 0 (fun _ => False) y.s [.int .i64 y.lo, .int .i64 y.hi, .slice none 0 0, .int .i64 y.code, .int .i64 y.at']) := ⟨fun W => PChunkFeeds.k42_mkM W 0 _ y.s (v2 := .slice none 0 0) (by show (Kd.int .u8).R _ _ _ _ _ y.by'; rw [HYB.out]; exact Kd.R_nil _ _ _ _ _)⟩
          obtain ⟨wx, hwx⟩ : ∃ wx, w3.alloc (.cells #[.int .i64 y.lo, .int .i64 y.hi, .slice none 0 0, .int .i64 y.code, .int .i64 y.at'] 42) = wx := ⟨_, rfl⟩
          have HWX := Aside0.mk hwx
          rw [hwx] at HB4 HF4 HR4 HGL
          clear hf3 hc3 hc4 hb4 hr4 hgl hgl2 hwx
          go_wp2_with (first | ((with_reducible refine gate_dst (N := 78) rfl ?_); at_builtin; rw [HWX.out]; go_must (refine Kd.R_append k42 (w0 := wx) 0 rfl (.tmp 75) (.tmp 77) 31 42 (.agg #[(.int .i64 0), (.int .i64 0), (.slice none 0 0), (.int .i64 0), (.int .i64 0)]) 56 rfl (by kernel_rfl) info_Frame rfl (by decide) (by decide) (.slice Ao L co) (outs.map FX.s) y.s [.int .i64 y.lo, .int .i64 y.hi, .slice none 0 0, .int .i64 y.code, .int .i64 y.at'] (fun k => k ≠ w.heap.size ∧ w.heap.size < k) (fun _ => False) rfl (by rw [← HWX.out, World.size_alloc]; rfl) (HMM.out wx) (fun k hk => hk.elim) (fun k hk => ⟨by have := HGL.out; omega, by have := HGL.out; omega⟩) HR4.out (Below.refl _ _) (Nat.zero_le _) HLEN.out ?_); intro v5 w5 hr5 hb5 hg5 hat5; obtain ⟨A5, c5, hv5, hcc5, hC5⟩ := Kd.R_reads hr5; have hl5 : (outs.map FX.s ++ [y.s]).length = L2 := (by rw [List.length_append, List.length_map, HO.out]; exact HL2.out); rw [hl5] at hv5 hcc5; subst hv5; have HR5 := Aside0.mk hr5; have HCC5 := Aside0.mk hcc5; have HBW := Aside0.mk (below_chg HB4.out (Nat.le_refl _) (Chg.of_grown (S := fun k => some k = (Value.slice Ao L co).ownBlock) hg5 (fun k hk => hk.symm)) (fun k hk => Nat.le_of_lt (HR4.out.1 k hk.symm).2)); have HF5 := Aside0.mk (HF4.out.step (Chg.of_grown (S := fun k => some k = (Value.slice Ao L co).ownBlock) hg5 (fun k hk => hk.symm)) (fun k hk e => (by rcases hk with hk | hk; exact (HR4.out.1 k e.symm).1 hk; cases hk))); clear hr5 hb5 hg5 hat5 hcc5 hC5 hl5) | fail)
          have HAT : Aside0 (Calls Try.prog 21 #[.pointer (some ⟨w.heap.size, 0, none⟩)] w5 fun e w' => e = .returned (.int .i64 (S.pos : Int)) ∧ w5 = w') := ⟨frat_calls _ _ HF5.out⟩
          with_reducible refine HAT.out.mono ?_
          rintro e w6 ⟨rfl, rfl⟩
          go_wp2
          refine bodyPost_ret (v := .tuple #[.slice A5 L2 c5, .bool true, .int .i64 (S.pos : Int)]) (by simp [results, Try.results24, go_sem]) rfl ?_
          have hl : (outs ++ [y]).length = L2 := by rw [List.length_append, HO.out]; exact HL2.out
          rw [HWL.out, HCS.out, HST.out, hl]
          refine ⟨A5, c5, fun k => k ≠ w.heap.size ∧ w.heap.size < k, rfl, HCC5.out, ?_, fun k hk => Nat.le_of_lt hk.2, HBW.out⟩
          rw [List.map_append]
          exact HR5.out
end Go.Proofs.Ytmbfjaogimkncaa
