/- Package chunk: Feed: the frames that end in a chunk; no condition. -/
import Derived.Test.YtmbfjaogimkncaaFrIter
import Derived.Test.YtmbfjaogimkncaaPChunkFeedsx0
import Derived.Maps.OwnIn
namespace Go.Proofs.Ytmbfjaogimkncaa
open Go.RowKit Go.Proofs.YtmbfjaogimkncaaW.PrintWords Go.Proofs.YtmbfjaogimkncaaW.PrintLast Go.Proofs.YtmbfjaogimkncaaW.PrintMore
open PChunkFeeds (S40 S42 k40 k42)
set_option linter.unusedVariables false
set_option linter.unusedSimpArgs false
attribute [local go_sem] wide_fn wide_depth Fence.wide_round Oper.semAt_some
def FX.s (x : FX) : S42 := ⟨x.lo, x.hi, x.by', ⟨x.code, x.at'⟩⟩
theorem info_Frame : (Try.prog.info? 42).map (fun i => (i.zero, i.size, i.bytes)) = some (some (.agg #[(.int .i64 0), (.int .i64 0), (.slice none 0 0), (.int .i64 0), (.int .i64 0)]), 5, 56) := by kernel_rfl
theorem R_append_in {α : Type} {F : Fence} {nF : Nat} {P : Program} {ops : Array Oper} {rest : List Oper} {o : Oper} {a : Act} {Q : Exit → Act → World → Prop} (d : Kd α) {W : World} (base : Nat) (hgd : o.guard = none) (s x : Operand) (t e : TypeId) (z : Value) (bytes : Nat)
    (ho : o.op = .call { callee := .builtin .append, args := #[s, x], argTypes := #[t, t] })
    (ht : P.underlying t = some (.slice e)) (hinfo : (P.info? e).map (fun i => (i.zero, i.size, i.bytes)) = some (some z, d.sz, bytes)) (hz : z.cells.size = d.sz) (hs0 : 0 < d.sz) (hb0 : 0 < bytes)
    (v : Value) (xs : List α) (p : α) (cs : List Value) (ok okp : Nat → Prop) (hs : a.eval s = v) (hx : a.eval x = .slice (some ⟨W.heap.size, 0, none⟩) 1 1) (hp : d.M W base okp p cs) (hokp : ∀ k, okp k → ok k ∧ some k ≠ v.ownBlock) (hfresh : ∀ k, W.heap.size ≤ k → ok k)
    (HO : d.R e W base ok v xs) (hbase : base ≤ W.heap.size) (hl : (xs.length + 1) * bytes ≤ 140737488355328)
    (h : ∀ v1 w1, d.R e w1 base ok v1 (xs ++ [p]) → W.grownBy w1 v.ownBlock → (v1.ownBlock = v.ownBlock ∨ ∃ b, v1.ownBlock = some b ∧ W.heap.size ≤ b) → wpListIn F nF P ops Q rest (a.put o.dst v1) w1) :
    wpListIn F nF P ops Q (o :: rest) a (W.alloc (.cells cs.toArray e)) := by
  obtain ⟨h0, inner, hown, hr⟩ := HO
  obtain ⟨i0, hi, hzz⟩ := Option.map_eq_some_iff.1 hinfo
  simp only [Prod.mk.injEq] at hzz
  obtain ⟨hz0, hz1, hz2⟩ := hzz
  have hlen : xs.length + 1 ≤ 140737488355328 := Nat.le_trans (Nat.le_mul_of_pos_right _ hb0) hl
  have hcl : cs.length = d.sz := d.K_len (d.K_of_M hp)
  refine wpListIn_append_own_at (W.alloc (.cells cs.toArray e)) hgd s x t ho base e i0 z d.sz bytes ht hi hz0 hz1 hz2 hz hs0 v xs.length inner hs (hown.alloc _) ⟨W.heap.size, 0, none⟩ 1 1 cs hx (by rw [hcl]; simp)
    (by simpa using World.news_of_block (cs := cs.toArray) (t := e) (fr := (0, 0)) (heap_alloc_new W (.cells cs.toArray e))) (d.K_one (d.K_of_M hp)) (by simp only [maxLen]; omega) hl (by simp; omega) ?_
  intro v1 w1 hown1 hg1 _ hat
  have hg2 := World.grownBy.trans (World.grownBy_alloc W (.cells cs.toArray e) v.ownBlock) hg1
  have hat2 : v1.ownBlock = v.ownBlock ∨ ∃ b, v1.ownBlock = some b ∧ W.heap.size ≤ b := by
    rcases hat with hat | hat
    · exact .inl hat
    · exact .inr ⟨_, hat, by simp⟩
  exact h v1 w1 (Kd.R_appended h0 hr hp hokp hfresh hown1 hg2 hat2) hg2 hat2
/-- What the loop's body keeps. -/
structure FeedI (w0 : World) (F0 : Nat → Prop) (bo : Nat) (O : Nat → Prop) (pre : List FX) (W : World) : Prop where
  row : ∃ v F, W.heap[bo]? = some (.cells #[v] 31 (0, 0)) ∧ k42.R 42 W 0 F v (pre.map FX.s) ∧ (∀ k, F k → ¬ O k ∧ k < W.heap.size ∧ (F0 k ∨ w0.heap.size ≤ k))
  out : ¬ O bo
  lt : ∀ k, O k → k < W.heap.size ∧ (F0 k ∨ w0.heap.size ≤ k)
  chg : Chg F0 w0 W
theorem FeedI.apart (w0 : World) (F0 : Nat → Prop) (bo : Nat) (hbo : w0.heap.size ≤ bo) : Apart (FeedI w0 F0 bo) := by
  constructor
  rintro O O' s W W' ⟨⟨v, F, h1, h2, h3⟩, h4, h5, h6⟩ hc ho
  have l1 := blk_lt h1
  refine ⟨⟨v, F, (hc.block _ l1 h4).trans h1, Kd.R_step h2 (fun k hk hl => hc.block k hl (h3 k hk).1), fun k hk => ⟨?_, Nat.lt_of_lt_of_le (h3 k hk).2.1 hc.size, (h3 k hk).2.2⟩⟩, ?_, ?_, ?_⟩
  · intro e
    rcases ho k e with e | e
    · exact (h3 k hk).1 e
    · have := (h3 k hk).2.1; omega
  · intro e
    rcases ho bo e with e | e
    · exact h4 e
    · omega
  · intro k hk
    rcases ho k hk with e | e
    · exact ⟨Nat.lt_of_lt_of_le (h5 k e).1 hc.size, (h5 k e).2⟩
    · exact ⟨e.2, .inr (Nat.le_trans h6.size e.1)⟩
  · refine ⟨hc.os.trans h6.os, hc.tape.trans h6.tape, hc.output.trans h6.output, Nat.le_trans h6.size hc.size, fun k hk hn => ?_⟩
    refine (hc.block k (Nat.lt_of_lt_of_le hk h6.size) (fun e => ?_)).trans (h6.block k hk hn)
    rcases (h5 k e).2 with e2 | e2
    · exact hn e2
    · omega
theorem FeedI.put {w0 : World} {F0 : Nat → Prop} {bo : Nat} {O : Nat → Prop} {s : List FX} {W : World} {r : Nat} {o : Obj} (o' : Obj) (h : FeedI w0 F0 bo O s W) (hr : w0.heap.size ≤ r) (ho : W.heap[r]? = some o) (hc : o.isCells = false) : FeedI w0 F0 bo O s (W.putObj r o') := by
  obtain ⟨⟨v, F, h1, h2, h3⟩, h4, h5, h6⟩ := h
  have hne : ∀ k cs t, W.heap[k]? = some (.cells cs t (0, 0)) → k ≠ r := by
    rintro k cs t hk rfl
    rw [ho] at hk
    cases hk
    cases hc
  refine ⟨⟨v, F, (World.putObj_heap_other (hne _ _ _ h1)).trans h1, ?_, fun k hk => ⟨(h3 k hk).1, by rw [World.putObj_size]; exact (h3 k hk).2.1, (h3 k hk).2.2⟩⟩, h4, fun k hk => ⟨by rw [World.putObj_size]; exact (h5 k hk).1, (h5 k hk).2⟩, h6.putObj (.inr hr) _⟩
  refine Kd.R_mono (Kd.R_move (Kd.R_bound h2) (fun k hk => ?_)) (fun k hk => hk.1)
  obtain ⟨_, _, _, q, _, cells, hcell⟩ := hk
  exact World.putObj_heap_other (hne _ _ _ hcell)
set_option maxHeartbeats 4000000 in
set_option maxRecDepth 100000 in
theorem frfeed_calls (f : Fr) (A : Option Addr) (n c : Nat) (xs : List Int) (w : World) (h : FrAt f w) (he : f.ended = false) (hok : FSok f.most f.fs) (h0 : 0 ≤ f.most) (hm : f.most ≤ 1048576) (hC : (Kd.int .u8).C w A n xs) (hx : ∀ x ∈ xs, 0 ≤ x ∧ x < 256) (hbig : f.pos + xs.length ≤ 1000000000000) :
    Calls Try.prog 18 #[.pointer (some ⟨f.g, 0, none⟩), .slice A n c] w fun e w' => ∃ v f' F, e = .returned (.tuple #[v, .int .i64 0]) ∧ k42.R 42 w' 0 F v ((frun f.most f.fs xs).2.map FX.s) ∧ FrAt f' w' ∧ f'.g = f.g ∧ f'.most = f.most ∧ f'.fs = (frun f.most f.fs xs).1 ∧
      (∀ k, F k → ¬ f'.F k ∧ (f.F k ∨ w.heap.size ≤ k)) ∧ (∀ k, f'.F k → f.F k ∨ w.heap.size ≤ k) ∧ Chg f.F w w' := by
  have hlen := hC.1
  have HCK := Aside0.mk (frcheck_ok f w h he)
  have HCL := Aside0.mk (clone_calls A n c xs (w.alloc (.cells #[.slice none 0 0] 31)) (Kd.C_alloc hC _) (by omega))
  have H := Aside0.mk h
  have HE := Aside0.mk he
  have HOK := Aside0.mk hok
  have HX := Aside0.mk hx
  have HB := Aside0.mk hbig
  clear h he hok hC hx hbig
  refine (callsIn_wide (n := 0)).1 ?_
  refine callsIn_of_wp_marks Try.func18 rfl trivial ?_ rfl
  simp only [Try.ntmps18, List.size_toArray, List.length_cons, List.length_nil, Nat.reduceAdd, Nat.reduceSub, Array.replicate_succ, Array.replicate_zero, List.push_toArray, List.append_toArray, List.nil_append, List.cons_append]
  gi_wp2_with fail
  refine (callsIn_wide.2 HCK.out).mono ?_
  clear HCK
  rintro e w1 ⟨rfl, rfl⟩
  gi_wp2_with fail
  refine (callsIn_wide.2 HCL.out).mono ?_
  clear HCL
  rintro e w1 ⟨v, rfl, hr, hb⟩
  obtain ⟨A1, c1, hv, hc1, hC1⟩ := Kd.R_reads hr
  subst hv
  obtain ⟨N, hN⟩ : ∃ N, xs.length = N := ⟨_, rfl⟩
  rw [hN] at hr hc1 hC1 ⊢
  have HR := Aside0.mk hr
  have HC1 := Aside0.mk hC1
  have HBL := Aside0.mk hb
  have HN := Aside0.mk hN
  have HCC := Aside0.mk hc1
  clear hr hb hC1 hN hc1
  have HFR := Aside0.mk (frframes_calls f.g A1 N c1 w1)
  gi_wp2_with fail
  refine (callsIn_wide.2 HFR.out).mono ?_
  clear HFR
  rintro e w2 ⟨rfl, rfl⟩
  gi_wp2_with fail
  have hfw1 : FrAt f w1 := H.out.below (((Below.refl _ w).alloc (Nat.le_refl _) _).trans (HBL.out.mono (by simp)))
  have hsz : w.heap.size + 1 ≤ w1.heap.size := by have := HBL.out.size; simp at this; omega
  obtain ⟨W0, hW0⟩ : ∃ W0, (w1.alloc (.cells #[.pointer (some ⟨f.g, 0, none⟩)] 25)).alloc (.cells #[.slice A1 N c1] 22) = W0 := ⟨_, rfl⟩
  rw [hW0]
  have hc01 : Chg (fun _ => False) w1 W0 := by rw [← hW0]; exact ((Chg.refl _ _).alloc _).alloc _
  have hs0 : W0.heap.size = w1.heap.size + 2 := by rw [← hW0]; simp
  have hbb : W0.heap[w1.heap.size + 1]? = some (.cells #[.slice A1 xs.length c1] 22 (0, 0)) := by
    rw [← hW0, HN.out]
    have := blk_new (w1.alloc (.cells #[.pointer (some ⟨f.g, 0, none⟩)] 25)) (.cells #[.slice A1 N c1] 22)
    rwa [World.size_alloc] at this
  have hbf : W0.heap[w1.heap.size]? = some (.cells #[.pointer (some ⟨f.g, 0, none⟩)] 25 (0, 0)) := by
    rw [← hW0]
    exact blk_alloc (blk_new w1 _) _
  have hbo : W0.heap[w.heap.size]? = some (.cells #[.slice none 0 0] 31 (0, 0)) :=
    (hc01.block _ (by omega) (fun h => h)).trans ((HBL.out.block _ (by simp)).trans (blk_new w _))
  have hlo : ∀ k, f.F k → k < w.heap.size := H.out.lt
  have hKl : ∀ k, some k = (Value.slice A1 N c1).ownBlock → w.heap.size + 1 ≤ k ∧ k < w1.heap.size := by
    intro k hk
    refine ⟨?_, Kd.R_lt HR.out k hk.symm⟩
    have := Kd.R_base HR.out k hk.symm
    simpa using this
  have HIT : Aside0 (ItAt f.most f.g (w1.heap.size + 1) w1.heap.size (Value.slice A1 N c1).ownBlock f A1 c1 xs W0) := by
    refine ⟨⟨hfw1.step hc01 (fun _ _ h => h), rfl, rfl, hbb, hbf, ?_, ?_, ?_, ?_, ?_, HX.out, ?_⟩⟩
    · have h1 := HC1.out
      rw [← HN.out] at h1
      refine C_keep h1 (fun ad e => hc01.block _ (hKl _ ?_).2 (fun h => h))
      rw [e]; rfl
    · intro ad e
      rw [e]; rfl
    · rw [HN.out]; exact HCC.out
    · intro k hk
      have := (hKl k hk).2
      omega
    · intro k hk
      have h1 := hKl k hk
      refine ⟨fun e => ?_, fun e => ?_, by omega, by omega⟩
      · have := hlo k (.inr e); omega
      · have := hlo k (.inl e); omega
    · have := HB.out; omega
  have hOl : ∀ k, OO f.g (w1.heap.size + 1) w1.heap.size f.v (Value.slice A1 N c1).ownBlock k → f.F k ∨ w.heap.size + 1 ≤ k := by
    rintro k (hk | hk | hk | hk | hk)
    · exact .inl (.inl hk)
    · exact .inl (.inr hk)
    · exact .inr (by omega)
    · exact .inr (by omega)
    · exact .inr (hKl k hk).1
  have HI0 : Aside0 (FeedI w f.F w.heap.size (OO f.g (w1.heap.size + 1) w1.heap.size f.v (Value.slice A1 N c1).ownBlock) [] W0) := by
    refine ⟨⟨⟨_, fun _ => False, hbo, Kd.R_nil _ _ _ _ _, fun k hk => hk.elim⟩, fun e => ?_, fun k hk => ⟨HIT.out.own k hk, ?_⟩, ?_⟩⟩
    · rcases hOl _ e with e | e
      · have := hlo _ e; omega
      · omega
    · rcases hOl _ hk with e | e
      · exact .inl e
      · exact .inr (by omega)
    · exact (Chg.of_below (((Below.refl _ w).alloc (Nat.le_refl _) _).trans (HBL.out.mono (by simp))) f.F).trans (hc01.mono' (T := f.F) (fun _ h => h.elim)) (fun _ h => .inl h)
  have HFF := Aside0.mk hlo
  have HOL := Aside0.mk hOl
  have HS0 := Aside0.mk hsz
  have HS1 := Aside0.mk hs0
  clear hW0 hc01 hbb hbf hbo hKl hOl hfw1 HR HC1 HBL
  refine range_apart (gf := 77) (lb := #[.pointer (some ⟨w1.heap.size + 1, 0, none⟩), .pointer (some ⟨w1.heap.size, 0, none⟩)]) rfl (enters_of Try.func77 (by kernel_rfl) rfl)
    HIT.out.own (fun O O1 x W (hk : FVok O O1 x W) k h1 => (hk.less k h1).1) (fun O O1 x W W' (hk : FVok O O1 x W) hc => hk.keep hc) ?_ (frames1_owns 0 f.most h0 hm f.g _ _ _ f A1 c1 xs W0 HE.out HOK.out HIT.out) (fun _ => rfl)
    (FeedI w f.F w.heap.size) (FeedI.apart w f.F w.heap.size (Nat.le_refl _)) (fun O s W r o o' hi hr ho hc => hi.put o' (by omega) ho hc) HI0.out 42 FV.cells
    (fun x B => { tmps := #[.pointer (some ⟨f.g, 0, none⟩), .slice A n c, undef, undef, .slice none 0 0, .int .i64 0, .int .i64 0, .pointer (some ⟨w.heap.size, 0, none⟩), .pointer (some ⟨B, 0, none⟩), .pointer (some ⟨f.g, 0, none⟩), .int .i64 0, .int .i64 0, .bool false, undef, .pointer (some ⟨f.g, 0, none⟩), .slice A n c, .slice A1 N c1, .func (.func 77) #[] #[.pointer (some ⟨w1.heap.size + 1, 0, none⟩), .pointer (some ⟨w1.heap.size, 0, none⟩)], .agg x.cells, undef, undef, undef, undef, undef], defers := [] }) ?assign ?body ?done
  · rintro O ys W W' ⟨f', h1, h2, h3⟩ hc
    exact ⟨f', h1.step hc (fun k hk hn => hn (h2 k hk)), h2, h3⟩
  case assign =>
    intro l x W K hK
    unfold FV.cells at hK ⊢
    gi_wp2
    exact hK
  case body =>
    rintro l B O O1 pre x W ⟨⟨v, F, h1, h2, h3⟩, h4, h5, h6⟩ hok hB hBs hOB hpn
    obtain ⟨A2, c2, hv2, hcc2, hC2⟩ := Kd.R_reads h2
    obtain ⟨L, hL⟩ : ∃ L, (pre.map FX.s).length = L := ⟨_, rfl⟩
    rw [hL] at hv2
    subst hv2
    have HH2 := Aside0.mk h2
    have HH3 := Aside0.mk h3
    have HH1 := Aside0.mk h1
    have hpl : L = pre.length := by rw [← hL, List.length_map]
    have kb := (blk_cell h1 0).trans rfl
    have fb := blk_frozen h1 0
    have HLL := Aside0.mk hL
    have HBB := Aside0.mk hB
    unfold FV.cells at hB
    have b0 := (blk_cell hB 0).trans rfl
    have b1 := (blk_cell hB 1).trans rfl
    have b2 := (blk_cell hB 2).trans rfl
    have b3 := (blk_cell hB 3).trans rfl
    have b4 := (blk_cell hB 4).trans rfl
    have HH5 := Aside0.mk h5
    have HH6 := Aside0.mk h6
    have HH4 := Aside0.mk h4
    have HOKx := Aside0.mk hok
    have hbN : pre.length + 1 ≤ 1000000000000 := by have := HB.out; omega
    clear h1 h2 h3 h4 h5 h6 hB hok hC2 hcc2 hL
    unfold FV.cells
    have HMM := Aside0.mk (PChunkFeeds.k42_mkM W 0 (fun k => some k = x.v.ownBlock) x.fx.s (v2 := .slice x.A x.fx.by'.length x.c) HOKx.out.row)
    have HROK := Aside0.mk (Kd.R_mono HH2.out (ok' := fun k => F k ∨ some k = x.v.ownBlock ∨ W.heap.size ≤ k) (fun k hk => .inl hk))
    have HOKP : Aside0 (∀ k, some k = x.v.ownBlock → (F k ∨ some k = x.v.ownBlock ∨ W.heap.size ≤ k) ∧ some k ≠ (Value.slice A2 L c2).ownBlock) := ⟨fun k hk => ⟨.inr (.inl hk), fun e => (HH3.out k (HH2.out.1 k e.symm)).1 (HOKx.out.own k hk)⟩⟩
    have HLB : Aside0 (((pre.map FX.s).length + 1) * 56 ≤ 140737488355328) := ⟨by rw [HLL.out]; omega⟩
    have hbov : some w.heap.size ≠ (Value.slice A2 L c2).ownBlock := Kd.R_ne HH2.out HH1.out (by decide)
    have HBOV := Aside0.mk hbov
    have HPL := Aside0.mk hpl
    have HBN := Aside0.mk hbN
    clear hpl hbN hbov hpn
    gi_wp2_with (gi_at_builtin; refine R_append_in k42 0 rfl (.tmp 19) (.tmp 21) 31 42 (.agg #[(.int .i64 0), (.int .i64 0), (.slice none 0 0), (.int .i64 0), (.int .i64 0)]) 56 rfl (by kernel_rfl) info_Frame rfl (by decide) (by decide) (.slice A2 L c2) (pre.map FX.s) x.fx.s [.int .i64 x.fx.lo, .int .i64 x.fx.hi, .slice x.A x.fx.by'.length x.c, .int .i64 x.fx.code, .int .i64 x.fx.at'] (fun k => F k ∨ some k = x.v.ownBlock ∨ W.heap.size ≤ k) (fun k => some k = x.v.ownBlock) rfl rfl HMM.out HOKP.out (fun k hk => .inr (.inr hk)) HROK.out (Nat.zero_le _) HLB.out ?_; intro v1 w2 hr1 hg1 hat1; obtain ⟨A3, c3, hv3, hcc3, hC3⟩ := Kd.R_reads hr1; obtain ⟨L3, hL3⟩ : ∃ L3, (pre.map FX.s ++ [x.fx.s]).length = L3 := ⟨_, rfl⟩; rw [hL3] at hv3; subst hv3; have HR1 := Aside0.mk hr1; have HG1 := Aside0.mk hg1; have HAT := Aside0.mk hat1; have hbo2 := (hg1.block _ (blk_lt HH1.out) HBOV.out).trans HH1.out; have HBO2 := Aside0.mk hbo2; have kb2 := (blk_cell hbo2 0).trans rfl; have fb2 := blk_frozen hbo2 0; clear hr1 hg1 hat1 hcc3 hC3 hL3 hbo2)
    have hwsz := HG1.out.size
    have hct : Chg (fun k => some k = (Value.slice A2 L c2).ownBlock ∨ k = w.heap.size) W (w2.setCell ⟨w.heap.size, 0, none⟩ (.slice A3 L3 c3)) := (Chg.of_grown HG1.out (fun k hk => .inl hk.symm)).setCell (.inl (.inr rfl)) _
    have hvF : ∀ k, some k = (Value.slice A2 L c2).ownBlock → F k := fun k hk => HH2.out.1 k hk.symm
    have hno : ∀ k, (some k = (Value.slice A2 L c2).ownBlock ∨ k = w.heap.size) → ¬ O k := by
      rintro k (hk | rfl)
      · exact (HH3.out k (hvF k hk)).1
      · exact HH4.out
    refine ⟨?_, ⟨⟨.slice A3 L3 c3, fun k => (F k ∨ some k = x.v.ownBlock ∨ W.heap.size ≤ k) ∧ k < w2.heap.size, ?_, ?_, ?_⟩, fun h => HH4.out (HOKx.out.less _ h).1, ?_, ?_⟩, ?_⟩
    · refine (KeepsOthers.of_grownBy HG1.out (fun j o e ho => ?_)).trans (KeepsOthers.setCell _ _ _)
      obtain ⟨inner, hown⟩ := Kd.R_own HH2.out
      obtain ⟨cells, hc⟩ := own_typed hown j e
      rw [hc] at ho
      cases ho
      rfl
    · exact (blk_put HBO2.out 0 _ rfl).trans rfl
    · rw [List.map_append]
      refine Kd.R_mono (Kd.R_bound (Kd.R_set HR1.out HBO2.out (by decide) 0 _)) (fun k hk => ⟨hk.1, ?_⟩)
      have := hk.2.2.1
      simpa [World.setCell] using this
    · rintro k ⟨hk, hl⟩
      refine ⟨fun h1 => ?_, by simpa [World.setCell] using hl, ?_⟩
      · have h2 := HOKx.out.less k h1
        rcases hk with hk | hk | hk
        · exact (HH3.out k hk).1 h2.1
        · exact h2.2 hk
        · have := (HH5.out k h2.1).1; omega
      · rcases hk with hk | hk | hk
        · exact (HH3.out k hk).2.2
        · exact (HH5.out k (HOKx.out.own k hk)).2
        · exact .inr (Nat.le_trans HH6.out.size hk)
    · intro k hk
      have h1 := HH5.out k (HOKx.out.less k hk).1
      refine ⟨?_, h1.2⟩
      have : k < w2.heap.size := by omega
      simpa [World.setCell] using this
    · refine ⟨hct.os.trans HH6.out.os, hct.tape.trans HH6.out.tape, hct.output.trans HH6.out.output, Nat.le_trans HH6.out.size hct.size, fun k hk hn => ?_⟩
      refine (hct.block k (Nat.lt_of_lt_of_le hk HH6.out.size) ?_).trans (HH6.out.block k hk hn)
      rintro (e | e)
      · rcases (HH3.out k (hvF k e)).2.2 with e2 | e2
        · exact hn e2
        · omega
      · omega
    · exact hct.mono' (fun k hk h1 => hno k hk (HOKx.out.less k h1).1)
  case done =>
    rintro D O outs W hD ⟨f', hf1, hf2, hf3, hf4, hf5, hf6⟩ hI hDef hOD
    have HI1 := Aside0.mk hI
    obtain ⟨⟨v, F, h1, h2, h3⟩, h4, h5, h6⟩ := hI
    have kb := (blk_cell h1 0).trans rfl
    have HB1 := Aside0.mk h1
    have HF1 := Aside0.mk hf1
    have HF2 := Aside0.mk hf2
    have HF5 := Aside0.mk (And.intro hf5 hf6)
    clear h2 h3 h4 h5 h6 hf1 hf2 hf5 hf6 h1
    gi_wp2
    refine ⟨by simp, .inl ⟨_, _, rfl, run_takeDeferred hDef, ?_⟩⟩
    have hI2 := HI1.out.put (.deferred none) (by omega) hDef rfl
    obtain ⟨⟨v2, F2, k1, k2, k3⟩, k4, k5, k6⟩ := hI2
    have hv : v = v2 := by
      have e1 : (W.putObj D (.deferred none)).heap[w.heap.size]? = W.heap[w.heap.size]? := World.putObj_heap_other (fun e => by omega)
      rw [e1, HB1.out] at k1
      injection k1 with k1
      injection k1 with k1
      injection k1 with k1
      injection k1
    subst hv
    refine ⟨.tuple #[v, .int .i64 0], by simp [results, Try.results18, go_sem], v, f', F2, rfl, ?_, HF1.out.step ((Chg.refl _ W).putObj (S := fun k => k = D) (.inl rfl) _) (fun k hk e => hOD (by subst e; exact HF2.out _ hk)), hf3, hf4, HF5.out.1, fun k hk => ⟨fun e => (k3 k hk).1 (HF2.out k e), (k3 k hk).2.2⟩, fun k hk => (k5 k (HF2.out k hk)).2, k6⟩
    rw [← HF5.out.2]
    exact k2
end Go.Proofs.Ytmbfjaogimkncaa
