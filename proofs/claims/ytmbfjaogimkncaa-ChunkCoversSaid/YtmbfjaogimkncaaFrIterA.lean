/- Package chunk: the iterator over a framer's frames: what it holds between two bytes; no condition. -/
import Derived.Test.YtmbfjaogimkncaaFrHead
import Derived.Test.YtmbfjaogimkncaaFrBody
import Derived.Test.YtmbfjaogimkncaaFrBody
import Derived.Test.YtmbfjaogimkncaaRange
namespace Go.Proofs.Ytmbfjaogimkncaa
open Go.RowKit Go.Proofs.YtmbfjaogimkncaaW.PrintWords Go.Proofs.YtmbfjaogimkncaaW.PrintLast Go.Proofs.YtmbfjaogimkncaaW.PrintMore
set_option linter.unusedVariables false
set_option linter.unusedSimpArgs false
/-- A frame as it is handed to the loop's body. -/
structure FV where
  A : Option Addr
  c : Nat
  fx : FX
def FV.v (x : FV) : Value := .slice x.A x.fx.by'.length x.c
def FV.cells (x : FV) : Array Value := #[.int .i64 x.fx.lo, .int .i64 x.fx.hi, .slice x.A x.fx.by'.length x.c, .int .i64 x.fx.code, .int .i64 x.fx.at']
structure FVok (O O1 : Nat → Prop) (x : FV) (w : World) : Prop where
  row : (Kd.int .u8).R 5 w 0 (fun k => some k = x.v.ownBlock) x.v x.fx.by'
  own : ∀ k, some k = x.v.ownBlock → O k
  less : ∀ k, O1 k → O k ∧ some k ≠ x.v.ownBlock
theorem FVok.keep {O O1 : Nat → Prop} {x : FV} {W W' : World} (h : FVok O O1 x W) (hc : Chg (fun k => ¬ O k) W W') : FVok O O1 x W' where
  row := Kd.R_step h.row (fun k hk hl => hc.block k hl (fun hn => hn (h.own k hk)))
  own := h.own
  less := h.less
def Fr.fs (f : Fr) : FS := ⟨f.pos, f.op, f.need, f.ended⟩
/-- The blocks that the iterator owns. -/
def OO (g bb bf : Nat) (v : Value) (K : Option Nat) (k : Nat) : Prop := k = g ∨ some k = v.ownBlock ∨ k = bb ∨ k = bf ∨ some k = K
theorem C_keep {k : IntKind} {A : Option Addr} {n : Nat} {xs : List Int} {W W' : World} (h : (Kd.int k).C W A n xs) (hm : ∀ ad, A = some ad → W'.heap[ad.block]? = W.heap[ad.block]?) : (Kd.int k).C W' A n xs := by
  refine ⟨h.1, h.2.1, fun hn => ?_⟩
  obtain ⟨ad, e, hc⟩ := h.2.2 hn
  refine ⟨ad, e, fun j p hj => ?_⟩
  obtain ⟨c, h1, h2, h3⟩ := hc j p hj
  exact ⟨c, h1, h2, fun i u hu => (World.cell?_of_block (by rw [add_block]; exact hm _ e)).trans (h3 i u hu)⟩
structure ItAt (most : Int) (g bb bf : Nat) (K : Option Nat) (f : Fr) (A : Option Addr) (c : Nat) (xs : List Int) (W : World) : Prop where
  fr : FrAt f W
  hg : f.g = g
  hmost : f.most = most
  kb : W.heap[bb]? = some (.cells #[.slice A xs.length c] 22 (0, 0))
  kf : W.heap[bf]? = some (.cells #[.pointer (some ⟨g, 0, none⟩)] 25 (0, 0))
  row : (Kd.int .u8).C W A xs.length xs
  blk : ∀ ad, A = some ad → some ad.block = K
  cap : xs.length ≤ c
  lt : ∀ k, some k = K → k < W.heap.size
  ne : ∀ k, some k = K → some k ≠ f.v.ownBlock ∧ k ≠ g ∧ k ≠ bb ∧ k ≠ bf
  byte : ∀ x ∈ xs, 0 ≤ x ∧ x < 256
  big : f.pos + xs.length ≤ 140737488350000
section
variable {most : Int} {g bb bf : Nat} {K : Option Nat} {f : Fr} {A : Option Addr} {c : Nat} {xs : List Int} {W W' : World} {S : Nat → Prop}
theorem ItAt.own (h : ItAt most g bb bf K f A c xs W) : ∀ k, OO g bb bf f.v K k → k < W.heap.size := by
  rintro k (rfl | hk | rfl | rfl | hk)
  · rw [← h.hg]; exact blk_lt h.fr.blk
  · exact h.fr.lt k (.inr hk)
  · exact blk_lt h.kb
  · exact blk_lt h.kf
  · exact h.lt k hk
theorem ItAt.keep (h : ItAt most g bb bf K f A c xs W) (hc : Chg S W W') (hs : ∀ k, OO g bb bf f.v K k → ¬ S k) : ItAt most g bb bf K f A c xs W' where
  fr := h.fr.step hc (fun k hk => hs k (by rcases hk with rfl | hk; exact .inl h.hg; exact .inr (.inl hk)))
  hg := h.hg
  hmost := h.hmost
  kb := (hc.block _ (blk_lt h.kb) (hs _ (.inr (.inr (.inl rfl))))).trans h.kb
  kf := (hc.block _ (blk_lt h.kf) (hs _ (.inr (.inr (.inr (.inl rfl)))))).trans h.kf
  row := C_keep h.row (fun ad e => hc.block _ (h.lt _ (h.blk ad e)) (hs _ (.inr (.inr (.inr (.inr (h.blk ad e)))))))
  blk := h.blk
  cap := h.cap
  lt := fun k hk => Nat.lt_of_lt_of_le (h.lt k hk) hc.size
  ne := h.ne
  byte := h.byte
  big := h.big
theorem ItAt.types (h : ItAt most g bb bf K f A c xs W) : bb ≠ g ∧ bf ≠ g ∧ bb ≠ bf := by
  have h1 := h.fr.blk
  rw [h.hg] at h1
  have h2 := h.kb
  have h3 := h.kf
  refine ⟨?_, ?_, ?_⟩
  · rintro rfl
    rw [h1] at h2
    injection h2 with h2
    injection h2 with _ h2
    exact absurd h2 (by decide)
  · rintro rfl
    rw [h1] at h3
    injection h3 with h3
    injection h3 with _ h3
    exact absurd h3 (by decide)
  · rintro rfl
    rw [h2] at h3
    injection h3 with h3
    injection h3 with _ h3
    exact absurd h3 (by decide)
/-- A byte's call has turned the framer; the rest of the bytes has been stored. -/
theorem ItAt.turned (h : ItAt most g bb bf K f A c xs W) {F' : Value → Fr} {W1 : World} (ht : FrTurn f F' W W1) (hF : ∀ v', (F' v').v = v' ∧ (F' v').g = g ∧ (F' v').most = most) {A' : Option Addr} {c' : Nat} {ys : List Int} (hrow : (Kd.int .u8).C W A' ys.length ys)
    (hA' : ∀ ad, A' = some ad → some ad.block = K) (hcap : ys.length ≤ c') (hbyte : ∀ x ∈ ys, 0 ≤ x ∧ x < 256) (hbig : ∀ v', (F' v').pos + ys.length ≤ 140737488350000) :
    ∃ v', ItAt most g bb bf K (F' v') A' c' ys (W1.setCell ⟨bb, 0, none⟩ (.slice A' ys.length c')) ∧ Chg (OO g bb bf f.v K) W (W1.setCell ⟨bb, 0, none⟩ (.slice A' ys.length c')) ∧
      (∀ k, OO g bb bf v' K k → OO g bb bf f.v K k ∨ W.heap.size ≤ k ∧ k < (W1.setCell ⟨bb, 0, none⟩ (.slice A' ys.length c')).heap.size) ∧ FrAt (F' v') W1 ∧ W1.heap[bb]? = some (.cells #[.slice A xs.length c] 22 (0, 0)) ∧ W1.heap[bf]? = some (.cells #[.pointer (some ⟨g, 0, none⟩)] 25 (0, 0)) := by
  obtain ⟨v', h1, h2, h3⟩ := ht
  obtain ⟨e1, e2, e3⟩ := hF v'
  obtain ⟨t1, t2, t3⟩ := h.types
  have hbbr : some bb ≠ f.v.ownBlock := Kd.R_ne h.fr.row h.kb (by decide)
  have hbfr : some bf ≠ f.v.ownBlock := Kd.R_ne h.fr.row h.kf (by decide)
  have hbb1 : W1.heap[bb]? = some (.cells #[.slice A xs.length c] 22 (0, 0)) := (h2.block _ (blk_lt h.kb) (by rintro (e | e); exact t1 (e.trans h.hg); exact hbbr e)).trans h.kb
  have hbf1 : W1.heap[bf]? = some (.cells #[.pointer (some ⟨g, 0, none⟩)] 25 (0, 0)) := (h2.block _ (blk_lt h.kf) (by rintro (e | e); exact t2 (e.trans h.hg); exact hbfr e)).trans h.kf
  have hK1 : ∀ k, some k = K → W1.heap[k]? = W.heap[k]? := fun k hk => h2.block _ (h.lt k hk) (by rintro (e | e); exact (h.ne k hk).2.1 (e.trans h.hg); exact (h.ne k hk).1 e)
  have hlt1 := h1.lt
  have hr1 := h1.row
  rw [e1] at hr1
  have hbbv : some bb ≠ v'.ownBlock := Kd.R_ne hr1 hbb1 (by decide)
  have hs : (W1.setCell ⟨bb, 0, none⟩ (.slice A' ys.length c')).heap.size = W1.heap.size := by simp [World.setCell]
  refine ⟨v', ⟨?_, e2, e3, ?_, ?_, ?_, hA', hcap, ?_, ?_, hbyte, hbig v'⟩, ?_, ?_, h1, hbb1, hbf1⟩
  · refine h1.step ((Chg.refl (fun k => k = bb) W1).set1 0 _) ?_
    rintro k (hk | hk) rfl
    · exact t1 (hk.trans e2)
    · rw [e1] at hk; exact hbbv hk
  · exact (blk_put hbb1 0 _ rfl).trans rfl
  · exact (Below.heap_setCell _ _ _ _ (fun e => t3 e.symm)).trans hbf1
  · refine C_keep hrow (fun ad e => ?_)
    exact (Below.heap_setCell _ _ _ _ (h.ne _ (hA' ad e)).2.2.1).trans (hK1 _ (hA' ad e))
  · intro k hk
    rw [hs]
    exact Nat.lt_of_lt_of_le (h.lt k hk) h2.size
  · intro k hk
    refine ⟨?_, (h.ne k hk).2⟩
    rw [e1]
    intro e
    rcases h3 with h3 | ⟨j, h3, h4⟩
    · rw [h3] at e; exact (h.ne k hk).1 e
    · rw [h3] at e
      injection e with e
      have := h.lt k hk
      omega
  · exact (h2.mono' (T := OO g bb bf f.v K) (by rintro k (hk | hk); exact .inl (hk.trans h.hg); exact .inr (.inl hk))).setCell (.inl (.inr (.inr (.inl rfl)))) _
  · rintro k (hk | hk | hk | hk | hk)
    · exact .inl (.inl hk)
    · rcases h3 with h3 | ⟨j, h3, h4⟩
      · exact .inl (.inr (.inl (h3 ▸ hk)))
      · have h5 : k < W1.heap.size := hlt1 k (.inr (by rw [e1]; exact hk))
        rw [h3] at hk
        injection hk with hk
        exact .inr ⟨by omega, by rw [hs]; exact h5⟩
    · exact .inl (.inr (.inr (.inl hk)))
    · exact .inl (.inr (.inr (.inr (.inl hk))))
    · exact .inl (.inr (.inr (.inr (.inr hk))))
theorem ItAt.oo (h : ItAt most g bb bf K f A c xs W) : ∀ k, f.F k → OO g bb bf f.v K k := by
  rintro k (hk | hk)
  · exact .inl (hk.trans h.hg)
  · exact .inr (.inl hk)
end
/-- The frame has been told: what is open is new. -/
theorem ItAt.framed {most : Int} {g bb bf : Nat} {K : Option Nat} {f : Fr} {A : Option Addr} {c : Nat} {xs : List Int} {W W' : World} (h : ItAt most g bb bf K f A c xs W) (hf : FrAt { f with v := .slice none 0 0, op := [], need := 0 } W') (hc : Chg (fun k => k = f.g) W W') :
    ItAt most g bb bf K { f with v := .slice none 0 0, op := [], need := 0 } A c xs W' where
  fr := hf
  hg := h.hg
  hmost := h.hmost
  kb := (hc.block _ (blk_lt h.kb) (fun e => h.types.1 (e.trans h.hg))).trans h.kb
  kf := (hc.block _ (blk_lt h.kf) (fun e => h.types.2.1 (e.trans h.hg))).trans h.kf
  row := C_keep h.row (fun ad e => hc.block _ (h.lt _ (h.blk ad e)) (fun e2 => (h.ne _ (h.blk ad e)).2.1 (e2.trans h.hg)))
  blk := h.blk
  cap := h.cap
  lt := fun k hk => Nat.lt_of_lt_of_le (h.lt k hk) hc.size
  ne := fun k hk => ⟨fun e => (by cases e), (h.ne k hk).2⟩
  byte := h.byte
  big := h.big
/-- What is open may be handed over as a frame. -/
theorem ItAt.give {most : Int} {g bb bf : Nat} {K : Option Nat} {f : Fr} {A : Option Addr} {c : Nat} {xs : List Int} {W W' : World} (h : ItAt most g bb bf K f A c xs W) (hc : Chg (fun k => k = f.g) W W') {A2 : Option Addr} {c2 : Nat} (hv : f.v = .slice A2 f.op.length c2) (lo hi code at' : Int) :
    FVok (OO g bb bf f.v K) (OO g bb bf (.slice none 0 0) K) ⟨A2, c2, ⟨lo, hi, f.op, code, at'⟩⟩ W' where
  row := by
    have h1 := h.fr.row
    rw [hv] at h1
    have h2 := h.fr.own_g
    rw [hv] at h2
    exact Kd.R_step h1 (fun k hk hl => hc.block k hl (fun e => h2 (by subst e; exact hk)))
  own := fun k hk => .inr (.inl (by rw [hv]; exact hk))
  less := by
    have hbbr : some bb ≠ f.v.ownBlock := Kd.R_ne h.fr.row h.kb (by decide)
    have hbfr : some bf ≠ f.v.ownBlock := Kd.R_ne h.fr.row h.kf (by decide)
    have hgr := h.fr.own_g
    rw [h.hg] at hgr
    show ∀ k, OO g bb bf (.slice none 0 0) K k → OO g bb bf f.v K k ∧ some k ≠ (Value.slice A2 f.op.length c2).ownBlock
    rw [← hv]
    rintro k (rfl | hk | rfl | rfl | hk)
    · exact ⟨.inl rfl, hgr⟩
    · cases hk
    · exact ⟨.inr (.inr (.inl rfl)), hbbr⟩
    · exact ⟨.inr (.inr (.inr (.inl rfl))), hbfr⟩
    · exact ⟨.inr (.inr (.inr (.inr hk))), (h.ne k hk).1⟩
theorem FrAt.endIt {f : Fr} {W : World} (h : FrAt f W) : FrAt { f with ended := true } (W.setCell ⟨f.g, 4, none⟩ (.bool true)) ∧ Chg (fun k => k = f.g) W (W.setCell ⟨f.g, 4, none⟩ (.bool true)) := by
  have hne := h.own_g
  exact ⟨⟨(blk_put h.blk 4 _ rfl).trans rfl, Kd.R_step h.row (fun k hk hl => Below.heap_setCell _ _ _ k (fun e => hne (by subst e; exact hk))), h.le, h.big, h.bytes⟩, (Chg.refl _ W).set1 4 _⟩
theorem frframe2 (f : Fr) (w : World) (h : FrAt f w) : ∃ (A : Option Addr) (c L : Nat) (lo hi : Int), f.v = .slice A L c ∧ L = f.op.length ∧ lo = (f.pos : Int) - f.op.length ∧ hi = f.pos ∧
    Calls Try.prog 52 #[.pointer (some ⟨f.g, 0, none⟩)] w fun e w' => e = .returned (.agg #[.int .i64 lo, .int .i64 hi, .slice A L c, .int .i64 0, .int .i64 0]) ∧ FrAt { f with v := .slice none 0 0, op := [], need := 0 } w' ∧ Chg (fun k => k = f.g) w w' := by
  obtain ⟨A, c, hv, hc, hC⟩ := h.slice
  exact ⟨A, c, _, _, _, hv, rfl, rfl, rfl, frframe_calls f A c hv w h⟩
end Go.Proofs.Ytmbfjaogimkncaa
