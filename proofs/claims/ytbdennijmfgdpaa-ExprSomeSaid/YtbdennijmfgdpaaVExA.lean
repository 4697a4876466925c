/- Package expr: Metric; no condition. -/
import Derived.Test.YtbdennijmfgdpaaVMetB
import Derived.WideMake
namespace Go.Proofs.Ytbdennijmfgdpaa
open Go.RowKit Go.Proofs.YtbdennijmfgdpaaW.PrintWords Go.Proofs.YtbdennijmfgdpaaW.PrintLast Go.Proofs.YtbdennijmfgdpaaW.PrintMore Go.Proofs.Ytbdennijmfgdpaa.PE
set_option linter.unusedVariables false
set_option linter.unusedSimpArgs false
def bareB (m : MetS) : Bool := m.f2.length == 1 && m.f4.length == 0
def statsB (m : MetS) : Bool := bareB m && (m.f5 == 0) && (m.f1 != 5) && (m.f1 != 2 || !(rd_T46 m.f2 0).f0)
def graphB (m : MetS) : Bool := bareB m && (m.f5 != 0) && (m.f1 == 2)
def sayB (m : MetS) (f : Int) : Bool := if f = 1 then statsB m else if f = 3 then graphB m else true
def sayBad (m : MetS) (f : Int) : Int := if f < 1 ∨ 4 < f then 29 else if metBad m ≠ 0 then metBad m else if sayB m f = true then 0 else 26
set_option maxHeartbeats 4000000 in
set_option maxRecDepth 100000 in
theorem bare_calls (m : MetS) (Av : Option Addr) (cv : Nat) (At : Option Addr) (ct : Nat) (w : World) : Calls Try.prog 130 #[.agg #[.string m.f0, .int .i64 m.f1, .slice Av m.f2.length cv, .int .i64 m.f3, .slice At m.f4.length ct, .int .i64 m.f5]] w fun e w' => e = .returned (.bool (bareB m)) ∧ Below w.heap.size w w' := by
  have HB := Aside0.mk (below_alloc (Below.refl w.heap.size w) (.cells #[.string m.f0, .int .i64 m.f1, .slice Av m.f2.length cv, .int .i64 m.f3, .slice At m.f4.length ct, .int .i64 m.f5] 90 (0, 0)))
  have HE := Aside0.mk (show bareB m = (m.f2.length == 1 && m.f4.length == 0) from rfl)
  cases h1 : (m.f2.length == 1) with
  | false =>
    have H1 := Aside0.mk h1
    have h1' : ((m.f2.length : Int) == 1) = false := beq_eq_false_iff_ne.mpr (by have := beq_eq_false_iff_ne.mp h1; omega)
    go_enter Try.func130, Try.ntmps130
    go_wp2
    go_ret
    exact ⟨by rw [HE.out, H1.out]; rfl, HB.out⟩
  | true =>
    have H1 := Aside0.mk h1
    have h1' : ((m.f2.length : Int) == 1) = true := beq_iff_eq.mpr (by have := beq_iff_eq.mp h1; omega)
    clear h1
    cases h2 : (m.f4.length == 0) with
    | false =>
      have H2 := Aside0.mk h2
      have h2' : ((m.f4.length : Int) == 0) = false := beq_eq_false_iff_ne.mpr (by have := beq_eq_false_iff_ne.mp h2; omega)
      clear h2
      go_enter Try.func130, Try.ntmps130
      go_wp2
      go_ret
      exact ⟨by rw [HE.out, H1.out, H2.out]; first | rfl | simp [h2', H1.out, H2.out], HB.out⟩
    | true =>
      have H2 := Aside0.mk h2
      have h2' : ((m.f4.length : Int) == 0) = true := beq_iff_eq.mpr (by have := beq_iff_eq.mp h2; omega)
      clear h2
      go_enter Try.func130, Try.ntmps130
      go_wp2
      go_ret
      exact ⟨by rw [HE.out, H1.out, H2.out]; first | rfl | simp [h2', H1.out, H2.out], HB.out⟩
set_option maxHeartbeats 4000000 in
set_option maxRecDepth 100000 in
theorem anyf_calls (m : MetS) (Av : Option Addr) (cv : Nat) (At : Option Addr) (ct : Nat) (w : World) : Calls Try.prog 95 #[.agg #[.string m.f0, .int .i64 m.f1, .slice Av m.f2.length cv, .int .i64 m.f3, .slice At m.f4.length ct, .int .i64 m.f5]] w fun e w' => e = .returned (.bool true) ∧ Below w.heap.size w w' := by
  have HB := Aside0.mk (below_alloc (Below.refl w.heap.size w) (.cells #[.string m.f0, .int .i64 m.f1, .slice Av m.f2.length cv, .int .i64 m.f3, .slice At m.f4.length ct, .int .i64 m.f5] 90 (0, 0)))
  go_enter Try.func95, Try.ntmps95
  go_wp2
  go_ret
  exact ⟨rfl, HB.out⟩
theorem box_keep {w w1 : World} {o : Obj} (hb : Below (w.alloc o).heap.size (w.alloc o) w1) : w1.heap[w.heap.size]? = some o := blk_below (blk_new w o) hb
set_option maxHeartbeats 4000000 in
set_option maxRecDepth 100000 in
theorem graph_calls (m : MetS) (Av : Option Addr) (cv : Nat) (At : Option Addr) (ct : Nat) (w : World) : Calls Try.prog 96 #[.agg #[.string m.f0, .int .i64 m.f1, .slice Av m.f2.length cv, .int .i64 m.f3, .slice At m.f4.length ct, .int .i64 m.f5]] w fun e w' => e = .returned (.bool (graphB m)) ∧ Below w.heap.size w w' := by
  have HB := Aside0.mk (below_alloc (Below.refl w.heap.size w) (.cells #[.string m.f0, .int .i64 m.f1, .slice Av m.f2.length cv, .int .i64 m.f3, .slice At m.f4.length ct, .int .i64 m.f5] 90 (0, 0)))
  have HE := Aside0.mk (show graphB m = (bareB m && (m.f5 != 0) && (m.f1 == 2)) from rfl)
  have HC := Aside0.mk (fun w => bare_calls m Av cv At ct w)
  generalize bareB m = b at HE HC
  cases b with
  | false =>
    go_enter Try.func96, Try.ntmps96
    go_wp2_with fail
    refine (HC.out _).mono ?_
    rintro e w1 ⟨rfl, hb⟩
    go_wp2
    go_ret
    exact ⟨by rw [HE.out]; rfl, below_step HB.out hb⟩
  | true =>
    cases h5 : (m.f5 != 0) with
    | false =>
      have H5 := Aside0.mk h5
      go_enter Try.func96, Try.ntmps96
      go_wp2_with fail
      refine (HC.out _).mono ?_
      rintro e w1 ⟨rfl, hb⟩
      have HX := box_keep hb
      have hc5 : w1.cell? ⟨w.heap.size, 5, none⟩ = some (.int .i64 m.f5) := (blk_cell HX 5).trans rfl
      have HB2 := Aside0.mk (below_step HB.out hb)
      clear HX hb
      go_wp2
      go_ret
      exact ⟨by rw [HE.out, H5.out]; rfl, HB2.out⟩
    | true =>
      have H5 := Aside0.mk h5
      go_enter Try.func96, Try.ntmps96
      go_wp2_with fail
      refine (HC.out _).mono ?_
      rintro e w1 ⟨rfl, hb⟩
      have HX := box_keep hb
      have hc5 : w1.cell? ⟨w.heap.size, 5, none⟩ = some (.int .i64 m.f5) := (blk_cell HX 5).trans rfl
      have hc1 : w1.cell? ⟨w.heap.size, 1, none⟩ = some (.int .i64 m.f1) := (blk_cell HX 1).trans rfl
      have HB2 := Aside0.mk (below_step HB.out hb)
      clear HX hb
      go_wp2
      go_ret
      exact ⟨by rw [HE.out, H5.out]; first | rfl | simp, HB2.out⟩
set_option maxHeartbeats 4000000 in
set_option maxRecDepth 100000 in
theorem stats_calls (m : MetS) (Av : Option Addr) (cv : Nat) (At : Option Addr) (ct : Nat) (w : World) (hm : MetC m Av cv At ct w) : Calls Try.prog 94 #[.agg #[.string m.f0, .int .i64 m.f1, .slice Av m.f2.length cv, .int .i64 m.f3, .slice At m.f4.length ct, .int .i64 m.f5]] w fun e w' => e = .returned (.bool (statsB m)) ∧ Below w.heap.size w w' := by
  have HM := Aside0.mk hm
  have HB := Aside0.mk (below_alloc (Below.refl w.heap.size w) (.cells #[.string m.f0, .int .i64 m.f1, .slice Av m.f2.length cv, .int .i64 m.f3, .slice At m.f4.length ct, .int .i64 m.f5] 90 (0, 0)))
  have HE := Aside0.mk (show statsB m = (bareB m && (m.f5 == 0) && (m.f1 != 5) && (m.f1 != 2 || !(rd_T46 m.f2 0).f0)) from rfl)
  have HL := Aside0.mk (show bareB m = true → m.f2.length = 1 from fun h => by unfold bareB at h; simp at h; exact h.1)
  have HC := Aside0.mk (fun w => bare_calls m Av cv At ct w)
  clear hm
  generalize bareB m = b at HE HC HL
  cases b with
  | false =>
    go_enter Try.func94, Try.ntmps94
    go_wp2_with fail
    refine (HC.out _).mono ?_
    rintro e w1 ⟨rfl, hb⟩
    have HX := box_keep hb
    have hc5 : w1.cell? ⟨w.heap.size, 5, none⟩ = some (.int .i64 m.f5) := (blk_cell HX 5).trans rfl
    have hc1 : w1.cell? ⟨w.heap.size, 1, none⟩ = some (.int .i64 m.f1) := (blk_cell HX 1).trans rfl
    have hc2 : w1.cell? ⟨w.heap.size, 2, none⟩ = some (.slice Av m.f2.length cv) := (blk_cell HX 2).trans rfl
    have HB2 := Aside0.mk (below_step HB.out hb)
    clear HX hb
    go_wp2
    go_ret
    exact ⟨by rw [HE.out]; rfl, HB2.out⟩
  | true =>
    have hl := HL.out rfl
    have HL1 := Aside0.mk hl
    have hl1 : (0 : Int) < (m.f2.length : Int) := by omega
    clear hl HL
    cases h5 : (m.f5 == 0) with
    | false =>
      have H5 := Aside0.mk h5
      have h5' : (m.f5 != 0) = true := by simp [bne, h5]
      go_enter Try.func94, Try.ntmps94
      go_wp2_with fail
      refine (HC.out _).mono ?_
      rintro e w1 ⟨rfl, hb⟩
      have HX := box_keep hb
      have hc5 : w1.cell? ⟨w.heap.size, 5, none⟩ = some (.int .i64 m.f5) := (blk_cell HX 5).trans rfl
      have hc1 : w1.cell? ⟨w.heap.size, 1, none⟩ = some (.int .i64 m.f1) := (blk_cell HX 1).trans rfl
      have hc2 : w1.cell? ⟨w.heap.size, 2, none⟩ = some (.slice Av m.f2.length cv) := (blk_cell HX 2).trans rfl
      have HB2 := Aside0.mk (below_step HB.out hb)
      clear HX hb
      go_wp2
      go_ret
      exact ⟨by rw [HE.out, H5.out]; rfl, HB2.out⟩
    | true =>
      have H5 := Aside0.mk h5
      have h5' : (m.f5 != 0) = false := by simp [bne, h5]
      cases h1 : (m.f1 == 5) with
      | true =>
        have H1 := Aside0.mk (show (m.f1 != 5) = false by simp [bne, h1])
        go_enter Try.func94, Try.ntmps94
        go_wp2_with fail
        refine (HC.out _).mono ?_
        rintro e w1 ⟨rfl, hb⟩
        have HX := box_keep hb
        have hc5 : w1.cell? ⟨w.heap.size, 5, none⟩ = some (.int .i64 m.f5) := (blk_cell HX 5).trans rfl
        have hc1 : w1.cell? ⟨w.heap.size, 1, none⟩ = some (.int .i64 m.f1) := (blk_cell HX 1).trans rfl
        have hc2 : w1.cell? ⟨w.heap.size, 2, none⟩ = some (.slice Av m.f2.length cv) := (blk_cell HX 2).trans rfl
        have HB2 := Aside0.mk (below_step HB.out hb)
        clear HX hb
        go_wp2
        go_ret
        exact ⟨by rw [HE.out, H5.out, H1.out]; rfl, HB2.out⟩
      | false =>
        have H1 := Aside0.mk (show (m.f1 != 5) = true by simp [bne, h1])
        cases h2 : (m.f1 != 2) with
        | true =>
          have H2 := Aside0.mk h2
          go_enter Try.func94, Try.ntmps94
          go_wp2_with fail
          refine (HC.out _).mono ?_
          rintro e w1 ⟨rfl, hb⟩
          have HX := box_keep hb
          have hc5 : w1.cell? ⟨w.heap.size, 5, none⟩ = some (.int .i64 m.f5) := (blk_cell HX 5).trans rfl
          have hc1 : w1.cell? ⟨w.heap.size, 1, none⟩ = some (.int .i64 m.f1) := (blk_cell HX 1).trans rfl
          have hc2 : w1.cell? ⟨w.heap.size, 2, none⟩ = some (.slice Av m.f2.length cv) := (blk_cell HX 2).trans rfl
          have HB2 := Aside0.mk (below_step HB.out hb)
          clear HX hb
          go_wp2
          go_ret
          exact ⟨by rw [HE.out, H5.out, H1.out, H2.out]; rfl, HB2.out⟩
        | false =>
          have H2 := Aside0.mk h2
          go_enter Try.func94, Try.ntmps94
          go_wp2_with fail
          refine (HC.out _).mono ?_
          rintro e w1 ⟨rfl, hb⟩
          have HX := box_keep hb
          have hc5 : w1.cell? ⟨w.heap.size, 5, none⟩ = some (.int .i64 m.f5) := (blk_cell HX 5).trans rfl
          have hc1 : w1.cell? ⟨w.heap.size, 1, none⟩ = some (.int .i64 m.f1) := (blk_cell HX 1).trans rfl
          have hc2 : w1.cell? ⟨w.heap.size, 2, none⟩ = some (.slice Av m.f2.length cv) := (blk_cell HX 2).trans rfl
          have HB2 := Aside0.mk (below_step HB.out hb)
          have HBX := HB2
          clear HX hb
          obtain ⟨ad, ea, hx0, hx1, hx2⟩ := at_T46 (Kd.C_below HM.out.v HBX.out) 0 (by omega) hl1
          cases ea
          rw [show (0 : Int).toNat * 3 = 0 from rfl, Addr.add_zero'] at hx0
          clear hx1 hx2
          go_wp2
          go_ret
          exact ⟨by rw [HE.out, H5.out, H1.out, H2.out]; rfl, HB2.out⟩
def fEs (n : Nat) : Array MapEntry := (#[{ key := .int .i64 1, val := .func (.func 94) #[] #[], born := 0 }, { key := .int .i64 2, val := .func (.func 95) #[] #[], born := 1 }, { key := .int .i64 3, val := .func (.func 96) #[] #[], born := 2 }, { key := .int .i64 4, val := .func (.func 95) #[] #[], born := 3 }] : Array MapEntry).take n
theorem push_set {α : Type} (a : Array α) (x y : α) : (a.push x).setIfInBounds a.size y = a.push y := by
  apply Array.ext'
  simp [List.set_append]
theorem fUpd (w : World) (es es' : Array MapEntry) (c : Nat) (k : Int) (v : Value) (hf : Instr.findNow (.int .i64) (.int .i64 k) es.toList 0 = some none) (he : es.push { key := .int .i64 k, val := v, born := c } = es') :
    (Instr.mapUpdate 87 (.map (some w.heap.size)) (.int .i64 k) v).run Try.prog (w.alloc (.map es c)) = .ok () (w.alloc (.map es' (c + 1))) := by
  have hb : (w.alloc (.map es c)).heap[w.heap.size]? = some (.map es c) := blk_new w _
  have hc : (Instr.checkKey false 10000 3 (.int .i64 k)).run Try.prog (w.alloc (.map es c)) = .ok () (w.alloc (.map es c)) := MapKept.run_checkKey (k := .int .i64 k) Try.underlying3 (by simp [MapKept.IsKey]) false 9999
  subst he
  simp [Instr.mapUpdate, run_underlying Try.underlying87, MapKept.run_getObj_map hb, hc, MapKept.run_findKey Try.underlying3 hf, MapKept.run_setObj_map _ hb, Result.andThen]
  show World.mk _ _ _ _ _ = World.mk _ _ _ _ _
  rw [show (w.alloc (.map es c)).heap = w.heap.push (.map es c) from rfl, push_set]
  rfl
def fRes : Option (Nat × Value) → Value
  | some (_, v) => .tuple #[v, .bool true]
  | none => .tuple #[.nilFunc, .bool false]
theorem fLook (W : World) (b n c : Nat) (k : Int) (r : Option (Nat × Value)) (hb : W.heap[b]? = some (.map (fEs 4) c)) (hf : Instr.findNow (.int .i64) (.int .i64 k) (fEs 4).toList 0 = some r) :
    (Instr.lookup 87 (.map (some b)) (.int .i64 k) true).run Try.prog W = .ok (fRes r) W := by
  have he : (fEs 4).isEmpty = false := by decide
  have hc : (Instr.checkKey false 10000 3 (.int .i64 k)).run Try.prog W = .ok () W := MapKept.run_checkKey (k := .int .i64 k) Try.underlying3 (by simp [MapKept.IsKey]) false 9999
  have hz : (zeroValue 85).run Try.prog W = .ok .nilFunc W := by kernel_rfl
  cases r with
  | none => simp [Instr.lookup, run_underlying Try.underlying87, MapKept.run_getObj_map hb, he, hc, MapKept.run_findKey Try.underlying3 hf, hz, fRes, Result.andThen]
  | some r => simp [Instr.lookup, run_underlying Try.underlying87, MapKept.run_getObj_map hb, he, hc, MapKept.run_findKey Try.underlying3 hf, fRes, Result.andThen]
theorem fLookS (W : World) (b n c : Nat) (k : Int) (i : Nat) (v : Value) (hb : W.heap[b]? = some (.map (fEs 4) c)) (hf : Instr.findNow (.int .i64) (.int .i64 k) (fEs 4).toList 0 = some (some (i, v))) :
    (Instr.lookup 87 (.map (some b)) (.int .i64 k) true).run Try.prog W = .ok (.tuple #[v, .bool true]) W := fLook W b n c k (some (i, v)) hb hf
theorem fLookN (W : World) (b n c : Nat) (k : Int) (hb : W.heap[b]? = some (.map (fEs 4) c)) (hf : Instr.findNow (.int .i64) (.int .i64 k) (fEs 4).toList 0 = some none) :
    (Instr.lookup 87 (.map (some b)) (.int .i64 k) true).run Try.prog W = .ok (.tuple #[.nilFunc, .bool false]) W := fLook W b n c k none hb hf
set_option maxHeartbeats 4000000 in
set_option maxRecDepth 100000 in
theorem formats_calls (w : World) : Calls Try.prog 50 #[] w fun e w' => e = .returned (.map (some w.heap.size)) ∧ w' = w.alloc (.map (fEs 4) 4) := by
  have hm0 : (Instr.makeMap 87 none).run Try.prog w = .ok (.map (some w.heap.size)) (w.alloc (.map (fEs 0) 0)) := run_makeMap _ _
  have hm1 := fUpd w (fEs 0) (fEs 1) 0 1 (.func (.func 94) #[] #[]) rfl rfl
  have hm2 := fUpd w (fEs 1) (fEs 2) 1 2 (.func (.func 95) #[] #[]) rfl rfl
  have hm3 := fUpd w (fEs 2) (fEs 3) 2 3 (.func (.func 96) #[] #[]) rfl rfl
  have hm4 := fUpd w (fEs 3) (fEs 4) 3 4 (.func (.func 95) #[] #[]) rfl rfl
  go_enter Try.func50, Try.ntmps50
  go_wp2
  go_ret
  exact ⟨rfl, rfl⟩
set_option maxHeartbeats 8000000 in
set_option maxRecDepth 100000 in
theorem emetric_calls (m : MetS) (Av : Option Addr) (cv : Nat) (At : Option Addr) (ct : Nat) (w : World) (f : Int) (hm : MetC m Av cv At ct w) : Calls Try.prog 19 #[.agg #[.string m.f0, .int .i64 m.f1, .slice Av m.f2.length cv, .int .i64 m.f3, .slice At m.f4.length ct, .int .i64 m.f5], .int .i64 f] w fun e w' => e = .returned (.int .i64 (sayBad m f)) ∧ Below w.heap.size w w' := by
  have HB := Aside0.mk (below_alloc (below_alloc (Below.refl w.heap.size w) (.cells #[.string m.f0, .int .i64 m.f1, .slice Av m.f2.length cv, .int .i64 m.f3, .slice At m.f4.length ct, .int .i64 m.f5] 25 (0, 0))) (.map (fEs 4) 4))
  have HM := Aside0.mk (MetC.alloc (MetC.alloc hm (.cells #[.string m.f0, .int .i64 m.f1, .slice Av m.f2.length cv, .int .i64 m.f3, .slice At m.f4.length ct, .int .i64 m.f5] 25 (0, 0))) (.map (fEs 4) 4))
  have HX := Aside0.mk (blk_alloc (blk_new w (.cells #[.string m.f0, .int .i64 m.f1, .slice Av m.f2.length cv, .int .i64 m.f3, .slice At m.f4.length ct, .int .i64 m.f5] 25 (0, 0))) (.map (fEs 4) 4))
  have hbm : ((w.alloc (.cells #[.string m.f0, .int .i64 m.f1, .slice Av m.f2.length cv, .int .i64 m.f3, .slice At m.f4.length ct, .int .i64 m.f5] 25 (0, 0))).alloc (.map (fEs 4) 4)).heap[w.heap.size + 1]? = some (.map (fEs 4) 4) := by have h := blk_new (w.alloc (.cells #[.string m.f0, .int .i64 m.f1, .slice Av m.f2.length cv, .int .i64 m.f3, .slice At m.f4.length ct, .int .i64 m.f5] 25 (0, 0))) (.map (fEs 4) 4); simpa using h
  have HK := Aside0.mk (fun w (hm : MetC m Av cv At ct w) => mcheck_calls m Av cv At ct w hm)
  have HS := Aside0.mk (show sayBad m f = if f < 1 ∨ 4 < f then 29 else if metBad m ≠ 0 then metBad m else if sayB m f = true then 0 else 26 from rfl)
  clear hm
  generalize metBad m = mb at HK HS
  by_cases hf : 1 ≤ f ∧ f ≤ 4
  · have HS2 := Aside0.mk (HS.out.trans (if_neg (by omega)))
    clear HS
    rcases (show f = 1 ∨ f = 2 ∨ f = 3 ∨ f = 4 by omega) with rfl | rfl | rfl | rfl
    · have hl := fLookS ((w.alloc (.cells #[.string m.f0, .int .i64 m.f1, .slice Av m.f2.length cv, .int .i64 m.f3, .slice At m.f4.length ct, .int .i64 m.f5] 25 (0, 0))).alloc (.map (fEs 4) 4)) (w.heap.size + 1) 0 4 1 0 (.func (.func 94) #[] #[]) hbm rfl
      clear hf hbm
      have HG := Aside0.mk (show sayB m 1 = statsB m from rfl)
      go_enter Try.func19, Try.ntmps19
      go_wp2_with fail
      refine (formats_calls _).mono ?_
      rintro e w1 ⟨rfl, rfl⟩
      go_wp2_with fail
      refine (HK.out _ HM.out).mono ?_
      rintro e w1 ⟨rfl, hb⟩
      have HM2 := Aside0.mk (MetC.below HM.out hb)
      have HB2 := Aside0.mk (below_step HB.out hb)
      have HX2 := Aside0.mk (blk_below HX.out hb)
      clear hb
      by_cases hz : mb = 0
      · have hzb : (mb != 0) = false := bne_eq_false_iff_eq.mpr hz
        have HS3 := Aside0.mk (HS2.out.trans (if_neg (fun h => h hz)))
        clear hz
        have q0 := (blk_cell HX2.out 0).trans rfl
        have q1 := (blk_cell HX2.out 1).trans rfl
        have q2 := (blk_cell HX2.out 2).trans rfl
        have q3 := (blk_cell HX2.out 3).trans rfl
        have q4 := (blk_cell HX2.out 4).trans rfl
        have q5 := (blk_cell HX2.out 5).trans rfl
        go_wp2_with fail
        refine (stats_calls m Av cv At ct _ HM2.out).mono ?_
        rintro e w2 ⟨rfl, hb⟩
        have HB3 := Aside0.mk (below_step HB2.out hb)
        clear hb q0 q1 q2 q3 q4 q5
        cases hs : statsB m with
        | true =>
          have HS4 := Aside0.mk (HS3.out.trans (if_pos (HG.out.trans hs)))
          clear hs
          go_wp2
          go_ret
          exact ⟨by rw [HS4.out]; rfl, HB3.out⟩
        | false =>
          have HS4 := Aside0.mk (HS3.out.trans (if_neg (by rw [HG.out.trans hs]; decide)))
          clear hs
          go_wp2
          go_ret
          exact ⟨by rw [HS4.out]; rfl, HB3.out⟩
      · have hzb : (mb != 0) = true := bne_iff_ne.mpr hz
        have HS3 := Aside0.mk (HS2.out.trans (if_pos hz))
        clear hz
        go_wp2
        go_ret
        exact ⟨by rw [HS3.out]; rfl, HB2.out⟩
    · have hl := fLookS ((w.alloc (.cells #[.string m.f0, .int .i64 m.f1, .slice Av m.f2.length cv, .int .i64 m.f3, .slice At m.f4.length ct, .int .i64 m.f5] 25 (0, 0))).alloc (.map (fEs 4) 4)) (w.heap.size + 1) 0 4 2 1 (.func (.func 95) #[] #[]) hbm rfl
      clear hf hbm
      have HG := Aside0.mk (show sayB m 2 = true from rfl)
      go_enter Try.func19, Try.ntmps19
      go_wp2_with fail
      refine (formats_calls _).mono ?_
      rintro e w1 ⟨rfl, rfl⟩
      go_wp2_with fail
      refine (HK.out _ HM.out).mono ?_
      rintro e w1 ⟨rfl, hb⟩
      have HM2 := Aside0.mk (MetC.below HM.out hb)
      have HB2 := Aside0.mk (below_step HB.out hb)
      have HX2 := Aside0.mk (blk_below HX.out hb)
      clear hb
      by_cases hz : mb = 0
      · have hzb : (mb != 0) = false := bne_eq_false_iff_eq.mpr hz
        have HS3 := Aside0.mk (HS2.out.trans (if_neg (fun h => h hz)))
        clear hz
        have q0 := (blk_cell HX2.out 0).trans rfl
        have q1 := (blk_cell HX2.out 1).trans rfl
        have q2 := (blk_cell HX2.out 2).trans rfl
        have q3 := (blk_cell HX2.out 3).trans rfl
        have q4 := (blk_cell HX2.out 4).trans rfl
        have q5 := (blk_cell HX2.out 5).trans rfl
        go_wp2_with fail
        refine (anyf_calls m Av cv At ct _).mono ?_
        rintro e w2 ⟨rfl, hb⟩
        have HB3 := Aside0.mk (below_step HB2.out hb)
        clear hb q0 q1 q2 q3 q4 q5
        cases hs : true with
        | true =>
          have HS4 := Aside0.mk (HS3.out.trans (if_pos (HG.out.trans hs)))
          clear hs
          go_wp2
          go_ret
          exact ⟨by rw [HS4.out]; rfl, HB3.out⟩
        | false =>
          have HS4 := Aside0.mk (HS3.out.trans (if_neg (by rw [HG.out.trans hs]; decide)))
          clear hs
          go_wp2
          go_ret
          exact ⟨by rw [HS4.out]; rfl, HB3.out⟩
      · have hzb : (mb != 0) = true := bne_iff_ne.mpr hz
        have HS3 := Aside0.mk (HS2.out.trans (if_pos hz))
        clear hz
        go_wp2
        go_ret
        exact ⟨by rw [HS3.out]; rfl, HB2.out⟩
    · have hl := fLookS ((w.alloc (.cells #[.string m.f0, .int .i64 m.f1, .slice Av m.f2.length cv, .int .i64 m.f3, .slice At m.f4.length ct, .int .i64 m.f5] 25 (0, 0))).alloc (.map (fEs 4) 4)) (w.heap.size + 1) 0 4 3 2 (.func (.func 96) #[] #[]) hbm rfl
      clear hf hbm
      have HG := Aside0.mk (show sayB m 3 = graphB m from rfl)
      go_enter Try.func19, Try.ntmps19
      go_wp2_with fail
      refine (formats_calls _).mono ?_
      rintro e w1 ⟨rfl, rfl⟩
      go_wp2_with fail
      refine (HK.out _ HM.out).mono ?_
      rintro e w1 ⟨rfl, hb⟩
      have HM2 := Aside0.mk (MetC.below HM.out hb)
      have HB2 := Aside0.mk (below_step HB.out hb)
      have HX2 := Aside0.mk (blk_below HX.out hb)
      clear hb
      by_cases hz : mb = 0
      · have hzb : (mb != 0) = false := bne_eq_false_iff_eq.mpr hz
        have HS3 := Aside0.mk (HS2.out.trans (if_neg (fun h => h hz)))
        clear hz
        have q0 := (blk_cell HX2.out 0).trans rfl
        have q1 := (blk_cell HX2.out 1).trans rfl
        have q2 := (blk_cell HX2.out 2).trans rfl
        have q3 := (blk_cell HX2.out 3).trans rfl
        have q4 := (blk_cell HX2.out 4).trans rfl
        have q5 := (blk_cell HX2.out 5).trans rfl
        go_wp2_with fail
        refine (graph_calls m Av cv At ct _).mono ?_
        rintro e w2 ⟨rfl, hb⟩
        have HB3 := Aside0.mk (below_step HB2.out hb)
        clear hb q0 q1 q2 q3 q4 q5
        cases hs : graphB m with
        | true =>
          have HS4 := Aside0.mk (HS3.out.trans (if_pos (HG.out.trans hs)))
          clear hs
          go_wp2
          go_ret
          exact ⟨by rw [HS4.out]; rfl, HB3.out⟩
        | false =>
          have HS4 := Aside0.mk (HS3.out.trans (if_neg (by rw [HG.out.trans hs]; decide)))
          clear hs
          go_wp2
          go_ret
          exact ⟨by rw [HS4.out]; rfl, HB3.out⟩
      · have hzb : (mb != 0) = true := bne_iff_ne.mpr hz
        have HS3 := Aside0.mk (HS2.out.trans (if_pos hz))
        clear hz
        go_wp2
        go_ret
        exact ⟨by rw [HS3.out]; rfl, HB2.out⟩
    · have hl := fLookS ((w.alloc (.cells #[.string m.f0, .int .i64 m.f1, .slice Av m.f2.length cv, .int .i64 m.f3, .slice At m.f4.length ct, .int .i64 m.f5] 25 (0, 0))).alloc (.map (fEs 4) 4)) (w.heap.size + 1) 0 4 4 3 (.func (.func 95) #[] #[]) hbm rfl
      clear hf hbm
      have HG := Aside0.mk (show sayB m 4 = true from rfl)
      go_enter Try.func19, Try.ntmps19
      go_wp2_with fail
      refine (formats_calls _).mono ?_
      rintro e w1 ⟨rfl, rfl⟩
      go_wp2_with fail
      refine (HK.out _ HM.out).mono ?_
      rintro e w1 ⟨rfl, hb⟩
      have HM2 := Aside0.mk (MetC.below HM.out hb)
      have HB2 := Aside0.mk (below_step HB.out hb)
      have HX2 := Aside0.mk (blk_below HX.out hb)
      clear hb
      by_cases hz : mb = 0
      · have hzb : (mb != 0) = false := bne_eq_false_iff_eq.mpr hz
        have HS3 := Aside0.mk (HS2.out.trans (if_neg (fun h => h hz)))
        clear hz
        have q0 := (blk_cell HX2.out 0).trans rfl
        have q1 := (blk_cell HX2.out 1).trans rfl
        have q2 := (blk_cell HX2.out 2).trans rfl
        have q3 := (blk_cell HX2.out 3).trans rfl
        have q4 := (blk_cell HX2.out 4).trans rfl
        have q5 := (blk_cell HX2.out 5).trans rfl
        go_wp2_with fail
        refine (anyf_calls m Av cv At ct _).mono ?_
        rintro e w2 ⟨rfl, hb⟩
        have HB3 := Aside0.mk (below_step HB2.out hb)
        clear hb q0 q1 q2 q3 q4 q5
        cases hs : true with
        | true =>
          have HS4 := Aside0.mk (HS3.out.trans (if_pos (HG.out.trans hs)))
          clear hs
          go_wp2
          go_ret
          exact ⟨by rw [HS4.out]; rfl, HB3.out⟩
        | false =>
          have HS4 := Aside0.mk (HS3.out.trans (if_neg (by rw [HG.out.trans hs]; decide)))
          clear hs
          go_wp2
          go_ret
          exact ⟨by rw [HS4.out]; rfl, HB3.out⟩
      · have hzb : (mb != 0) = true := bne_iff_ne.mpr hz
        have HS3 := Aside0.mk (HS2.out.trans (if_pos hz))
        clear hz
        go_wp2
        go_ret
        exact ⟨by rw [HS3.out]; rfl, HB2.out⟩
  · have HS2 := Aside0.mk (HS.out.trans (if_pos (by omega)))
    have hl := fLookN ((w.alloc (.cells #[.string m.f0, .int .i64 m.f1, .slice Av m.f2.length cv, .int .i64 m.f3, .slice At m.f4.length ct, .int .i64 m.f5] 25 (0, 0))).alloc (.map (fEs 4) 4)) (w.heap.size + 1) 0 4 f hbm (by
      have e : ∀ k : Int, k ∈ [(1 : Int), 2, 3, 4] → (f == k) = false := fun k hk => beq_eq_false_iff_ne.mpr (by simp at hk; omega)
      simp [fEs, Instr.findNow, Instr.sameNow, e 1 (by simp), e 2 (by simp), e 3 (by simp), e 4 (by simp)])
    clear hf hbm HS
    go_enter Try.func19, Try.ntmps19
    go_wp2_with fail
    refine (formats_calls _).mono ?_
    rintro e w1 ⟨rfl, rfl⟩
    go_wp2
    go_ret
    exact ⟨by rw [HS2.out]; rfl, HB.out⟩
end Go.Proofs.Ytbdennijmfgdpaa
