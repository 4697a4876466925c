/- BatchLong: a batch of up to 1000 metrics may be, and one of more may not, whatever they are, and a clone is its own: its walk; for every metric, whatever number of it, no condition. -/
import Derived.Test.YteamldgngknmfaaZKRBatL
import Derived.Test.YteamldgngknmfaaZKLawMetB
import Derived.Test.YteamldgngknmfaaZKInjN
import Derived.Test.YteamldgngknmfaaZKMNorm
import Derived.Test.YteamldgngknmfaaZKPEx17
import Derived.Test.YteamldgngknmfaaRows
import Derived.Test.YteamldgngknmfaaZKPEx12
import Derived.Test.YteamldgngknmfaaZKPEx14
import Derived.Test.YteamldgngknmfaaZKPEx4
namespace Go.Proofs.Yteamldgngknmfaa
open Go.RowKit Go.Proofs.YteamldgngknmfaaW.PrintWords Go.Proofs.YteamldgngknmfaaW.PrintLast Go.Proofs.YteamldgngknmfaaW.PrintMore Go.Proofs.Yteamldgngknmfaa.PE
set_option linter.unusedVariables false
set_option linter.unusedSimpArgs false
theorem bl_clone (m : S25) (h2 : m.f2.length ≤ 100000) (h4 : m.f4.length ≤ 100000) : metric_Clone.f m.f0 m.f1 m.f2 m.f3 m.f4 m.f5 = some (m.f0, m.f1, m.f2, m.f3, m.f4, m.f5) := by
 unfold metric_Clone.f slices_Clone_d.f slices_Clone_t.f
 rw [if_pos (by omega), Option.bind_some, if_pos (by omega), Option.bind_some]
theorem bclone_l0 (l : List S25) (hl : l.length ≤ 100000) (hs : ∀ m ∈ l, m.f2.length ≤ 80 ∧ m.f4.length ≤ 40) : ∀ (d i : Nat) (x : List S25), i + d = l.length → x.length = l.length → (∀ j, j < i → x[j]? = l[j]?) →
  Ev (fun k => batch_Clone.l0 k x l (l.length : Int) (i : Int)) l := by
 intro d
 induction d with
 | zero =>
  intro i x hd hx hj
  have e : x = l := List.ext_getElem? fun j => by
   by_cases h : j < i
   ·exact hj j h
   ·rw [List.getElem?_eq_none (by omega), List.getElem?_eq_none (by omega)]
  subst e
  refine Ev.step (f := fun _ => some x) (fun k => ?_) (Ev.now _)
  simp only [batch_Clone.l0]
  rw [if_neg (by omega)]
 | succ d ih =>
  intro i x hd hx hj
  have hlt : i < l.length := by omega
  have hw := w1 i (by omega)
  have hm := hs (l[i]'hlt) (List.getElem_mem hlt)
  have h1 := ih (i + 1) (x.set i (l[i]'hlt)) (by omega) (by rw [List.length_set]; exact hx) (fun j hj2 => by
   by_cases h : j = i
   ·subst h
    rw [List.getElem?_set_self (by omega), List.getElem?_eq_getElem hlt]
   ·rw [List.getElem?_set_ne (fun e => h e.symm)]
    exact hj j (by omega))
  refine Ev.step (fun k => ?_) h1
  simp only [batch_Clone.l0]
  rw [if_pos (by omega), if_pos (by omega), if_pos (by omega), rd_met l i hlt, bl_clone (l[i]'hlt) (by omega) (by omega), Option.bind_some, if_pos (by omega), hw, Int.toNat_natCast]
theorem bclone_ev (l : List S25) (hl : l.length ≤ 100000) (hs : ∀ m ∈ l, m.f2.length ≤ 80 ∧ m.f4.length ≤ 40) : Ev (fun k => batch_Clone.f k l) l := by
 have h := bclone_l0 l hl hs l.length 0 (List.replicate ((l.length : Int) : Int).toNat z25) (by omega) (by simp) (by omega)
 refine Ev.congr (fun k => ?_) h
 unfold batch_Clone.f
 rw [if_pos (by omega), if_pos (by omega)]
 rfl
theorem bl_grown1 (w : World) (a : Addr) (u : Value) : w.grownBy (w.setCell a u) (some a.block) :=
 ⟨rfl, rfl, rfl, by simp [World.setCell], fun k hk hne => Below.heap_setCell w a u k (fun e => hne (by rw [e]))⟩
theorem bl_grown2 (w : World) (g a b : Nat) (x y : Value) : w.grownBy ((w.setCell ⟨g, a, none⟩ x).setCell ⟨g, b, none⟩ y) (some g) := (bl_grown1 w ⟨g, a, none⟩ x).trans (bl_grown1 _ ⟨g, b, none⟩ y)
theorem bl_grown3 (w : World) (g a b c : Nat) (x y z : Value) : w.grownBy (((w.setCell ⟨g, a, none⟩ x).setCell ⟨g, b, none⟩ y).setCell ⟨g, c, none⟩ z) (some g) := (bl_grown2 w g a b x y).trans (bl_grown1 _ ⟨g, c, none⟩ z)
theorem bl_borrow {W : World} {base gl : Nat} {ok : Nat → Prop} {N cl : Nat} {xs : List S25} (hS : Kd.S k25 25 W base ok (.slice (some ⟨gl, 0, none⟩) N cl) xs) (i : Nat) (hi : i < N) :
  ∃ (x : S25) (v2 v4 : Value) (oki : Nat → Prop), xs[i]? = some x ∧ W.cell? ⟨gl, i * 6 + 2, none⟩ = some v2 ∧ W.cell? ⟨gl, i * 6 + 4, none⟩ = some v4 ∧
   (k40).R 40 W base oki v2 x.f2 ∧ (k37).R 37 W base oki v4 x.f4 ∧
   (∀ W1 l2, W.grownBy W1 v2.ownBlock → (k40).R 40 W1 base oki v2 l2 → Kd.S k25 25 W1 base ok (.slice (some ⟨gl, 0, none⟩) N cl) (xs.set i ⟨x.f0, x.f1, l2, x.f3, x.f4, x.f5⟩)) ∧
   (∀ W1 l4, W.grownBy W1 v4.ownBlock → (k37).R 37 W1 base oki v4 l4 → Kd.S k25 25 W1 base ok (.slice (some ⟨gl, 0, none⟩) N cl) (xs.set i ⟨x.f0, x.f1, x.f2, x.f3, l4, x.f5⟩)) := by
 obtain ⟨x, v2, v4, oki, hx, q2, q4, r2, r4, _, b2, b4⟩ := msp_borrow hS i hi
 have e : (⟨gl, 0, none⟩ : Addr).add (i * 6) = ⟨gl, i * 6, none⟩ := by rw [add_at, Nat.zero_add]
 rw [e] at q2 q4
 exact ⟨x, v2, v4, oki, hx, q2, q4, r2, r4, b2, b4⟩
theorem bl_name {W : World} {base gl : Nat} {ok : Nat → Prop} {N cl : Nat} {xs : List S25} (hS : Kd.S k25 25 W base ok (.slice (some ⟨gl, 0, none⟩) N cl) xs) (i : Nat) (hi : i < N) (s : ByteArray) :
  ∃ x : S25, xs[i]? = some x ∧ W.cell? ⟨gl, i * 6, none⟩ = some (.string x.f0) ∧ W.frozen? ⟨gl, i * 6, none⟩ = false ∧
   Kd.S k25 25 (W.setCell ⟨gl, i * 6, none⟩ (.string s)) base ok (.slice (some ⟨gl, 0, none⟩) N cl) (xs.set i ⟨s, x.f1, x.f2, x.f3, x.f4, x.f5⟩) := by
 have hn := (Kd.S_reads' hS).1
 have hil : i < xs.length := by omega
 obtain ⟨oki, c, hcl, hM, hcc, hfr, hoki, hH⟩ := Kd.S_elem hS z25 (i : Int) (by omega) (by omega)
 obtain ⟨x, hx⟩ : ∃ x, xs[i]? = some x := ⟨_, List.getElem?_eq_getElem hil⟩
 have hxd : xs.getD (i : Int).toNat z25 = x := by rw [Int.toNat_natCast, List.getD_eq_getElem?_getD, hx]; rfl
 rw [hxd] at hM
 obtain ⟨v2, v4, rfl, h2, h4⟩ := k25_openM hM
 have q0 := hcc 0 _ rfl
 have f0 := hfr 0
 have hs := Kd.S_seg0 hH (by omega) (by omega) (seg := [.string s]) (j := 0) (by show 0 + 1 ≤ 6; omega) (x' := ⟨s, x.f1, x.f2, x.f3, x.f4, x.f5⟩) (okp := oki) (k25_mkM W base oki ⟨s, x.f1, x.f2, x.f3, x.f4, x.f5⟩ h2 h4) (fun k hk => hk)
 rw [Int.toNat_natCast] at q0 f0 hs
 exact ⟨x, hx, q0, f0, hs.1⟩
set_option maxHeartbeats 8000000 in
set_option maxRecDepth 100000 in
theorem batchLong_walk (m : S25) (Av : Option Addr) (cv : Nat) (At : Option Addr) (ct : Nat) (n : Int) (w : World) (hm : MetC m Av cv At ct w) (hi : metIn m = true) (hnb : -9223372036854775808 ≤ n ∧ n ≤ 9223372036854775807) :
  Calls Try.prog 13 #[.agg #[.string m.f0, .int .i64 m.f1, .slice Av m.f2.length cv, .int .i64 m.f3, .slice At m.f4.length ct, .int .i64 m.f5], .int .i64 n] w fun e w' => e = .returned (.bool true) ∧ Below w.heap.size w w' := by
 obtain ⟨b, hb, hl⟩ := few_ev m
 obtain ⟨kf, hkf⟩ := Ev.rounds hb
 obtain ⟨ka, hka⟩ := Ev.rounds awake08_ev
 have HM := Aside0.mk hm
 have HI := Aside0.mk hi
 have HKF := Aside0.mk hkf
 have HKA := Aside0.mk hka
 have HL := Aside0.mk hl
 have HB := Aside0.mk (Below.refl w.heap.size w)
 have HFK : Aside0 (Kd.FK k25 w (fun k => k < w.heap.size) m [.string m.f0, .int .i64 m.f1, .slice Av m.f2.length cv, .int .i64 m.f3, .slice At m.f4.length ct, .int .i64 m.f5]) := ⟨fun W' hW => k25_mk W' m hm.vc (Kd.C_F heapD hm.v W' hW) hm.tc (Kd.C_F heapT hm.t W' hW)⟩
 clear hm hi hkf hka hl hb hnb
 go_enter Try.func13, Try.ntmps13
 go_wp2_with (first | ((with_reducible refine gate_dst (N := 2) rfl ?_); refine box_event ?hg (N := 2) ?hd (cs := #[.string m.f0, .int .i64 m.f1, .slice Av m.f2.length cv, .int .i64 m.f3, .slice At m.f4.length ct, .int .i64 m.f5]) (t := 25) ?hr ?_; (case hd => rfl); (case hg => rfl); (case hr => first | (go_simp; done) | (go_simp; rfl)); intro g1 hgg1 w1 hbox hb; have GEg1 := Aside0.mk hgg1; clear hgg1; have n0 := Aside0.mk (below_step HB.out hb); clear HB; have HB := n0; clear n0; have BK1 := Aside0.mk hbox; clear hbox; (try clear zBK1_0 fBK1_0); have zBK1_0 : w1.cell? ⟨g1, 0, none⟩ = some (.string m.f0) := (blk_cell BK1.out 0).trans rfl; have fBK1_0 := blk_frozen BK1.out 0; (try clear zBK1_1 fBK1_1); have zBK1_1 : w1.cell? ⟨g1, 1, none⟩ = some (.int .i64 m.f1) := (blk_cell BK1.out 1).trans rfl; have fBK1_1 := blk_frozen BK1.out 1; (try clear zBK1_2 fBK1_2); have zBK1_2 : w1.cell? ⟨g1, 2, none⟩ = some (.slice Av m.f2.length cv) := (blk_cell BK1.out 2).trans rfl; have fBK1_2 := blk_frozen BK1.out 2; (try clear zBK1_3 fBK1_3); have zBK1_3 : w1.cell? ⟨g1, 3, none⟩ = some (.int .i64 m.f3) := (blk_cell BK1.out 3).trans rfl; have fBK1_3 := blk_frozen BK1.out 3; (try clear zBK1_4 fBK1_4); have zBK1_4 : w1.cell? ⟨g1, 4, none⟩ = some (.slice At m.f4.length ct) := (blk_cell BK1.out 4).trans rfl; have fBK1_4 := blk_frozen BK1.out 4; (try clear zBK1_5 fBK1_5); have zBK1_5 : w1.cell? ⟨g1, 5, none⟩ = some (.int .i64 m.f5) := (blk_cell BK1.out 5).trans rfl; have fBK1_5 := blk_frozen BK1.out 5; clear hb))
 refine (forebaylaw07_Few.calls kf m.f0 m.f1 Av cv m.f2 m.f3 At ct m.f4 m.f5 b w1 (Kd.C_below HM.out.v HB.out) HM.out.vc (Kd.C_below HM.out.t HB.out) HM.out.tc HKF.out).mono ?_
 rintro e w2 ⟨rfl, hb⟩
 have n0 := Aside0.mk (below_step HB.out hb)
 clear HB
 have HB := n0
 clear n0
 have n0 := Aside0.mk (blk_below BK1.out hb)
 clear BK1
 have BK1 := n0
 clear n0
 (try clear zBK1_0 fBK1_0)
 have zBK1_0 : w2.cell? ⟨g1, 0, none⟩ = some (.string m.f0) := (blk_cell BK1.out 0).trans rfl
 have fBK1_0 := blk_frozen BK1.out 0
 (try clear zBK1_1 fBK1_1)
 have zBK1_1 : w2.cell? ⟨g1, 1, none⟩ = some (.int .i64 m.f1) := (blk_cell BK1.out 1).trans rfl
 have fBK1_1 := blk_frozen BK1.out 1
 (try clear zBK1_2 fBK1_2)
 have zBK1_2 : w2.cell? ⟨g1, 2, none⟩ = some (.slice Av m.f2.length cv) := (blk_cell BK1.out 2).trans rfl
 have fBK1_2 := blk_frozen BK1.out 2
 (try clear zBK1_3 fBK1_3)
 have zBK1_3 : w2.cell? ⟨g1, 3, none⟩ = some (.int .i64 m.f3) := (blk_cell BK1.out 3).trans rfl
 have fBK1_3 := blk_frozen BK1.out 3
 (try clear zBK1_4 fBK1_4)
 have zBK1_4 : w2.cell? ⟨g1, 4, none⟩ = some (.slice At m.f4.length ct) := (blk_cell BK1.out 4).trans rfl
 have fBK1_4 := blk_frozen BK1.out 4
 (try clear zBK1_5 fBK1_5)
 have zBK1_5 : w2.cell? ⟨g1, 5, none⟩ = some (.int .i64 m.f5) := (blk_cell BK1.out 5).trans rfl
 have fBK1_5 := blk_frozen BK1.out 5
 clear hb
 cases b with
 | false =>
  go_wp2_with fail
  refine (forebaylaw08_awake.calls ka true w2 HKA.out).mono ?_
  rintro e wd ⟨rfl, hb⟩
  have HB3 := Aside0.mk (below_step HB.out hb)
  clear hb
  go_wp2
  go_ret
  exact ⟨rfl, HB3.out⟩
 | true =>
  by_cases hn0 : n < 0
  ·have hd0 : decide (n < 0) = true := decide_eq_true hn0
   clear hn0
   go_wp2_with fail
   refine (forebaylaw08_awake.calls ka true w2 HKA.out).mono ?_
   rintro e wd ⟨rfl, hb⟩
   have HB3 := Aside0.mk (below_step HB.out hb)
   clear hb
   go_wp2
   go_ret
   exact ⟨rfl, HB3.out⟩
  have hd0 : decide (n < 0) = false := decide_eq_false hn0
  by_cases hn1 : 1010 < n
  ·have hd1 : decide (1010 < n) = true := decide_eq_true hn1
   clear hn0 hn1
   go_wp2_with fail
   refine (forebaylaw08_awake.calls ka true w2 HKA.out).mono ?_
   rintro e wd ⟨rfl, hb⟩
   have HB3 := Aside0.mk (below_step HB.out hb)
   clear hb
   go_wp2
   go_ret
   exact ⟨rfl, HB3.out⟩
  have hd1 : decide (1010 < n) = false := decide_eq_false hn1
  obtain ⟨N, hN⟩ : ∃ N : Nat, n = (N : Int) := ⟨n.toNat, by omega⟩
  have HN := Aside0.mk hN
  have HN10 : Aside0 (N ≤ 1010) := ⟨by omega⟩
  clear hn0 hn1 hN
  have hsz := HL.out rfl
  have HS : Aside0 (m.f2.length ≤ 80 ∧ m.f4.length ≤ 40) := ⟨hsz⟩
  clear hsz
  have SB := HB
  have SK1 := BK1
  have HB2 := Aside0.mk (Below.refl w2.heap.size w2)
  go_wp2
  clear hd0 hd1 zBK1_0 zBK1_1 zBK1_2 zBK1_3 zBK1_4 zBK1_5 fBK1_0 fBK1_1 fBK1_2 fBK1_3 fBK1_4 fBK1_5
  go_loopw [5, 6] (fun v i wr => ∃ (u : Value) (k : Int) (j : Nat), u = v ∧ i = .int .i64 k ∧ Aside0 (k = (j : Int)) ∧ Aside0 (j ≤ N) ∧ Aside0 (Kd.N k25 25 wr w2.heap.size (fun _ => True) u (List.replicate j m)) ∧ Aside0 (Below w2.heap.size w2 wr)) (fun v i wr => eaLeft N i)
  case atStart => exact ⟨_, 0, 0, rfl, rfl, ⟨rfl⟩, ⟨Nat.zero_le _⟩, ⟨Kd.N_nil _ _ _ _ _⟩, HB2⟩
  case round =>
   clear HB HB2 BK1
   obtain ⟨v5, k, j, rfl, rfl, HK, HJ, HR, HB2⟩ := hrel
   obtain ⟨w3, rfl⟩ : ∃ w3 : World, w3 = wr := ⟨_, rfl⟩
   have HB : Aside0 (Below w.heap.size w w3) := ⟨SB.out.trans (HB2.out.mono SB.out.size)⟩
   have BK1 := Aside0.mk (blk_below SK1.out HB2.out)
   by_cases hlt : j < N
   ·have hd : decide (k < n) = true := decide_eq_true (by have := HK.out; have := HN.out; omega)
    have HLT := Aside0.mk hlt
    have hadd : wrap64 (k + 1) = k + 1 := by
     unfold wrap64
     have := HK.out
     have := HN10.out
     omega
    have HADD := Aside0.mk hadd
    have z0 : w3.cell? ⟨g1, 0, none⟩ = some (.string m.f0) := (blk_cell BK1.out 0).trans rfl
    have z1 : w3.cell? ⟨g1, 1, none⟩ = some (.int .i64 m.f1) := (blk_cell BK1.out 1).trans rfl
    have z2 : w3.cell? ⟨g1, 2, none⟩ = some (.slice Av m.f2.length cv) := (blk_cell BK1.out 2).trans rfl
    have z3 : w3.cell? ⟨g1, 3, none⟩ = some (.int .i64 m.f3) := (blk_cell BK1.out 3).trans rfl
    have z4 : w3.cell? ⟨g1, 4, none⟩ = some (.slice At m.f4.length ct) := (blk_cell BK1.out 4).trans rfl
    have z5 : w3.cell? ⟨g1, 5, none⟩ = some (.int .i64 m.f5) := (blk_cell BK1.out 5).trans rfl
    clear hlt hadd
    go_wp2_with (first | ((with_reducible refine gate_builtin (b := .append) (xs := #[.tmp 37, .tmp 39]) rfl ?_); at_builtin; go_must (refine Kd.N_append k25 (w0 := w2) w2.heap.size rfl (.tmp 37) (.tmp 39) 42 25 (.agg #[(.string ⟨#[]⟩), (.int .i64 0), (.slice none 0 0), (.int .i64 0), (.slice none 0 0), (.int .i64 0)]) 88 rfl Try.underlying42 info25 rfl (by decide) (by omega) v5 (List.replicate j m) m [.string m.f0, .int .i64 m.f1, .slice Av m.f2.length cv, .int .i64 m.f3, .slice At m.f4.length ct, .int .i64 m.f5] (fun _ => True) (fun k => k < w.heap.size) rfl rfl (Kd.FK_step HFK.out (fun k hk _ => HB.out.block k hk)) (fun k hk => ⟨trivial, fun e => by have h1 := Kd.N_base HR.out k e.symm; have h2 := SB.out.size; omega⟩) (fun _ _ => trivial) HR.out HB2.out HB2.out.size (by rw [List.length_replicate]; have := HJ.out; have := HN10.out; omega) ?_); intro v1 w4 hr3 hb3 hg3 hat3; have HR3 := Aside0.mk hr3; have HB3 := Aside0.mk hb3; clear hr3 hb3 hg3 hat3))
    have HR4 : Aside0 (Kd.N k25 25 w4 w2.heap.size (fun _ => True) v1 (List.replicate (j + 1) m)) := ⟨by rw [List.replicate_succ']; exact HR3.out⟩
    go_roundw
    case rel => exact ⟨v1, k + 1, j + 1, rfl, (by rw [HADD.out]), ⟨by have := HK.out; omega⟩, ⟨HLT.out⟩, HR4, HB3⟩
    case measure => rw [HADD.out]; show N - (k + 1).toNat < N - k.toNat; have := HLT.out; have := HK.out; omega
   ·have hd : decide (k < n) = false := decide_eq_false (by have := HK.out; have := HN.out; omega)
    obtain rfl : j = N := by have := HJ.out; omega
    obtain ⟨L, hL⟩ : ∃ L, List.replicate j m = L := ⟨_, rfl⟩
    have hRR := HR.out
    rw [hL] at hRR
    obtain ⟨Al, cl, rfl, hlc, hC⟩ := Kd.N_reads hRR
    have HLN : Aside0 (L.length = j) := ⟨by rw [← hL, List.length_replicate]⟩
    have hin : ∀ x ∈ L, metIn x = true := by rw [← hL]; exact rep_in j HI.out
    have hsm : ∀ x ∈ L, x.f2.length ≤ 80 ∧ x.f4.length ≤ 40 := by rw [← hL]; exact rep_small j HS.out
    have hbi := batIn_of L hin hsm
    have hbb := batBad_rep m j
    have hbn := batNorm_rep m j
    rw [hL] at hbb hbn
    obtain ⟨at1, e1, h1⟩ : ∃ a e, batBad L = (a, e) := ⟨_, _, rfl⟩
    obtain ⟨nl, at2, e2, h2⟩ : ∃ l a e, batNorm L = (l, a, e) := ⟨_, _, _, rfl⟩
    have hf1 := batcheck_f L hin
    have hf2 := batnorm_f L hbi
    rw [h1] at hbb hf1
    rw [h2] at hbn hf2
    obtain ⟨kc, hkc⟩ := Ev.rounds (bclone_ev L (by have := HLN.out; have := HN10.out; omega) hsm)
    have hbe := batequal_f L L hbi hbi
    rw [(metsEq_iff L L).2 rfl] at hbe
    have HF1 := Aside0.mk hf1
    have HF2 := Aside0.mk hf2
    have HF3 := Aside0.mk hkc
    have HF4 := Aside0.mk hbe
    have HBB := Aside0.mk hbb
    have HBN := Aside0.mk hbn
    have HLC := Aside0.mk hlc
    have HC := Aside0.mk hC
    have HIN := Aside0.mk hin
    have HLM : Aside0 (∀ q x, L[q]? = some x → x = m) := ⟨fun q x hx => by
     have h := List.mem_of_getElem? hx
     rw [← hL] at h
     exact (List.mem_replicate.1 h).2⟩
    have tl : ((L.length : Int) != n) = false := by rw [HLN.out, HN.out]; exact bne_self_eq_false _
    have HB3 := Aside0.mk (Below.refl w3.heap.size w3)
    have SB3 := HB
    have SK3 := BK1
    clear hlt hL hRR hlc hC hin hsm hbi hbb hbn h1 h2 hf1 hf2 hkc hbe HR HJ HK HB2
    go_wp2_with fail
    refine (batch_Check.calls Al cl L at1 e1 w3 HC.out HLC.out HF1.out).mono ?_
    rintro e w4 ⟨rfl, hb⟩
    have n0 := Aside0.mk (below_step HB.out hb)
    clear HB
    have HB := n0
    clear n0
    have n0 := Aside0.mk (below_step HB3.out hb)
    clear HB3
    have HB3 := n0
    clear n0
    clear hb
    clear hd
    go_wp2_with fail
    refine (batch_Normal.calls Al cl L nl at2 e2 w4 (Kd.C_below HC.out HB3.out) HLC.out HF2.out).mono ?_
    rintro e w5 ⟨vn, rfl, hn, hb⟩
    clear hn
    have n0 := Aside0.mk (below_step HB.out hb)
    clear HB
    have HB := n0
    clear n0
    have n0 := Aside0.mk (below_step HB3.out hb)
    clear HB3
    have HB3 := n0
    clear n0
    clear hb
    have S35 := HB3
    have HB5 := Aside0.mk (Below.refl w5.heap.size w5)
    go_wp2_with fail
    refine (batch_Clone.calls kc Al cl L L w5 (Kd.C_below HC.out HB3.out) HLC.out HF3.out).mono ?_
    rintro e w6 ⟨vc, rfl, hs, hb⟩
    obtain ⟨Ac, cc, rfl, lc, qc⟩ := Kd.R_reads (Kd.S_R hs)
    have HS6 := Aside0.mk hs
    have HLC2 := Aside0.mk lc
    have HQ := Aside0.mk qc
    clear hs lc qc
    have n0 := Aside0.mk (below_step HB.out hb)
    clear HB
    have HB := n0
    clear n0
    have n0 := Aside0.mk (below_step HB3.out hb)
    clear HB3
    have HB3 := n0
    clear n0
    have n0 := Aside0.mk (below_step HB5.out hb)
    clear HB5
    have HB5 := n0
    clear n0
    clear hb
    have HB6 := Aside0.mk (Below.refl w6.heap.size w6)
    go_wp2_with fail
    refine (batch_Equal.calls Ac cc L Al cl L true w6 HQ.out HLC2.out (Kd.C_below HC.out HB3.out) HLC.out HF4.out).mono ?_
    rintro e w7 ⟨rfl, hb⟩
    have n0 := Aside0.mk (below_step HB.out hb)
    clear HB
    have HB := n0
    clear n0
    have n0 := Aside0.mk (below_step HB3.out hb)
    clear HB3
    have HB3 := n0
    clear n0
    have n0 := Aside0.mk (below_step HB5.out hb)
    clear HB5
    have HB5 := n0
    clear n0
    have n0 := Aside0.mk (below_step HB6.out hb)
    clear HB6
    have HB6 := n0
    clear n0
    clear hb
    have HS7 := Aside0.mk (Kd.S_below HS6.out HB6.out)
    have hS8 := HS7.out
    have hC8 := HC.out
    rw [HLN.out] at hS8 hC8 ⊢
    have HS8 := Aside0.mk hS8
    have HC8 := Aside0.mk hC8
    clear hS8 hC8 tl HS6 HS7 HLC2 HQ HB6 HF1 HF2 HF3 HF4
    go_wp2
    go_loopw [13] (fun i wr => ∃ (k : Int) (q : Nat) (xs : List S25), i = .int .i64 k ∧ Aside0 (k = (q : Int)) ∧ Aside0 (q ≤ j ∧ ∀ p, q ≤ p → xs[p]? = L[p]?) ∧ Aside0 (Kd.S k25 25 wr w5.heap.size (fun _ => True) (.slice Ac j cc) xs) ∧ Aside0 (Below w5.heap.size w5 wr)) (fun i wr => eaLeft j i)
    case atStart => exact ⟨0, 0, L, rfl, ⟨rfl⟩, ⟨⟨Nat.zero_le _, fun _ _ => rfl⟩⟩, HS8, HB5⟩
    case round =>
     clear HB HB3 HB5 BK1 HS8
     obtain ⟨k, q, xs, rfl, HK, HP, HSX, HB5⟩ := hrel
     by_cases hlt : q < j
     ·obtain rfl : q = k.toNat := by have := HK.out; omega
      have hk0 : 0 ≤ k := by have := HK.out; omega
      have hk1 : k < (j : Int) := by have := HK.out; omega
      have HK2 := Aside0.mk (And.intro hk0 hk1)
      have hd : decide (k < n) = true := decide_eq_true (by have := HN.out; omega)
      have hd0 : decide (0 ≤ k) = true := decide_eq_true hk0
      have hd1 : decide (k < (j : Int)) = true := decide_eq_true hk1
      have hp0 : (0 ≤ k) = True := eq_true hk0
      have hp1 : (k < (j : Int)) = True := eq_true hk1
      have hadd : wrap64 (k + 1) = k + 1 := by
       unfold wrap64
       have := HN10.out
       omega
      have HADD := Aside0.mk hadd
      have HLT := Aside0.mk hlt
      have hxl := (Kd.S_reads' HSX.out).1
      obtain ⟨gl, cap, ev, _, _, _⟩ := Kd.R_form (Kd.S_R HSX.out) (by omega)
      injection ev with ev1 ev2 ev3
      subst ev1
      obtain ⟨x, hx, hc0, hf0, hS1⟩ := bl_name HSX.out k.toNat hlt ⟨#[115, 112, 111, 105, 108, 116]⟩
      obtain rfl : x = m := HLM.out k.toNat x ((HP.out.2 k.toNat (Nat.le_refl _)).symm.trans hx)
      have hgr := bl_grown1 wr ⟨gl, k.toNat * 6, none⟩ (.string ⟨#[115, 112, 111, 105, 108, 116]⟩)
      have HGL : Aside0 (w5.heap.size ≤ gl) := ⟨Kd.S_base HSX.out gl rfl⟩
      have HB9 := Aside0.mk (Below.grown HB5.out hgr HB5.out.size (fun k hk => by injection hk with hk; rw [← hk]; exact HGL.out))
      have HS9 := Aside0.mk hS1
      have HXL : Aside0 (k.toNat < xs.length) := ⟨by omega⟩
      generalize hws : wr.setCell ⟨gl, k.toNat * 6, none⟩ (.string ⟨#[115, 112, 111, 105, 108, 116]⟩) = ws at HB9 HS9
      clear hgr hS1 hx hk0 hk1 hlt hadd hxl ev2 ev3
      go_wp2
      clear hws hc0 hf0
      go_loopw [14] (fun jv wq => ∃ (k2 : Int) (n2 : Nat) (xs2 : List S25) (y2 : S25), jv = .int .i64 k2 ∧ Aside0 (k2 = (n2 : Int)) ∧ Aside0 (n2 ≤ x.f2.length ∧ (∀ p, k.toNat + 1 ≤ p → xs2[p]? = L[p]?) ∧ xs2[k.toNat]? = some y2 ∧ y2.f2.length = x.f2.length ∧ y2.f4.length = x.f4.length) ∧ Aside0 (Kd.S k25 25 wq w5.heap.size (fun _ => True) (.slice (some ⟨gl, 0, none⟩) j cc) xs2) ∧ Aside0 (Below w5.heap.size w5 wq)) (fun jv wq => eaLeft x.f2.length jv)
      case atStart => exact ⟨0, 0, xs.set k.toNat (⟨⟨#[115, 112, 111, 105, 108, 116]⟩, x.f1, x.f2, x.f3, x.f4, x.f5⟩ : S25), (⟨⟨#[115, 112, 111, 105, 108, 116]⟩, x.f1, x.f2, x.f3, x.f4, x.f5⟩ : S25), rfl, ⟨rfl⟩, ⟨⟨Nat.zero_le _, fun p hp => by rw [List.getElem?_set_ne (by omega)]; exact HP.out.2 p (by omega), List.getElem?_set_self HXL.out, rfl, rfl⟩⟩, HS9, HB9⟩
      case round =>
       clear HS9 HB9
       obtain ⟨k2, n2, xs2, y2, rfl, HJ2, HP2, HS2, HB2⟩ := hrel
       obtain ⟨y, v2, v4, oki, hy, q2, q4, r2, r4, bk2, bk4⟩ := bl_borrow HS2.out k.toNat HLT.out
       obtain rfl : y = y2 := Option.some.inj (hy.symm.trans HP2.out.2.2.1)
       have HT : Aside0 (y.f2.length = x.f2.length ∧ y.f4.length = x.f4.length) := ⟨HP2.out.2.2.2⟩
       by_cases hlt2 : n2 < x.f2.length
       ·obtain ⟨g5, c5, e5, hg5, hl5, cur5, hc5⟩ := Kd.R_form r2 (by have := HT.out; omega)
        have hkn2 : k2.toNat = n2 := by have := HJ2.out; omega
        have HE5 : Aside0 (v2.ownBlock = some g5) := ⟨by rw [e5]; rfl⟩
        have Q2 : wr.cell? ⟨gl, k.toNat * 6 + 2, none⟩ = some (.slice (some ⟨g5, 0, none⟩) x.f2.length c5) := by
         rw [q2, e5, HT.out.1]
        have htr := (DRow.of_R (L := y.f2) (g := g5) (cap := c5) (by rw [e5] at r2; exact r2)).1
        obtain ⟨t5, hyt⟩ : ∃ t5, y.f2[n2]? = some t5 := ⟨_, List.getElem?_eq_getElem (by rw [HT.out.1]; exact hlt2)⟩
        have hcl := htr.cell hyt
        have hf0 := htr.frozen (n2 * 3)
        have hf1 := htr.frozen (n2 * 3 + 1)
        have hf2 := htr.frozen (n2 * 3 + 2)
        have hset := htr.set n2 (by rw [HT.out.1]; exact hlt2) (⟨false, 3, 0⟩ : S40)
        have HR5 := Aside0.mk (DRow.to_R (base := w5.heap.size) (ok := oki) hset hg5 (r2.1 g5 HE5.out))
        have hgr := bl_grown3 wr g5 (n2 * 3) (n2 * 3 + 1) (n2 * 3 + 2) (.bool false) (.int .u64 3) (.int .i64 0)
        have HB7 := Aside0.mk (Below.grown HB2.out hgr HB2.out.size (fun k hk => by injection hk with hk; rw [← hk]; exact hg5))
        have HS7 := Aside0.mk (bk2 _ (y.f2.set n2 (⟨false, 3, 0⟩ : S40)) (by rw [HE5.out]; exact hgr) (by rw [e5]; have h := HR5.out; rw [List.length_set] at h; exact h))
        have HJ0 := Aside0.mk (And.intro (show 0 ≤ k2 by have := HJ2.out; omega) (show k2 < (x.f2.length : Int) by have := HJ2.out; omega))
        have hj0 : decide (0 ≤ k2) = true := decide_eq_true HJ0.out.1
        have hj1 : decide (k2 < (x.f2.length : Int)) = true := decide_eq_true HJ0.out.2
        have hj2 : (k2 < (x.f2.length : Int)) = True := eq_true HJ0.out.2
        have hj3 : (0 ≤ k2) = True := eq_true HJ0.out.1
        have hadd2 : wrap64 (k2 + 1) = k2 + 1 := by
         unfold wrap64
         have := HS.out
         have := HJ0.out
         omega
        have HADD2 := Aside0.mk hadd2
        have HXL2 : Aside0 (k.toNat < xs2.length) := ⟨(List.getElem?_eq_some_iff.1 hy).1⟩
        have HLT2 := Aside0.mk hlt2
        rw [← hkn2] at hcl hf0 hf1 hf2 HB7 HS7
        have hc0 := hcl.1
        have hc1 := hcl.2.1
        have hc2 := hcl.2.2
        generalize hws : ((wr.setCell ⟨g5, k2.toNat * 3, none⟩ (.bool false)).setCell ⟨g5, k2.toNat * 3 + 1, none⟩ (.int .u64 3)).setCell ⟨g5, k2.toNat * 3 + 2, none⟩ (.int .i64 0) = ws2 at HB7 HS7
        clear hgr hset htr r2 r4 bk2 bk4 q2 q4 hl5 hc5 hg5 e5 HR5 hyt hcl hkn2 hlt2 hadd2 hy
        go_wp2
        clear hws
        have hml : eaLeft x.f2.length (Value.int IntKind.i64 (k2 + 1)) < eaLeft x.f2.length (Value.int IntKind.i64 k2) := by
         have := HJ0.out
         show x.f2.length - (k2 + 1).toNat < x.f2.length - k2.toNat
         omega
        rw [HADD2.out]
        have hp2 : Aside0 (n2 + 1 ≤ x.f2.length ∧ (∀ p, k.toNat + 1 ≤ p → (xs2.set k.toNat (⟨y.f0, y.f1, y.f2.set k2.toNat (⟨false, 3, 0⟩ : S40), y.f3, y.f4, y.f5⟩ : S25))[p]? = L[p]?) ∧ (xs2.set k.toNat (⟨y.f0, y.f1, y.f2.set k2.toNat (⟨false, 3, 0⟩ : S40), y.f3, y.f4, y.f5⟩ : S25))[k.toNat]? = some (⟨y.f0, y.f1, y.f2.set k2.toNat (⟨false, 3, 0⟩ : S40), y.f3, y.f4, y.f5⟩ : S25) ∧ (y.f2.set k2.toNat (⟨false, 3, 0⟩ : S40)).length = x.f2.length ∧ y.f4.length = x.f4.length) :=
         ⟨by have := HLT2.out; omega, fun p hp => by rw [List.getElem?_set_ne (by omega)]; exact HP2.out.2.1 p hp, List.getElem?_set_self HXL2.out, by rw [List.length_set]; exact HT.out.1, HT.out.2⟩
        have hk3 : Aside0 (k2 + 1 = ((n2 + 1 : Nat) : Int)) := ⟨by have := HJ2.out; omega⟩
        exact ⟨⟨k2 + 1, n2 + 1, xs2.set k.toNat (⟨y.f0, y.f1, y.f2.set k2.toNat (⟨false, 3, 0⟩ : S40), y.f3, y.f4, y.f5⟩ : S25), (⟨y.f0, y.f1, y.f2.set k2.toNat (⟨false, 3, 0⟩ : S40), y.f3, y.f4, y.f5⟩ : S25), rfl, hk3, hp2, HS7, HB7⟩, hml⟩
       ·obtain ⟨A5, c5, e5, hl5, hq5⟩ := Kd.R_reads r2
        have Q2 : wr.cell? ⟨gl, k.toNat * 6 + 2, none⟩ = some (.slice A5 x.f2.length c5) := by
         rw [q2, e5, HT.out.1]
        have hj1 : decide (k2 < (x.f2.length : Int)) = false := decide_eq_false (by have := HJ2.out; omega)
        have hj2 : (k2 < (x.f2.length : Int)) = False := eq_false (by have := HJ2.out; omega)
        have HP3 : Aside0 ((∀ p, k.toNat + 1 ≤ p → xs2[p]? = L[p]?) ∧ xs2[k.toNat]? = some y ∧ y.f4.length = x.f4.length) := ⟨⟨HP2.out.2.1, HP2.out.2.2.1, HT.out.2⟩⟩
        clear r2 r4 bk2 bk4 q2 q4 hl5 hq5 e5 hlt2 hy HT HP2 HJ2
        go_wp2
        clear Q2 hj1 hj2
        go_loopw [15] (fun jv wq => ∃ (k2 : Int) (n2 : Nat) (xs2 : List S25) (y2 : S25), jv = .int .i64 k2 ∧ Aside0 (k2 = (n2 : Int)) ∧ Aside0 (n2 ≤ x.f4.length ∧ (∀ p, k.toNat + 1 ≤ p → xs2[p]? = L[p]?) ∧ xs2[k.toNat]? = some y2 ∧ y2.f4.length = x.f4.length) ∧ Aside0 (Kd.S k25 25 wq w5.heap.size (fun _ => True) (.slice (some ⟨gl, 0, none⟩) j cc) xs2) ∧ Aside0 (Below w5.heap.size w5 wq)) (fun jv wq => eaLeft x.f4.length jv)
        case atStart => exact ⟨0, 0, xs2, y, rfl, ⟨rfl⟩, ⟨⟨Nat.zero_le _, HP3.out.1, HP3.out.2.1, HP3.out.2.2⟩⟩, HS2, HB2⟩
        case round =>
         clear HS2 HB2 HP3
         obtain ⟨k3, n3, xs3, y3, rfl, HJ3, HP4, HS3, HB4⟩ := hrel
         obtain ⟨u, v2, v4, oki, hy, q2, q4, r2, r4, bk2, bk4⟩ := bl_borrow HS3.out k.toNat HLT.out
         obtain rfl : u = y3 := Option.some.inj (hy.symm.trans HP4.out.2.2.1)
         have HT : Aside0 (u.f4.length = x.f4.length) := ⟨HP4.out.2.2.2⟩
         by_cases hlt3 : n3 < x.f4.length
         ·obtain ⟨g5, c5, e5, hg5, hl5, cur5, hc5⟩ := Kd.R_form r4 (by have := HT.out; omega)
          have hkn3 : k3.toNat = n3 := by have := HJ3.out; omega
          have HE5 : Aside0 (v4.ownBlock = some g5) := ⟨by rw [e5]; rfl⟩
          have Q4 : wr.cell? ⟨gl, k.toNat * 6 + 4, none⟩ = some (.slice (some ⟨g5, 0, none⟩) x.f4.length c5) := by
           rw [q4, e5, HT.out]
          have htr := TRow.of_R (L := u.f4) (g := g5) (cap := c5) (by rw [e5] at r4; exact r4)
          obtain ⟨t5, hyt⟩ : ∃ t5, u.f4[n3]? = some t5 := ⟨_, List.getElem?_eq_getElem (by rw [HT.out]; exact hlt3)⟩
          have hcl := htr.cell hyt
          have hf0 := htr.frozen (n3 * 2)
          have hf1 := htr.frozen (n3 * 2 + 1)
          have hset := htr.set n3 (by rw [HT.out]; exact hlt3) (⟨⟨#[115, 112, 111, 105, 108, 116]⟩, ⟨#[]⟩⟩ : S37)
          have HR5 := Aside0.mk (TRow.to_R (base := w5.heap.size) (ok := oki) hset hg5 (r4.1 g5 HE5.out))
          have hgr := bl_grown2 wr g5 (n3 * 2) (n3 * 2 + 1) (.string ⟨#[115, 112, 111, 105, 108, 116]⟩) (.string ⟨#[]⟩)
          have HB7 := Aside0.mk (Below.grown HB4.out hgr HB4.out.size (fun k hk => by injection hk with hk; rw [← hk]; exact hg5))
          have HS7 := Aside0.mk (bk4 _ (u.f4.set n3 (⟨⟨#[115, 112, 111, 105, 108, 116]⟩, ⟨#[]⟩⟩ : S37)) (by rw [HE5.out]; exact hgr) (by rw [e5]; have h := HR5.out; rw [List.length_set] at h; exact h))
          have HJ0 := Aside0.mk (And.intro (show 0 ≤ k3 by have := HJ3.out; omega) (show k3 < (x.f4.length : Int) by have := HJ3.out; omega))
          have hj0 : decide (0 ≤ k3) = true := decide_eq_true HJ0.out.1
          have hj1 : decide (k3 < (x.f4.length : Int)) = true := decide_eq_true HJ0.out.2
          have hj2 : (k3 < (x.f4.length : Int)) = True := eq_true HJ0.out.2
          have hj3 : (0 ≤ k3) = True := eq_true HJ0.out.1
          have hadd3 : wrap64 (k3 + 1) = k3 + 1 := by
           unfold wrap64
           have := HS.out
           have := HJ0.out
           omega
          have HADD3 := Aside0.mk hadd3
          have HXL2 : Aside0 (k.toNat < xs3.length) := ⟨(List.getElem?_eq_some_iff.1 hy).1⟩
          have HLT3 := Aside0.mk hlt3
          rw [← hkn3] at hcl hf0 hf1 HB7 HS7
          have hc0 := hcl.1
          have hc1 := hcl.2
          generalize hws : (wr.setCell ⟨g5, k3.toNat * 2, none⟩ (.string ⟨#[115, 112, 111, 105, 108, 116]⟩)).setCell ⟨g5, k3.toNat * 2 + 1, none⟩ (.string ⟨#[]⟩) = ws2 at HB7 HS7
          clear hgr hset htr r2 r4 bk2 bk4 q2 q4 hl5 hc5 hg5 e5 HR5 hyt hcl hkn3 hlt3 hadd3 hy
          go_wp2
          clear hws
          have hml : eaLeft x.f4.length (Value.int IntKind.i64 (k3 + 1)) < eaLeft x.f4.length (Value.int IntKind.i64 k3) := by
           have := HJ0.out
           show x.f4.length - (k3 + 1).toNat < x.f4.length - k3.toNat
           omega
          rw [HADD3.out]
          have hp2 : Aside0 (n3 + 1 ≤ x.f4.length ∧ (∀ p, k.toNat + 1 ≤ p → (xs3.set k.toNat (⟨u.f0, u.f1, u.f2, u.f3, u.f4.set k3.toNat (⟨⟨#[115, 112, 111, 105, 108, 116]⟩, ⟨#[]⟩⟩ : S37), u.f5⟩ : S25))[p]? = L[p]?) ∧ (xs3.set k.toNat (⟨u.f0, u.f1, u.f2, u.f3, u.f4.set k3.toNat (⟨⟨#[115, 112, 111, 105, 108, 116]⟩, ⟨#[]⟩⟩ : S37), u.f5⟩ : S25))[k.toNat]? = some (⟨u.f0, u.f1, u.f2, u.f3, u.f4.set k3.toNat (⟨⟨#[115, 112, 111, 105, 108, 116]⟩, ⟨#[]⟩⟩ : S37), u.f5⟩ : S25) ∧ (u.f4.set k3.toNat (⟨⟨#[115, 112, 111, 105, 108, 116]⟩, ⟨#[]⟩⟩ : S37)).length = x.f4.length) :=
           ⟨by have := HLT3.out; omega, fun p hp => by rw [List.getElem?_set_ne (by omega)]; exact HP4.out.2.1 p hp, List.getElem?_set_self HXL2.out, by rw [List.length_set]; exact HT.out⟩
          have hk3 : Aside0 (k3 + 1 = ((n3 + 1 : Nat) : Int)) := ⟨by have := HJ3.out; omega⟩
          exact ⟨⟨k3 + 1, n3 + 1, xs3.set k.toNat (⟨u.f0, u.f1, u.f2, u.f3, u.f4.set k3.toNat (⟨⟨#[115, 112, 111, 105, 108, 116]⟩, ⟨#[]⟩⟩ : S37), u.f5⟩ : S25), (⟨u.f0, u.f1, u.f2, u.f3, u.f4.set k3.toNat (⟨⟨#[115, 112, 111, 105, 108, 116]⟩, ⟨#[]⟩⟩ : S37), u.f5⟩ : S25), rfl, hk3, hp2, HS7, HB7⟩, hml⟩
         ·obtain ⟨A5, c5, e5, hl5, hq5⟩ := Kd.R_reads r4
          have Q4 : wr.cell? ⟨gl, k.toNat * 6 + 4, none⟩ = some (.slice A5 x.f4.length c5) := by
           rw [q4, e5, HT.out]
          have hj1 : decide (k3 < (x.f4.length : Int)) = false := decide_eq_false (by have := HJ3.out; omega)
          have hj2 : (k3 < (x.f4.length : Int)) = False := eq_false (by have := HJ3.out; omega)
          clear r2 r4 bk2 bk4 q2 q4 hl5 hq5 e5 hlt3 hy
          go_wp2
          have hp2 : Aside0 (k.toNat + 1 ≤ j ∧ ∀ p, k.toNat + 1 ≤ p → xs3[p]? = L[p]?) := ⟨by have := HLT.out; omega, HP4.out.2.1⟩
          have hk3 : Aside0 (k + 1 = ((k.toNat + 1 : Nat) : Int)) := ⟨by have := HK2.out; omega⟩
          go_roundw
          case rel => exact ⟨k + 1, k.toNat + 1, xs3, (by rw [HADD.out]), hk3, hp2, HS3, HB4⟩
          case measure => rw [HADD.out]; show j - (k + 1).toNat < j - k.toNat; have := HK2.out; omega
     ·have hd : decide (k < n) = false := decide_eq_false (by have := HK.out; have := HN.out; omega)
      have HB3 : Aside0 (Below w3.heap.size w3 wr) := ⟨S35.out.trans (HB5.out.mono S35.out.size)⟩
      clear hlt HK HP HSX HB5
      go_wp2
      clear hd
      go_loopw [16] (fun i wr => ∃ (k : Int) (q : Nat), i = .int .i64 k ∧ Aside0 (k = (q : Int)) ∧ Aside0 (q ≤ j) ∧ Aside0 (Below w3.heap.size w3 wr)) (fun i wr => eaLeft j i)
      case atStart => exact ⟨0, 0, rfl, ⟨rfl⟩, ⟨Nat.zero_le _⟩, HB3⟩
      case round =>
       clear HB3
       obtain ⟨k, q, rfl, HK, HP, HB3⟩ := hrel
       obtain ⟨wo, rfl⟩ : ∃ wo : World, wo = wr := ⟨_, rfl⟩
       have HB : Aside0 (Below w.heap.size w wo) := ⟨SB3.out.trans (HB3.out.mono SB3.out.size)⟩
       have BK1 := Aside0.mk (blk_below SK3.out HB3.out)
       by_cases hlt : q < j
       ·have hk0 : 0 ≤ k := by have := HK.out; omega
        have hk1 : k < (j : Int) := by have := HK.out; omega
        have hd : decide (k < n) = true := decide_eq_true (by have := HN.out; omega)
        have hd0 : decide (0 ≤ k) = true := decide_eq_true hk0
        have hd1 : decide (k < (j : Int)) = true := decide_eq_true hk1
        have hp0 : (0 ≤ k) = True := eq_true hk0
        have hp1 : (k < (j : Int)) = True := eq_true hk1
        have hadd : wrap64 (k + 1) = k + 1 := by
         unfold wrap64
         have := HN10.out
         have := HN.out
         omega
        have HADD := Aside0.mk hadd
        have HLT := Aside0.mk hlt
        obtain ⟨ad, A2, c2, A4, c4, ee, x0, x1, x2, x3, x4, x5, l2, i2, l4, i4⟩ := at_T25 (Kd.C_below HC8.out HB3.out) k hk0 hk1
        cases ee
        obtain ⟨m1, hm1⟩ : ∃ m1, rd_T25 L k = m1 := ⟨_, rfl⟩
        have hget : L[q]? = some m1 := by
         rw [← hm1]
         unfold rd_T25
         rw [HK.out, Int.toNat_natCast, List.getD_eq_getElem?_getD, List.getElem?_eq_getElem (by rw [HLN.out]; exact hlt)]
         rfl
        rw [hm1] at x0 x1 x2 x3 x4 x5 l2 i2 l4 i4
        obtain rfl : m1 = m := HLM.out q m1 hget
        have HME := Aside0.mk (PE.metC_of i2 l2 i4 l4 HI.out)
        have HX : Aside0 (∀ W', Below wo.heap.size wo W' → W'.cell? (ad.add (k.toNat * 6)) = some (.string m1.f0) ∧ W'.cell? ⟨(ad.add (k.toNat * 6)).block, (ad.add (k.toNat * 6)).off + 1, none⟩ = some (.int .i64 m1.f1) ∧ W'.cell? ⟨(ad.add (k.toNat * 6)).block, (ad.add (k.toNat * 6)).off + 2, none⟩ = some (.slice A2 m1.f2.length c2) ∧ W'.cell? ⟨(ad.add (k.toNat * 6)).block, (ad.add (k.toNat * 6)).off + 3, none⟩ = some (.int .i64 m1.f3) ∧ W'.cell? ⟨(ad.add (k.toNat * 6)).block, (ad.add (k.toNat * 6)).off + 4, none⟩ = some (.slice A4 m1.f4.length c4) ∧ W'.cell? ⟨(ad.add (k.toNat * 6)).block, (ad.add (k.toNat * 6)).off + 5, none⟩ = some (.int .i64 m1.f5)) := ⟨fun W' hb => ⟨(hb.cell (World.block_lt_of_cell? _ _ x0)).trans x0, (hb.cell (World.block_lt_of_cell? _ _ x1)).trans x1, (hb.cell (World.block_lt_of_cell? _ _ x2)).trans x2, (hb.cell (World.block_lt_of_cell? _ _ x3)).trans x3, (hb.cell (World.block_lt_of_cell? _ _ x4)).trans x4, (hb.cell (World.block_lt_of_cell? _ _ x5)).trans x5⟩⟩
        have HCALL : Aside0 (∀ W', Below wo.heap.size wo W' → Calls Try.prog 22 #[.agg #[.string m1.f0, .int .i64 m1.f1, .slice A2 m1.f2.length c2, .int .i64 m1.f3, .slice A4 m1.f4.length c4, .int .i64 m1.f5], .agg #[.string m1.f0, .int .i64 m1.f1, .slice Av m1.f2.length cv, .int .i64 m1.f3, .slice At m1.f4.length ct, .int .i64 m1.f5]] W' fun e w' => e = .returned (.bool true) ∧ Below W'.heap.size W' w') := ⟨fun W' hb => by
         have h := mequal_calls m1 m1 A2 c2 A4 c4 Av cv At ct W' (HME.out.below hb) (HM.out.below (HB.out.trans (hb.mono HB.out.size))) (by have := HS.out; omega) (by have := HS.out; omega)
         rw [(metEq_iff m1 m1).2 rfl] at h
         exact h⟩
        have HBR := Aside0.mk (Below.refl wo.heap.size wo)
        clear x0 x1 x2 x3 x4 x5 l2 i2 l4 i4 hget hm1 hlt hadd
        go_wp2
        refine start_ (n := 7) (S := fun w' => w'.cell? (ad.add (k.toNat * 6)) = some (.string m1.f0) ∧ w'.cell? ⟨(ad.add (k.toNat * 6)).block, (ad.add (k.toNat * 6)).off + 1, none⟩ = some (.int .i64 m1.f1) ∧ w'.cell? ⟨(ad.add (k.toNat * 6)).block, (ad.add (k.toNat * 6)).off + 2, none⟩ = some (.slice A2 m1.f2.length c2) ∧ w'.cell? ⟨(ad.add (k.toNat * 6)).block, (ad.add (k.toNat * 6)).off + 3, none⟩ = some (.int .i64 m1.f3) ∧ w'.cell? ⟨(ad.add (k.toNat * 6)).block, (ad.add (k.toNat * 6)).off + 4, none⟩ = some (.slice A4 m1.f4.length c4) ∧ w'.cell? ⟨(ad.add (k.toNat * 6)).block, (ad.add (k.toNat * 6)).off + 5, none⟩ = some (.int .i64 m1.f5) ∧ w'.cell? ⟨g1, 0, none⟩ = some (.string m1.f0) ∧ w'.cell? ⟨g1, 1, none⟩ = some (.int .i64 m1.f1) ∧ w'.cell? ⟨g1, 2, none⟩ = some (.slice Av m1.f2.length cv) ∧ w'.cell? ⟨g1, 3, none⟩ = some (.int .i64 m1.f3) ∧ w'.cell? ⟨g1, 4, none⟩ = some (.slice At m1.f4.length ct) ∧ w'.cell? ⟨g1, 5, none⟩ = some (.int .i64 m1.f5)) (ds := []) #[false, false, false, false, false, false, false] (by kernel_rfl) rfl rfl ⟨(HX.out _ (below_drew1 HBR.out)).1, (HX.out _ (below_drew1 HBR.out)).2.1, (HX.out _ (below_drew1 HBR.out)).2.2.1, (HX.out _ (below_drew1 HBR.out)).2.2.2.1, (HX.out _ (below_drew1 HBR.out)).2.2.2.2.1, (HX.out _ (below_drew1 HBR.out)).2.2.2.2.2, (blk_cell (blk_drew BK1.out) 0).trans rfl, (blk_cell (blk_drew BK1.out) 1).trans rfl, (blk_cell (blk_drew BK1.out) 2).trans rfl, (blk_cell (blk_drew BK1.out) 3).trans rfl, (blk_cell (blk_drew BK1.out) 4).trans rfl, (blk_cell (blk_drew BK1.out) 5).trans rfl⟩ (fun hHeld => ?_)
        refine pure_ (i := 0) (N := some 114) (v := ?_) (a' := ?_) #[true, false, false, false, false, false, false] rfl rfl (by kernel_rfl) (fun _ _ _ h => h) (Or.inl ⟨by rfl, ?_⟩) ?_ ?_
        rotate_left
        ·intro w'
         go_simp
         with_reducible rfl
        rotate_left
        ·simp only [Act.put, List.setIfInBounds_toArray, List.set_cons_zero, List.set_cons_succ, i64_w, i32_w]
         rfl
        refine pure_ (i := 1) (N := some 115) (v := ?_) (a' := ?_) #[true, true, false, false, false, false, false] rfl rfl (by kernel_rfl) (fun _ _ _ h => h) (Or.inl ⟨by rfl, ?_⟩) ?_ ?_
        rotate_left
        ·intro w'
         go_simp
         with_reducible rfl
        rotate_left
        ·simp only [Act.put, List.setIfInBounds_toArray, List.set_cons_zero, List.set_cons_succ, i64_w, i32_w]
         rfl
        refine pure_ (i := 2) (N := some 116) (v := ?_) (a' := ?_) #[true, true, true, false, false, false, false] rfl rfl (by kernel_rfl) (fun _ _ _ h => h) (Or.inl ⟨by rfl, ?_⟩) ?_ ?_
        rotate_left
        ·intro w'
         go_simp
         with_reducible rfl
        rotate_left
        ·simp only [Act.put, List.setIfInBounds_toArray, List.set_cons_zero, List.set_cons_succ, i64_w, i32_w]
         rfl
        refine take_ (i := 3) (N := some 117) (v := ?_) (a' := ?_) #[true, true, true, true, false, false, false] rfl rfl (by kernel_rfl) (fun _ _ _ h => h) (Or.inl ⟨by rfl, ?_⟩) hHeld ?_ ?_
        rotate_left
        ·rintro w' ⟨s0, s1, s2, s3, s4, s5, s6, s7, s8, s9, s10, s11⟩
         go_simp
         with_reducible rfl
        rotate_left
        ·simp only [Act.put, List.setIfInBounds_toArray, List.set_cons_zero, List.set_cons_succ, i64_w, i32_w]
         rfl
        refine take_ (i := 4) (N := some 118) (v := ?_) (a' := ?_) #[true, true, true, true, true, false, false] rfl rfl (by kernel_rfl) (fun _ _ _ h => h) (Or.inl ⟨by rfl, ?_⟩) hHeld ?_ ?_
        rotate_left
        ·rintro w' ⟨s0, s1, s2, s3, s4, s5, s6, s7, s8, s9, s10, s11⟩
         go_simp
         with_reducible rfl
        rotate_left
        ·simp only [Act.put, List.setIfInBounds_toArray, List.set_cons_zero, List.set_cons_succ, i64_w, i32_w]
         rfl
        refine one_ (i := 5) (N := some 119) #[true, true, true, true, true, true, false] rfl rfl (by kernel_rfl) (by decide) (fun K hK => ?_)
        refine goes_ Try.func22 (by kernel_rfl) rfl #[.agg #[.string m1.f0, .int .i64 m1.f1, .slice A2 m1.f2.length c2, .int .i64 m1.f3, .slice A4 m1.f4.length c4, .int .i64 m1.f5], .agg #[.string m1.f0, .int .i64 m1.f1, .slice Av m1.f2.length cv, .int .i64 m1.f3, .slice At m1.f4.length ct, .int .i64 m1.f5]] (by rfl) rfl rfl (by first | (simp only [List.map_toArray, List.map_cons, List.map_nil]; done) | (simp only [List.map_toArray, List.map_cons, List.map_nil]; rfl) | simp) ?_
        with_reducible refine (HCALL.out _ (below_drew1 HBR.out)).mono ?_
        rintro e w3 ⟨rfl, hb⟩
        have n0 := Aside0.mk (blk_below (blk_drew BK1.out) hb)
        have n1 := Aside0.mk (below_step (below_drew1 HBR.out) hb)
        have n2 := Aside0.mk (below_step (below_drew1 HB3.out) hb)
        have n3 := Aside0.mk (below_step (below_drew1 HB.out) hb)
        clear BK1 HBR HB3 HB hb
        have BK1 := n0
        have HBR := n1
        have HB3 := n2
        have HB := n3
        clear n0 n1 n2 n3
        refine ⟨_, rfl, ?_⟩
        refine hK.out _ _ ⟨(HX.out _ HBR.out).1, (HX.out _ HBR.out).2.1, (HX.out _ HBR.out).2.2.1, (HX.out _ HBR.out).2.2.2.1, (HX.out _ HBR.out).2.2.2.2.1, (HX.out _ HBR.out).2.2.2.2.2, (blk_cell BK1.out 0).trans rfl, (blk_cell BK1.out 1).trans rfl, (blk_cell BK1.out 2).trans rfl, (blk_cell BK1.out 3).trans rfl, (blk_cell BK1.out 4).trans rfl, (blk_cell BK1.out 5).trans rfl⟩ (fun hHeld => ?_)
        clear hK K
        refine norm_ (a' := ?_) ?_ ?_
        rotate_left
        ·show Act.put _ (some 119) _ = _
         simp only [Act.put, List.setIfInBounds_toArray, List.set_cons_zero, List.set_cons_succ, i64_w, i32_w]
         rfl
        refine pure_ (i := 6) (N := some 120) (v := ?_) (a' := ?_) #[true, true, true, true, true, true, true] rfl rfl (by kernel_rfl) (fun _ _ _ h => h) (Or.inl ⟨by rfl, ?_⟩) ?_ ?_
        rotate_left
        ·intro w'
         go_simp
         with_reducible rfl
        rotate_left
        ·simp only [Act.put, List.setIfInBounds_toArray, List.set_cons_zero, List.set_cons_succ, i64_w, i32_w]
         rfl
        refine done_ (by kernel_rfl) ?_
        go_wp2
        go_roundw
        case rel => exact ⟨k + 1, q + 1, (by rw [HADD.out]), ⟨by have := HK.out; omega⟩, ⟨HLT.out⟩, HB3⟩
        case measure => rw [HADD.out]; show j - (k + 1).toNat < j - k.toNat; have := HLT.out; have := HK.out; omega
       ·have hd : decide (k < n) = false := decide_eq_false (by have := HK.out; have := HN.out; omega)
        clear hlt HK HP
        by_cases hbig : 1000 < j
        ·have hd1 : decide (1000 < n) = true := decide_eq_true (by have := HN.out; omega)
         have hbb := HBB.out
         have hbn := HBN.out
         rw [if_pos hbig] at hbb hbn
         obtain ⟨rfl, rfl⟩ := Prod.mk.inj hbb
         obtain ⟨rfl, rfl⟩ := Prod.mk.inj hbn
         clear hbb hbn hbig
         go_wp2_with fail
         refine (forebaylaw08_awake.calls ka true wo HKA.out).mono ?_
         rintro e wz ⟨rfl, hb⟩
         have HBZ := Aside0.mk (below_step HB.out hb)
         clear hb
         go_wp2
         go_ret
         exact ⟨rfl, HBZ.out⟩
        ·have hd1 : decide (1000 < n) = false := decide_eq_false (by have := HN.out; omega)
         obtain ⟨e3, he3⟩ : ∃ e3, metBad m = e3 := ⟨_, rfl⟩
         obtain ⟨nm, e4, he4⟩ : ∃ nm e4, metNorm m = (nm, e4) := ⟨_, _, rfl⟩
         have HE3 := Aside0.mk he3
         have HE4 := Aside0.mk he4
         have hbb := HBB.out
         have hbn := HBN.out
         rw [if_neg hbig] at hbb hbn
         rw [he3] at hbb
         rw [he4] at hbn
         have HNB := Aside0.mk hbb
         have HNN := Aside0.mk hbn
         have z0 : wo.cell? ⟨g1, 0, none⟩ = some (.string m.f0) := (blk_cell BK1.out 0).trans rfl
         have z1 : wo.cell? ⟨g1, 1, none⟩ = some (.int .i64 m.f1) := (blk_cell BK1.out 1).trans rfl
         have z2 : wo.cell? ⟨g1, 2, none⟩ = some (.slice Av m.f2.length cv) := (blk_cell BK1.out 2).trans rfl
         have z3 : wo.cell? ⟨g1, 3, none⟩ = some (.int .i64 m.f3) := (blk_cell BK1.out 3).trans rfl
         have z4 : wo.cell? ⟨g1, 4, none⟩ = some (.slice At m.f4.length ct) := (blk_cell BK1.out 4).trans rfl
         have z5 : wo.cell? ⟨g1, 5, none⟩ = some (.int .i64 m.f5) := (blk_cell BK1.out 5).trans rfl
         clear hbig hbb hbn he3 he4
         go_wp2_with fail
         refine (mcheck_calls m Av cv At ct wo (HM.out.below HB.out)).mono ?_
         rintro e wy ⟨rfl, hb⟩
         rw [HE3.out]
         clear z0 z1 z2 z3 z4 z5
         have n0 := Aside0.mk (below_step HB.out hb)
         clear HB
         have HB := n0
         clear n0
         have n0 := Aside0.mk (blk_below BK1.out hb)
         clear BK1
         have BK1 := n0
         clear n0
         (try clear zBK1_0 fBK1_0)
         have zBK1_0 : wy.cell? ⟨g1, 0, none⟩ = some (.string m.f0) := (blk_cell BK1.out 0).trans rfl
         have fBK1_0 := blk_frozen BK1.out 0
         (try clear zBK1_1 fBK1_1)
         have zBK1_1 : wy.cell? ⟨g1, 1, none⟩ = some (.int .i64 m.f1) := (blk_cell BK1.out 1).trans rfl
         have fBK1_1 := blk_frozen BK1.out 1
         (try clear zBK1_2 fBK1_2)
         have zBK1_2 : wy.cell? ⟨g1, 2, none⟩ = some (.slice Av m.f2.length cv) := (blk_cell BK1.out 2).trans rfl
         have fBK1_2 := blk_frozen BK1.out 2
         (try clear zBK1_3 fBK1_3)
         have zBK1_3 : wy.cell? ⟨g1, 3, none⟩ = some (.int .i64 m.f3) := (blk_cell BK1.out 3).trans rfl
         have fBK1_3 := blk_frozen BK1.out 3
         (try clear zBK1_4 fBK1_4)
         have zBK1_4 : wy.cell? ⟨g1, 4, none⟩ = some (.slice At m.f4.length ct) := (blk_cell BK1.out 4).trans rfl
         have fBK1_4 := blk_frozen BK1.out 4
         (try clear zBK1_5 fBK1_5)
         have zBK1_5 : wy.cell? ⟨g1, 5, none⟩ = some (.int .i64 m.f5) := (blk_cell BK1.out 5).trans rfl
         have fBK1_5 := blk_frozen BK1.out 5
         clear hb
         go_wp2_with fail
         refine (mnorm_calls m Av cv At ct wy (HM.out.below HB.out) HI.out (by have := HS.out; omega) (by have := HS.out; omega)).mono ?_
         rintro e wx ⟨v2, v4, rfl, hr2, hr4, hb⟩
         rw [HE4.out]
         obtain ⟨A2, c2, rfl, _, _⟩ := Kd.R_reads hr2
         obtain ⟨A4, c4, rfl, _, _⟩ := hr4
         clear hr2 zBK1_0 zBK1_1 zBK1_2 zBK1_3 zBK1_4 zBK1_5 fBK1_0 fBK1_1 fBK1_2 fBK1_3 fBK1_4 fBK1_5
         have HBX := Aside0.mk (below_step HB.out hb)
         clear hb BK1 HB
         by_cases hz : j = 0
         ·have hd2 : (n == 0) = true := by rw [HN.out, hz]; rfl
          have hbb := HNB.out
          have hbn := HNN.out
          rw [if_pos hz] at hbb hbn
          obtain ⟨rfl, rfl⟩ := Prod.mk.inj hbb
          obtain ⟨rfl, rfl⟩ := Prod.mk.inj hbn
          clear hbb hbn hz
          go_wp2_with fail
          refine (forebaylaw08_awake.calls ka true _ HKA.out).mono ?_
          rintro e wz ⟨rfl, hb⟩
          have HBZ := Aside0.mk (below_step (below_alloc HBX.out _) hb)
          clear hb
          go_wp2
          go_ret
          exact ⟨rfl, HBZ.out⟩
         ·have hd2 : (n == 0) = false := beq_eq_false_iff_ne.2 (by have := HN.out; omega)
          have hbb := HNB.out
          have hbn := HNN.out
          rw [if_neg hz] at hbb hbn
          obtain ⟨rfl, rfl⟩ := Prod.mk.inj hbb
          obtain ⟨rfl, rfl⟩ := Prod.mk.inj hbn
          have tq1 : (e1 == e1) = true := beq_self_eq_true e1
          have tq2 : (e2 == e2) = true := beq_self_eq_true e2
          clear hbb hbn hz
          go_wp2_with fail
          refine (forebaylaw08_awake.calls ka true _ HKA.out).mono ?_
          rintro e wz ⟨rfl, hb⟩
          have HBZ := Aside0.mk (below_step (below_alloc HBX.out _) hb)
          clear hb
          go_wp2
          go_ret
          exact ⟨rfl, HBZ.out⟩
namespace batchLong
open Go.ChangeShapes Go.WideShapes Go.ChangeAt Go.RowKit
open Go.ChangeMaps (open_string shut_string)
theorem own : ownKnob Try.prog.godebug = none := by kernel_rfl
theorem laidOut : laidOutB Try.prog = true := by kernel_rfl
set_option maxRecDepth 100000 in
theorem lifted (os : Os) (started : os.Started) (H : Type) (enc : TypeId × Value → H) :
  ReturnsInHanded {} Try.checked os 13 .any (Rows.batchLongSpec.pre6 enc Try.prog Try.f13 Rows.batchLongRow.domain false) (Rows.batchLongSpec.post enc Try.prog Try.f13 false true false false) := by
 refine returnsInHanded_of_change_sized (C := Try.checked) own started (by kernel_rfl) Try.func13
  (ChangeSpec.witness6 (enc := enc) (C := Try.checked) false ⟨#[], #[.agg #[.string ByteArray.empty, .int .i64 0, .slice none 0 0, .int .i64 0, .slice none 0 0, .int .i64 0], .int .i64 0], []⟩ 8 (by kernel_rfl) (by kernel_rfl) (by kernel_rfl) (by kernel_rfl)) ?_
 intro W base args ds gs before hval0 hW hcnd hsz0 _
 have hsz : (DataW.weightsEach Try.prog (Try.f13.params.toList ++ Rows.batchLongSpec.plain.varTypes Try.prog) (ds ++ gs)).all (· ≤ reachBytes) = true := hsz0
 have hval : ∀ (j : Nat) t v, Try.f13.params[j]? = some t → args[j]? = some v → Value.okWide Try.prog W .any base t v := hval0
 have hW' := hW
 obtain ⟨p, q, hA0, hV, rfl, hfz, hnd⟩ := hW
 have hA : DataW.TrodAll enc Try.prog W 0 (fun _ => true) true Try.f13.params.toList args.toList ds p := hA0
 rw [Try.params13] at hA hval hsz
 obtain ⟨v0, vs0, d0, ds0, p0, q0, hargs, rfl, rfl, h0, r0⟩ := trodAll_cons hA
 obtain ⟨v1, vs1, d1, ds1, p1, q1, rfl, rfl, rfl, h1, r1⟩ := trodAll_cons r0
 obtain ⟨rfl, rfl, rfl⟩ := trodAll_nil r1
 obtain rfl : args = #[v0, v1] := by cases args; simp_all
 obtain ⟨rfl, rfl⟩ := trodVars_none hV
 have k0 := h0
 have lt0 : ∀ x ∈ p0, x.block < W.heap.size := by obtain ⟨m, hm⟩ := k0; exact DataW.trod_lt m _ _ _ hm
 obtain ⟨m0, A0, c0, B0, e0, rfl, g0, i0⟩ := open_metric (hval 0 25 v0 rfl rfl) h0
 obtain ⟨a1, rfl, rfl, rfl, w1⟩ := open_int Try.underlying3 (hval 1 3 v1 rfl rfl) h1
 clear hA0 hval0 hsz0 hsz
 refine (batchLong_walk m0 A0 c0 B0 e0 a1 W g0 i0 (bounds_i64 w1)).mono fun e W' ⟨he, bel⟩ => ?_
 subst he
 exact ⟨_, rfl, _, _, _, [], _, [], hW', trodAll_mk1 (shut_bool Try.underlying4 _), (trodAll_cons_mk (Below.trod laidOut (by kernel_rfl) (of_decide_eq_true (by kernel_rfl)) k0 bel lt0) (trodAll_cons_mk (shut_int Try.underlying3 w1) trodAll_mk0)), rfl, bel.frame _, fun h => by cases h⟩
theorem over : Rows.batchLongRow.holds Try.pinned (OpenSpec.ofChange Rows.batchLongSpec) :=
 OpenClaim.holds_of_wide 13 Try.f13 rfl rfl rfl rfl rfl rfl rfl ⟨rfl, rfl, rfl, rfl, rfl⟩ rfl rfl rfl rfl rfl (by kernel_rfl) Try.func13 (by kernel_rfl)
  (of_decide_eq_true (by kernel_rfl)) (by unfold Func.isWrapper; first | (rw [if_pos (by decide +kernel)]; kernel_rfl) | (rw [if_neg (by decide +kernel)]; exact ⟨rfl, rfl⟩))
  (fun os started H enc _ => lifted os started H enc)
theorem proved : Rows.BatchLongSaid := over
end batchLong
theorem batchLong_holds : Rows.BatchLongSaid := batchLong.proved
#print axioms batchLong_holds
end Go.Proofs.Yteamldgngknmfaa
