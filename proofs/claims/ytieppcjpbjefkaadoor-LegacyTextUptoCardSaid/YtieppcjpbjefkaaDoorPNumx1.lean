-- PRINTED BY print.sh 35421559b90ae4d0a3588c463048766b98c2df88dd9212a6774a882060cdf62d: not written by this session
import Derived.Test.YtieppcjpbjefkaaDoorPNumx0
namespace Go.Proofs.YtieppcjpbjefkaaDoor.PNum
open Go.RowKit Go.Proofs.YtieppcjpbjefkaaDoorW.PrintWords Go.Proofs.YtieppcjpbjefkaaDoorW.PrintLast Go.Proofs.YtieppcjpbjefkaaDoorW.PrintMore
attribute [local go_sem] max2_int min2_int max_two min_two max_three min_three max_four min_four   -- for this text's walks alone
set_option linter.unusedVariables false
set_option linter.unusedSimpArgs false

/-! ### wire_Num: function 30 -/
def wire_Num.l0 : Nat → List Int → Int → Int → Int → Int → List (List Int) → ByteArray → Int → ByteArray → Option (Int × Int × (List (List Int)) × ByteArray × Int × ByteArray)
  | 0, _, _, _, _, _, _, _, _, _ => none
  | k + 1, x13, x14, x15, x103000, x103001, x103002, x103003, x103004, x103005 => if x15 < x14 then (if 0 ≤ x15 then (if x15 < (x13.length : Int) then (if x103002.length < 5864062014805 then (wire_Num.l0 k x13 x14 (wrap64 (x15 + 1)) x103000 x103001 (x103002 ++ [(([rd x13 x15] : List Int))]) x103003 x103004 x103005) else (none)) else (none)) else (none)) else (some (x103000, x103001, x103002, x103003, x103004, x103005))
def wire_Num.f (k : Nat) (a0 : Int) (a1 : Int) (l2 : List Int) : Option (Int × Int × (List (List Int)) × ByteArray × Int × ByteArray) := wire_Num.l0 k l2 (l2.length : Int) 0 1 a0 ([] : List (List Int)) (⟨#[]⟩ : ByteArray) a1 (⟨#[]⟩ : ByteArray)
theorem wire_Num.mono_l : ∀ k, (∀ y0 y1 y2 y3 y4 y5 y6 y7 y8, LeO (wire_Num.l0 k y0 y1 y2 y3 y4 y5 y6 y7 y8) (wire_Num.l0 (k + 1) y0 y1 y2 y3 y4 y5 y6 y7 y8))
  | 0 => fun _ _ _ _ _ _ _ _ _ r h => by simp [wire_Num.l0] at h
  | k + 1 => by
    have ih0 := wire_Num.mono_l k
    · intro y0 y1 y2 y3 y4 y5 y6 y7 y8
      unfold wire_Num.l0
      repeat' first
      | (with_reducible exact ih0 _ _ _ _ _ _ _ _ _)
      | (with_reducible exact LeO.refl _)
      | (with_reducible exact LeO.none _)
      | (with_reducible refine LeO.ite ?_ ?_)
      | (with_reducible refine LeO.bind ?_ (fun _ => ?_))
      | exact ih0 _ _ _ _ _ _ _ _ _
      | exact LeO.none _
      | refine LeO.ite ?_ ?_
      | refine LeO.bind ?_ (fun _ => ?_)
theorem wire_Num.mono : ∀ a0 a1 a2 k, LeO (wire_Num.f k a0 a1 a2) (wire_Num.f (k + 1) a0 a1 a2) := by
  intro a0 a1 a2 k
  have ih0 := wire_Num.mono_l k
  unfold wire_Num.f
  repeat' first
      | (with_reducible exact ih0 _ _ _ _ _ _ _ _ _)
      | (with_reducible exact LeO.refl _)
      | (with_reducible exact LeO.none _)
      | (with_reducible refine LeO.ite ?_ ?_)
      | (with_reducible refine LeO.bind ?_ (fun _ => ?_))
      | exact ih0 _ _ _ _ _ _ _ _ _
      | exact LeO.none _
      | refine LeO.ite ?_ ?_
      | refine LeO.bind ?_ (fun _ => ?_)
set_option maxHeartbeats 8000000 in
set_option maxRecDepth 100000 in
theorem wire_Num.calls (k : Nat) (a0 : Int) (a1 : Int) (A2 : Option Addr) (c2 : Nat) (l2 : List Int) (r1 : Int) (r2 : Int) (r3 : List (List Int)) (r4 : ByteArray) (r5 : Int) (r6 : ByteArray) (w : World) (hr2 : Kd.C (Kd.int .i64) w A2 l2.length l2) (hc2 : l2.length ≤ c2) (h : wire_Num.f k a0 a1 l2 = some (r1, r2, r3, r4, r5, r6)) :
    Calls Tryd.prog 30 #[.int .u8 a0, .int .u8 a1, .slice A2 l2.length c2] w fun e w' => ∃ v2_ : Value, e = .returned (.agg #[.int .i64 r1, .int .u8 r2, v2_, .string r4, .int .u8 r5, .string r6]) ∧ Kd.S (Kd.slice 3 (Kd.int .i64)) 57 w' w.heap.size (fun _ => True) v2_ r3 ∧ Below w.heap.size w w' := by
  have hu39 := Tryd.underlying39
  have HR2 := Aside0.mk hr2
  have HC2 := Aside0.mk hc2
  clear hr2 hc2
  have HB := Aside0.mk (Below.refl w.heap.size w)
  have H : (wire_Num.l0 k l2 (l2.length : Int) 0 1 a0 ([] : List (List Int)) (⟨#[]⟩ : ByteArray) a1 (⟨#[]⟩ : ByteArray)) = some (r1, r2, r3, r4, r5, r6) := h
  clear h
  have H' := Aside0.mk H
  clear H
  go_enter Tryd.func30, Tryd.ntmps30
  go_wp2_with (first | ((with_reducible refine gate_dst (N := 6) rfl ?_); refine box_event ?hg (N := 6) ?hd (cs := #[.int .i64 0, .int .u8 0, .slice none 0 0, .string (⟨#[]⟩ : ByteArray), .int .u8 0, .string (⟨#[]⟩ : ByteArray)]) (t := 39) ?hr ?_; (case hd => rfl); (case hg => rfl); (case hr => first | (go_simp; done) | (go_simp; rfl)); intro gb101 hg w4 hbox hb; have n0_ := Aside0.mk (below_step (by repeat (first | (with_reducible first | exact HB.out | apply below_alloc | apply pw_below_drewN | apply below_drew1) | exact HB.out)) hb); have n1_ := Aside0.mk (hbox); have n2_ := Aside0.mk ((by rw [hg]; exact (below_size (by repeat (first | (with_reducible first | exact HB.out | apply below_alloc | apply pw_below_drewN | apply below_drew1) | exact HB.out))) : w.heap.size ≤ gb101)); have n3_ := Aside0.mk ((by rw [hg]; exact (below_size (by repeat (first | (with_reducible first | exact HB.out | apply below_alloc | apply pw_below_drewN | apply below_drew1) | exact HB.out))) : w.heap.size ≤ gb101)); clear HB; have HB := n0_; have BK101 := n1_; have GW101 := n2_; have GE101 := n3_; clear n0_ n1_ n2_ n3_; clear hb hbox hg) | ((with_reducible refine gate_dst (N := 7) rfl ?_); refine box_event ?hg (N := 7) ?hd (cs := #[.int .i64 0, .int .u8 0, .slice none 0 0, .string (⟨#[]⟩ : ByteArray), .int .u8 0, .string (⟨#[]⟩ : ByteArray)]) (t := 39) ?hr ?_; (case hd => rfl); (case hg => rfl); (case hr => first | (go_simp; done) | (go_simp; rfl)); intro gb102 hg w5 hbox hb; have n0_ := Aside0.mk (blk_below (g := gb101) (o := .cells #[.int .i64 0, .int .u8 0, .slice none 0 0, .string (⟨#[]⟩ : ByteArray), .int .u8 0, .string (⟨#[]⟩ : ByteArray)] 39 (0, 0)) (by (with_reducible repeat (first | refine blk_drewN ?_ _ | refine blk_drew ?_ | refine blk_alloc ?_ _)); exact BK101.out) hb); have n1_ := Aside0.mk (below_step (by repeat (first | (with_reducible first | exact HB.out | apply below_alloc | apply pw_below_drewN | apply below_drew1 | refine below_set ?_ GE101.out) | exact HB.out)) hb); have n2_ := Aside0.mk (hbox); have n3_ := Aside0.mk ((by rw [hg]; exact (below_size (by repeat (first | (with_reducible first | exact HB.out | apply below_alloc | apply pw_below_drewN | apply below_drew1 | refine below_set ?_ GE101.out) | exact HB.out))) : w.heap.size ≤ gb102)); have n4_ := Aside0.mk ((by rw [hg]; exact (below_size (by repeat (first | (with_reducible first | exact HB.out | apply below_alloc | apply pw_below_drewN | apply below_drew1 | refine below_set ?_ GE101.out) | exact HB.out))) : w.heap.size ≤ gb102)); have n5_ := Aside0.mk ((by rw [hg]; exact Nat.ne_of_lt (blk_lt (g := gb101) (o := .cells #[.int .i64 0, .int .u8 0, .slice none 0 0, .string (⟨#[]⟩ : ByteArray), .int .u8 0, .string (⟨#[]⟩ : ByteArray)] 39 (0, 0)) (by (with_reducible repeat (first | refine blk_drewN ?_ _ | refine blk_drew ?_ | refine blk_alloc ?_ _)); exact BK101.out)) : gb101 ≠ gb102)); have n6_ := Aside0.mk ((by rw [hg]; exact Nat.ne_of_gt (blk_lt (g := gb101) (o := .cells #[.int .i64 0, .int .u8 0, .slice none 0 0, .string (⟨#[]⟩ : ByteArray), .int .u8 0, .string (⟨#[]⟩ : ByteArray)] 39 (0, 0)) (by (with_reducible repeat (first | refine blk_drewN ?_ _ | refine blk_drew ?_ | refine blk_alloc ?_ _)); exact BK101.out)) : gb102 ≠ gb101)); clear BK101; clear HB; have BK101 := n0_; have HB := n1_; have BK102 := n2_; have GW102 := n3_; have GE102 := n4_; have NB101_102 := n5_; have NB102_101 := n6_; clear n0_ n1_ n2_ n3_ n4_ n5_ n6_; clear hb hbox hg; have hnb6 := NB102_101.out; have hnc6 := NB101_102.out; have hcz7_0 : w5.cell? ⟨gb102, 0, none⟩ = some (.int .i64 0) := (blk_cell BK102.out 0).trans rfl; have hcz7_1 : w5.cell? ⟨gb102, 1, none⟩ = some (.int .u8 0) := (blk_cell BK102.out 1).trans rfl; have hcz7_2 : w5.cell? ⟨gb102, 2, none⟩ = some (.slice none 0 0) := (blk_cell BK102.out 2).trans rfl; have hcz7_3 : w5.cell? ⟨gb102, 3, none⟩ = some (.string (⟨#[]⟩ : ByteArray)) := (blk_cell BK102.out 3).trans rfl; have hcz7_4 : w5.cell? ⟨gb102, 4, none⟩ = some (.int .u8 0) := (blk_cell BK102.out 4).trans rfl; have hcz7_5 : w5.cell? ⟨gb102, 5, none⟩ = some (.string (⟨#[]⟩ : ByteArray)) := (blk_cell BK102.out 5).trans rfl; have hfz7_0 := blk_frozen BK102.out 0; have hfz7_1 := blk_frozen BK102.out 1; have hfz7_2 := blk_frozen BK102.out 2; have hfz7_3 := blk_frozen BK102.out 3; have hfz7_4 := blk_frozen BK102.out 4; have hfz7_5 := blk_frozen BK102.out 5))
  go_loopg [15] k (fun kq v15 w' => ∃ (x15_1 : Int) (x103002_1 : List (List Int)) (u103002 : Value), v15 = .int .i64 x15_1 ∧ Aside0 (wire_Num.l0 kq l2 (l2.length : Int) x15_1 1 a0 x103002_1 (⟨#[]⟩ : ByteArray) a1 (⟨#[]⟩ : ByteArray) = some (r1, r2, r3, r4, r5, r6)) ∧ Aside0 (kq ≤ k) ∧ Aside0 (Kd.S (Kd.slice 3 (Kd.int .i64)) 57 w' w.heap.size (fun _ => True) u103002 x103002_1) ∧ Aside0 (w'.heap[gb101]? = some (.cells #[.int .i64 0, .int .u8 0, (.slice none 0 0), .string (⟨#[]⟩ : ByteArray), .int .u8 0, .string (⟨#[]⟩ : ByteArray)] 39 (0, 0))) ∧ Aside0 (w'.heap[gb102]? = some (.cells #[.int .i64 1, .int .u8 a0, u103002, .string (⟨#[]⟩ : ByteArray), .int .u8 a1, .string (⟨#[]⟩ : ByteArray)] 39 (0, 0))) ∧ Aside0 (Below w.heap.size w w'))
  case atStart => exact ⟨(0), (([] : List (List Int))), (.slice none 0 0), (by first | rfl | (simp; done) | (simp [*]; done)), H', ⟨Nat.le_refl _⟩, ⟨by first | exact Kd.S_nil _ _ _ _ _ | exact Kd.N_nil _ _ _ _ _ | exact Kd.V_nil _ _ _ _ _ | exact Kd.Q_nil _ _ _ _ _ | exact Kd.R_nil _ _ _ _ _⟩, ⟨by (with_reducible repeat (first | refine blk_drewN ?_ _ | refine blk_drew ?_ | refine blk_alloc ?_ _)); refine blk_far ?_ NB101_102.out _; (with_reducible repeat (first | refine blk_drewN ?_ _ | refine blk_drew ?_ | refine blk_alloc ?_ _)); refine blk_far ?_ NB101_102.out _; (with_reducible repeat (first | refine blk_drewN ?_ _ | refine blk_drew ?_ | refine blk_alloc ?_ _)); refine blk_far ?_ NB101_102.out _; (with_reducible repeat (first | refine blk_drewN ?_ _ | refine blk_drew ?_ | refine blk_alloc ?_ _)); refine blk_far ?_ NB101_102.out _; (with_reducible repeat (first | refine blk_drewN ?_ _ | refine blk_drew ?_ | refine blk_alloc ?_ _)); refine blk_far ?_ NB101_102.out _; (with_reducible repeat (first | refine blk_drewN ?_ _ | refine blk_drew ?_ | refine blk_alloc ?_ _)); refine blk_far ?_ NB101_102.out _; (with_reducible repeat (first | refine blk_drewN ?_ _ | refine blk_drew ?_ | refine blk_alloc ?_ _)); exact BK101.out⟩, ⟨by (with_reducible repeat (first | refine blk_drewN ?_ _ | refine blk_drew ?_ | refine blk_alloc ?_ _)); refine blk_put (cs := #[.int .i64 1, .int .u8 a0, .slice none 0 0, .string (⟨#[]⟩ : ByteArray), .int .u8 a1, .string (⟨#[]⟩ : ByteArray)]) ?_ 5 _ rfl; (with_reducible repeat (first | refine blk_drewN ?_ _ | refine blk_drew ?_ | refine blk_alloc ?_ _)); refine blk_put (cs := #[.int .i64 1, .int .u8 a0, .slice none 0 0, .string (⟨#[]⟩ : ByteArray), .int .u8 0, .string (⟨#[]⟩ : ByteArray)]) ?_ 4 _ rfl; (with_reducible repeat (first | refine blk_drewN ?_ _ | refine blk_drew ?_ | refine blk_alloc ?_ _)); refine blk_put (cs := #[.int .i64 1, .int .u8 a0, .slice none 0 0, .string (⟨#[]⟩ : ByteArray), .int .u8 0, .string (⟨#[]⟩ : ByteArray)]) ?_ 3 _ rfl; (with_reducible repeat (first | refine blk_drewN ?_ _ | refine blk_drew ?_ | refine blk_alloc ?_ _)); refine blk_put (cs := #[.int .i64 1, .int .u8 a0, .slice none 0 0, .string (⟨#[]⟩ : ByteArray), .int .u8 0, .string (⟨#[]⟩ : ByteArray)]) ?_ 2 _ rfl; (with_reducible repeat (first | refine blk_drewN ?_ _ | refine blk_drew ?_ | refine blk_alloc ?_ _)); refine blk_put (cs := #[.int .i64 1, .int .u8 0, .slice none 0 0, .string (⟨#[]⟩ : ByteArray), .int .u8 0, .string (⟨#[]⟩ : ByteArray)]) ?_ 1 _ rfl; (with_reducible repeat (first | refine blk_drewN ?_ _ | refine blk_drew ?_ | refine blk_alloc ?_ _)); refine blk_put (cs := #[.int .i64 0, .int .u8 0, .slice none 0 0, .string (⟨#[]⟩ : ByteArray), .int .u8 0, .string (⟨#[]⟩ : ByteArray)]) ?_ 0 _ rfl; (with_reducible repeat (first | refine blk_drewN ?_ _ | refine blk_drew ?_ | refine blk_alloc ?_ _)); exact BK102.out⟩, ⟨by repeat (first | (with_reducible first | exact HB.out | apply below_alloc | apply pw_below_drewN | apply below_drew1 | refine below_set ?_ GE101.out | refine below_set ?_ GE102.out) | exact HB.out)⟩⟩
  case round =>
    clear H'
    try clear c2
    try clear p2
    try clear c3
    try clear c6
    try clear hcz7_0
    try clear hcz7_1
    try clear hcz7_2
    try clear hcz7_3
    try clear hcz7_4
    try clear hcz7_5
    try clear hfz7_0
    try clear hfz7_1
    try clear hfz7_2
    try clear hfz7_3
    try clear hfz7_4
    try clear hfz7_5
    obtain ⟨x15_1, x103002_1, u103002, rfl, HA, HK1, HO_103002, BK101, BK102, HB⟩ := hrel
    cases gk with
    | zero => exact absurd HA.out (by simp [wire_Num.l0])
    | succ k1 =>
      have H := HA.out
      clear HA
      simp only [wire_Num.l0] at H
      by_cases c8 : x15_1 < (l2.length : Int)
      · rw [if_pos c8] at H
        have c8b0 : decide (x15_1 < (l2.length : Int)) = true := decide_eq_true c8
        clear c8
        by_cases c9 : 0 ≤ x15_1
        · rw [if_pos c9] at H
          have c9b0 : decide (0 ≤ x15_1) = true := decide_eq_true c9
          clear c9
          by_cases c10 : x15_1 < (l2.length : Int)
          · rw [if_pos c10] at H
            have c10b0 : decide (x15_1 < (l2.length : Int)) = true := decide_eq_true c10
            clear c10
            obtain ⟨y104, hy104⟩ : ∃ y_ : List Int, y_ = (([rd l2 x15_1] : List Int)) := ⟨_, rfl⟩
            replace H : (if x103002_1.length < 5864062014805 then (wire_Num.l0 k1 l2 (l2.length : Int) (wrap64 (x15_1 + 1)) 1 a0 (x103002_1 ++ [y104]) (⟨#[]⟩ : ByteArray) a1 (⟨#[]⟩ : ByteArray)) else (none)) = some (r1, r2, r3, r4, r5, r6) := by first | (rw [hy104]; with_reducible exact H) | (have H2_ := (Option.bind_some _ _).symm.trans H; rw [hy104]; with_reducible exact H2_) | (have H2_ := (Option.bind_some _ _).symm.trans H; with_reducible exact H2_) | with_reducible exact H | (rw [hy104]; exact H) | exact H
            have Ny104 := Aside0.mk hy104
            clear hy104
            by_cases c11 : x103002_1.length < 5864062014805
            · rw [if_pos c11] at H
              have LMc11 := Aside0.mk c11
              clear c11
              obtain ⟨y107, hy107⟩ : ∃ y_ : List (List Int), y_ = (x103002_1 ++ [y104]) := ⟨_, rfl⟩
              replace H : (wire_Num.l0 k1 l2 (l2.length : Int) (wrap64 (x15_1 + 1)) 1 a0 y107 (⟨#[]⟩ : ByteArray) a1 (⟨#[]⟩ : ByteArray)) = some (r1, r2, r3, r4, r5, r6) := by first | (rw [hy107]; with_reducible exact H) | (have H2_ := (Option.bind_some _ _).symm.trans H; rw [hy107]; with_reducible exact H2_) | (have H2_ := (Option.bind_some _ _).symm.trans H; with_reducible exact H2_) | with_reducible exact H | (rw [hy107]; exact H) | exact H
              have Ny107 := Aside0.mk hy107
              clear hy107
              have H' := Aside0.mk H
              clear H
              have p103 : 0 ≤ (x15_1 : Int) := of_decide_eq_true (by first | (with_reducible assumption) | assumption)
              have q103 : x15_1 < (l2.length : Int) := of_decide_eq_true (by first | (with_reducible assumption) | assumption)
              obtain ⟨ad103, e103, hx103_0⟩ := Kd.at_int HR2.out x15_1 p103 q103
              cases e103
              replace hx103_0 := (HB.out.cell (World.block_lt_of_cell? w _ hx103_0)).trans hx103_0
              replace p103 := eq_true p103
              replace q103 := eq_true q103
              have hnb12 := NB102_101.out
              have hnc12 := NB101_102.out
              have hcz13_0 : wr.cell? ⟨gb102, 0, none⟩ = some (.int .i64 1) := (blk_cell BK102.out 0).trans rfl
              have hcz13_1 : wr.cell? ⟨gb102, 1, none⟩ = some (.int .u8 a0) := (blk_cell BK102.out 1).trans rfl
              have hcz13_2 : wr.cell? ⟨gb102, 2, none⟩ = some (u103002) := (blk_cell BK102.out 2).trans rfl
              have hcz13_3 : wr.cell? ⟨gb102, 3, none⟩ = some (.string (⟨#[]⟩ : ByteArray)) := (blk_cell BK102.out 3).trans rfl
              have hcz13_4 : wr.cell? ⟨gb102, 4, none⟩ = some (.int .u8 a1) := (blk_cell BK102.out 4).trans rfl
              have hcz13_5 : wr.cell? ⟨gb102, 5, none⟩ = some (.string (⟨#[]⟩ : ByteArray)) := (blk_cell BK102.out 5).trans rfl
              have hfz13_0 := blk_frozen BK102.out 0
              have hfz13_1 := blk_frozen BK102.out 1
              have hfz13_2 := blk_frozen BK102.out 2
              have hfz13_3 := blk_frozen BK102.out 3
              have hfz13_4 := blk_frozen BK102.out 4
              have hfz13_5 := blk_frozen BK102.out 5
              go_wp2_with (first | ((with_reducible refine gate_dst (N := 22) rfl ?_); refine Kd.R_lit (Kd.int .i64) _ 3 ?hg (N := 22) ?hd (xs := ([rd l2 x15_1] : List Int)) (inner := [.int .i64 (rd l2 x15_1)]) (ok := fun _ => True) (okp := fun _ => True) ?hr ?hp (fun _ hk => hk) trivial (Below.refl _ _) (Nat.le_refl _) (by simp) ?_; (case hd => rfl); (case hg => rfl); (case hr => first | (go_simp; done) | (go_simp; rfl)); (case hp => exact (Reps.one (show Kd.M (Kd.int .i64) _ _ _ (rd l2 x15_1) [.int .i64 (rd l2 x15_1)] from rfl) (Reps.none _ _))); intro v105 w14 ho15 hb hg_ hnew_; clear hg_ hnew_; (first | rw [← Ny104.out] at ho15 | (simp only [Int.reduceToNat] at ho15; rw [← Ny104.out] at ho15)); have n0_ := Aside0.mk (Kd.S_elder' (by (with_reducible repeat (first | apply Kd.S_alloc | apply Kd.S_drewN | apply Kd.S_drew)); exact HO_103002.out) (Kd.R_base ho15) hb); have n1_ := Aside0.mk (Kd.R_lower ho15 (below_size (by repeat (first | (with_reducible first | exact HB.out | apply below_alloc | apply pw_below_drewN | apply below_drew1 | refine below_set ?_ GE101.out | refine below_set ?_ GE102.out) | exact HB.out)))); have n2_ := Aside0.mk (blk_below (g := gb101) (o := .cells #[.int .i64 0, .int .u8 0, .slice none 0 0, .string (⟨#[]⟩ : ByteArray), .int .u8 0, .string (⟨#[]⟩ : ByteArray)] 39 (0, 0)) (by (with_reducible repeat (first | refine blk_drewN ?_ _ | refine blk_drew ?_ | refine blk_alloc ?_ _)); exact BK101.out) hb); have n3_ := Aside0.mk (blk_below (g := gb102) (o := .cells #[.int .i64 1, .int .u8 a0, u103002, .string (⟨#[]⟩ : ByteArray), .int .u8 a1, .string (⟨#[]⟩ : ByteArray)] 39 (0, 0)) (by (with_reducible repeat (first | refine blk_drewN ?_ _ | refine blk_drew ?_ | refine blk_alloc ?_ _)); exact BK102.out) hb); have n4_ := Aside0.mk (below_step (by repeat (first | (with_reducible first | exact HB.out | apply below_alloc | apply pw_below_drewN | apply below_drew1 | refine below_set ?_ GE101.out | refine below_set ?_ GE102.out) | exact HB.out)) hb); clear HO_103002; clear BK101; clear BK102; clear HB; have HO_103002 := n0_; have HO106 := n1_; have BK101 := n2_; have BK102 := n3_; have HB := n4_; clear n0_ n1_ n2_ n3_ n4_; clear hb ho15; obtain ⟨Ao17, co17, eo17⟩ := Kd.R_slice HO106.out; subst eo17) | ((with_reducible refine gate_builtin (b := .append) (xs := #[.tmp 20, .tmp 23]) rfl ?_); at_builtin; refine Kd.S_append (Kd.slice 3 (Kd.int .i64)) (w0 := w) w.heap.size rfl (.tmp 20) (.tmp 23) 37 57 (.slice none 0 0) 24 rfl Tryd.underlying37 info57 rfl (by decide) (by omega) u103002 x103002_1 y104 [.slice Ao17 y104.length co17] (fun _ => True) (fun k_ => some k_ = (.slice Ao17 y104.length co17 : Value).ownBlock) rfl rfl ?aP (fun k_ hk_ => ((Kd.R_mono (ok' := fun k_ => ((fun _ => True)) k_ ∧ some k_ ≠ (u103002 : Value).ownBlock) (Kd.R_apart' (HO106.out) (Kd.S_typed HO_103002.out) (by decide)) (fun k_ hk => ⟨trivial, hk.2⟩))).1 k_ hk_.symm) ?aF ?aO ?aB ?aS ?aL ?_; (case aP => exact Kd.M_row (Kd.R_mono (Kd.R_tight rfl (Kd.R_mono (ok' := fun k_ => ((fun _ => True)) k_ ∧ some k_ ≠ (u103002 : Value).ownBlock) (Kd.R_apart' (HO106.out) (Kd.S_typed HO_103002.out) (by decide)) (fun k_ hk => ⟨trivial, hk.2⟩))) (fun _ h_ => h_))); (case aB => exact (by repeat (first | (with_reducible first | exact HB.out | apply below_alloc | apply pw_below_drewN | apply below_drew1 | refine below_set ?_ GE101.out | refine below_set ?_ GE102.out) | exact HB.out))); (case aF => exact (fun _ _ => trivial)); (case aO => exact (by (with_reducible repeat (first | apply Kd.S_alloc | apply Kd.S_drewN | apply Kd.S_drew)); exact Kd.S_mono HO_103002.out (fun k_ hk => ⟨trivial, fun e_ => hk.2 e_⟩))); (case aS => exact (below_size (by repeat (first | (with_reducible first | exact HB.out | apply below_alloc | apply pw_below_drewN | apply below_drew1 | refine below_set ?_ GE101.out | refine below_set ?_ GE102.out) | exact HB.out)))); (case aL => have := LMc11.out; omega); intro v108 w16 ho hb hg hat; rw [← Ny107.out] at ho; have n0_ := Aside0.mk (blk_grown (g := gb101) (o := .cells #[.int .i64 0, .int .u8 0, .slice none 0 0, .string (⟨#[]⟩ : ByteArray), .int .u8 0, .string (⟨#[]⟩ : ByteArray)] 39 (0, 0)) (by (with_reducible repeat (first | refine blk_drewN ?_ _ | refine blk_drew ?_ | refine blk_alloc ?_ _)); exact BK101.out) hg (Kd.S_ne HO_103002.out BK101.out (by decide))); have n1_ := Aside0.mk (blk_grown (g := gb102) (o := .cells #[.int .i64 1, .int .u8 a0, u103002, .string (⟨#[]⟩ : ByteArray), .int .u8 a1, .string (⟨#[]⟩ : ByteArray)] 39 (0, 0)) (by (with_reducible repeat (first | refine blk_drewN ?_ _ | refine blk_drew ?_ | refine blk_alloc ?_ _)); exact BK102.out) hg (Kd.S_ne HO_103002.out BK102.out (by decide))); have n2_ := Aside0.mk (hb); have n3_ := Aside0.mk (ho); clear BK101; clear BK102; clear HB; clear HO_103002; clear HO106; have BK101 := n0_; have BK102 := n1_; have HB := n2_; have HO109 := n3_; clear n0_ n1_ n2_ n3_; clear ho hb hg hat; obtain ⟨Ao18, co18, eo18⟩ := Kd.S_slice HO109.out; subst eo18; have hcz19_0 : w16.cell? ⟨gb102, 0, none⟩ = some (.int .i64 1) := (blk_cell BK102.out 0).trans rfl; have hcz19_1 : w16.cell? ⟨gb102, 1, none⟩ = some (.int .u8 a0) := (blk_cell BK102.out 1).trans rfl; have hcz19_2 : w16.cell? ⟨gb102, 2, none⟩ = some (u103002) := (blk_cell BK102.out 2).trans rfl; have hcz19_3 : w16.cell? ⟨gb102, 3, none⟩ = some (.string (⟨#[]⟩ : ByteArray)) := (blk_cell BK102.out 3).trans rfl; have hcz19_4 : w16.cell? ⟨gb102, 4, none⟩ = some (.int .u8 a1) := (blk_cell BK102.out 4).trans rfl; have hcz19_5 : w16.cell? ⟨gb102, 5, none⟩ = some (.string (⟨#[]⟩ : ByteArray)) := (blk_cell BK102.out 5).trans rfl; have hfz19_0 := blk_frozen BK102.out 0; have hfz19_1 := blk_frozen BK102.out 1; have hfz19_2 := blk_frozen BK102.out 2; have hfz19_3 := blk_frozen BK102.out 3; have hfz19_4 := blk_frozen BK102.out 4; have hfz19_5 := blk_frozen BK102.out 5))
              go_roundg k1
              case measure => have := HK1.out; omega
              case rel => exact ⟨(wrap64 (x15_1 + 1)), (y107), (.slice Ao18 y107.length co18), (by first | rfl | (simp; done) | (simp [*]; done)), H', ⟨by have := HK1.out; omega⟩, ⟨by (with_reducible repeat (first | apply Kd.S_alloc | apply Kd.S_drewN | apply Kd.S_drew)); exact Kd.S_mono (Kd.S_far (p := ⟨gb102, 2, none⟩) (Kd.S_types HO109.out BK102.out (by decide)) (fun _ hk => hk.2) (.slice Ao18 y107.length co18)) (fun _ hk => trivial)⟩, ⟨by (with_reducible repeat (first | refine blk_drewN ?_ _ | refine blk_drew ?_ | refine blk_alloc ?_ _)); refine blk_far ?_ NB101_102.out _; (with_reducible repeat (first | refine blk_drewN ?_ _ | refine blk_drew ?_ | refine blk_alloc ?_ _)); exact BK101.out⟩, ⟨by (with_reducible repeat (first | refine blk_drewN ?_ _ | refine blk_drew ?_ | refine blk_alloc ?_ _)); refine blk_put (cs := #[.int .i64 1, .int .u8 a0, u103002, .string (⟨#[]⟩ : ByteArray), .int .u8 a1, .string (⟨#[]⟩ : ByteArray)]) ?_ 2 _ rfl; (with_reducible repeat (first | refine blk_drewN ?_ _ | refine blk_drew ?_ | refine blk_alloc ?_ _)); exact BK102.out⟩, ⟨by repeat (first | (with_reducible first | exact HB.out | apply below_alloc | apply pw_below_drewN | apply below_drew1 | refine below_set ?_ GE101.out | refine below_set ?_ GE102.out) | exact HB.out)⟩⟩
            · rw [if_neg c11] at H
              exact absurd H (by simp)
          · rw [if_neg c10] at H
            exact absurd H (by simp)
        · rw [if_neg c9] at H
          exact absurd H (by simp)
      · rw [if_neg c8] at H
        have c8b0 : decide (x15_1 < (l2.length : Int)) = false := decide_eq_false c8
        clear c8
        simp only [Option.some.injEq, Prod.mk.injEq] at H
        obtain ⟨rfl, rfl, rfl, rfl, rfl, rfl⟩ := H
        have hnb20 := NB102_101.out
        have hnc20 := NB101_102.out
        have hcz21_0 : wr.cell? ⟨gb102, 0, none⟩ = some (.int .i64 1) := (blk_cell BK102.out 0).trans rfl
        have hcz21_1 : wr.cell? ⟨gb102, 1, none⟩ = some (.int .u8 a0) := (blk_cell BK102.out 1).trans rfl
        have hcz21_2 : wr.cell? ⟨gb102, 2, none⟩ = some (u103002) := (blk_cell BK102.out 2).trans rfl
        have hcz21_3 : wr.cell? ⟨gb102, 3, none⟩ = some (.string (⟨#[]⟩ : ByteArray)) := (blk_cell BK102.out 3).trans rfl
        have hcz21_4 : wr.cell? ⟨gb102, 4, none⟩ = some (.int .u8 a1) := (blk_cell BK102.out 4).trans rfl
        have hcz21_5 : wr.cell? ⟨gb102, 5, none⟩ = some (.string (⟨#[]⟩ : ByteArray)) := (blk_cell BK102.out 5).trans rfl
        have hfz21_0 := blk_frozen BK102.out 0
        have hfz21_1 := blk_frozen BK102.out 1
        have hfz21_2 := blk_frozen BK102.out 2
        have hfz21_3 := blk_frozen BK102.out 3
        have hfz21_4 := blk_frozen BK102.out 4
        have hfz21_5 := blk_frozen BK102.out 5
        have hcz22_0 : wr.cell? ⟨gb101, 0, none⟩ = some (.int .i64 0) := (blk_cell BK101.out 0).trans rfl
        have hcz22_1 : wr.cell? ⟨gb101, 1, none⟩ = some (.int .u8 0) := (blk_cell BK101.out 1).trans rfl
        have hcz22_2 : wr.cell? ⟨gb101, 2, none⟩ = some (.slice none 0 0) := (blk_cell BK101.out 2).trans rfl
        have hcz22_3 : wr.cell? ⟨gb101, 3, none⟩ = some (.string (⟨#[]⟩ : ByteArray)) := (blk_cell BK101.out 3).trans rfl
        have hcz22_4 : wr.cell? ⟨gb101, 4, none⟩ = some (.int .u8 0) := (blk_cell BK101.out 4).trans rfl
        have hcz22_5 : wr.cell? ⟨gb101, 5, none⟩ = some (.string (⟨#[]⟩ : ByteArray)) := (blk_cell BK101.out 5).trans rfl
        have hfz22_0 := blk_frozen BK101.out 0
        have hfz22_1 := blk_frozen BK101.out 1
        have hfz22_2 := blk_frozen BK101.out 2
        have hfz22_3 := blk_frozen BK101.out 3
        have hfz22_4 := blk_frozen BK101.out 4
        have hfz22_5 := blk_frozen BK101.out 5
        obtain ⟨Ao23, co23, eo23⟩ := Kd.S_slice HO_103002.out
        subst eo23
        go_wp2
        refine bodyPost_ret (results_cell_row rfl _ _ gb101 39 #[.int .i64 1, .int .u8 a0, .slice Ao23 x103002_1.length co23, .string (⟨#[]⟩ : ByteArray), .int .u8 a1, .string (⟨#[]⟩ : ByteArray)] (0, 0) _ rfl (by (with_reducible repeat (first | refine blk_drewN ?_ _ | refine blk_drew ?_ | refine blk_alloc ?_ _)); refine blk_put (cs := #[.int .i64 1, .int .u8 a0, .slice Ao23 x103002_1.length co23, .string (⟨#[]⟩ : ByteArray), .int .u8 a1, .string (⟨#[]⟩ : ByteArray)]) ?_ 5 _ rfl; (with_reducible repeat (first | refine blk_drewN ?_ _ | refine blk_drew ?_ | refine blk_alloc ?_ _)); refine blk_put (cs := #[.int .i64 1, .int .u8 a0, .slice Ao23 x103002_1.length co23, .string (⟨#[]⟩ : ByteArray), .int .u8 0, .string (⟨#[]⟩ : ByteArray)]) ?_ 4 _ rfl; (with_reducible repeat (first | refine blk_drewN ?_ _ | refine blk_drew ?_ | refine blk_alloc ?_ _)); refine blk_put (cs := #[.int .i64 1, .int .u8 a0, .slice Ao23 x103002_1.length co23, .string (⟨#[]⟩ : ByteArray), .int .u8 0, .string (⟨#[]⟩ : ByteArray)]) ?_ 3 _ rfl; (with_reducible repeat (first | refine blk_drewN ?_ _ | refine blk_drew ?_ | refine blk_alloc ?_ _)); refine blk_put (cs := #[.int .i64 1, .int .u8 a0, .slice none 0 0, .string (⟨#[]⟩ : ByteArray), .int .u8 0, .string (⟨#[]⟩ : ByteArray)]) ?_ 2 _ rfl; (with_reducible repeat (first | refine blk_drewN ?_ _ | refine blk_drew ?_ | refine blk_alloc ?_ _)); refine blk_put (cs := #[.int .i64 1, .int .u8 0, .slice none 0 0, .string (⟨#[]⟩ : ByteArray), .int .u8 0, .string (⟨#[]⟩ : ByteArray)]) ?_ 1 _ rfl; (with_reducible repeat (first | refine blk_drewN ?_ _ | refine blk_drew ?_ | refine blk_alloc ?_ _)); refine blk_put (cs := #[.int .i64 0, .int .u8 0, .slice none 0 0, .string (⟨#[]⟩ : ByteArray), .int .u8 0, .string (⟨#[]⟩ : ByteArray)]) ?_ 0 _ rfl; (with_reducible repeat (first | refine blk_drewN ?_ _ | refine blk_drew ?_ | refine blk_alloc ?_ _)); exact BK101.out) Tryd.underlying39 rfl (by kernel_rfl)) rfl ?_
        exact ⟨_, by first | rfl | (simp [errW_none, errW_some] <;> rfl) | (simp [*, errW_none, errW_some] <;> rfl), by (with_reducible repeat (first | apply Kd.S_alloc | apply Kd.S_drewN | apply Kd.S_drew)); exact Kd.S_mono (Kd.S_far (p := ⟨gb101, 5, none⟩) (Kd.S_far (p := ⟨gb101, 4, none⟩) (Kd.S_far (p := ⟨gb101, 3, none⟩) (Kd.S_far (p := ⟨gb101, 2, none⟩) (Kd.S_far (p := ⟨gb101, 1, none⟩) (Kd.S_far (p := ⟨gb101, 0, none⟩) (Kd.S_types HO_103002.out BK101.out (by decide)) (fun _ hk => hk.2) (.int .i64 1)) (fun _ hk => hk.2) (.int .u8 a0)) (fun _ hk => hk.2) (.slice Ao23 x103002_1.length co23)) (fun _ hk => hk.2) (.string (⟨#[]⟩ : ByteArray))) (fun _ hk => hk.2) (.int .u8 a1)) (fun _ hk => hk.2) (.string (⟨#[]⟩ : ByteArray))) (fun _ hk => trivial), by repeat (first | (with_reducible first | exact HB.out | apply below_alloc | apply pw_below_drewN | apply below_drew1 | refine below_set ?_ GE101.out | refine below_set ?_ GE102.out) | exact HB.out)⟩

end Go.Proofs.YtieppcjpbjefkaaDoor.PNum
