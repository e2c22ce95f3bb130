/- Contracts of package utf: Take. -/
import Derived.Test.YtieppcjpbjefkaaDoorA1
import Derived.Test.YtieppcjpbjefkaaDoorA1
set_option linter.all false
namespace Go.Proofs.YtieppcjpbjefkaaDoor
open Go.RowKit Go.Proofs

/-- the number that k + 1 bytes might be of, whether the first byte has the mark of so many, and whether they are -/
def decL (bs : List Int) (k : Nat) : Int :=
  match k with
  | 0 => bs.getD 0 0 % 128
  | 1 => bs.getD 0 0 % 32 * 64 + bs.getD 1 0 % 64
  | 2 => (bs.getD 0 0 % 16 * 64 + bs.getD 1 0 % 64) * 64 + bs.getD 2 0 % 64
  | _ => ((bs.getD 0 0 % 8 * 64 + bs.getD 1 0 % 64) * 64 + bs.getD 2 0 % 64) * 64 + bs.getD 3 0 % 64
def markL (b : Int) (k : Nat) : Bool :=
  match k with
  | 0 => decide (b < 128)
  | 1 => decide (192 ≤ b) && decide (b < 224)
  | 2 => decide (224 ≤ b) && decide (b < 240)
  | _ => decide (240 ≤ b) && decide (b < 248)
def hitL (bs : List Int) (k : Nat) : Bool := decide (k + 1 ≤ bs.length) && (markL (bs.getD 0 0) k && (putL (decL bs k) == bs.take (k + 1)))
/-- the point that bytes begin with, and how many these are -/
def takeL (bs : List Int) : Int × Nat :=
  if hitL bs 0 then (decL bs 0, 1) else if hitL bs 1 then (decL bs 1, 2) else if hitL bs 2 then (decL bs 2, 3) else if hitL bs 3 then (decL bs 3, 4) else (0, 0)

def TakeIs (w : World) (x : Int × Nat) (e : Ending) (w' : World) : Prop := e = .returned (.tuple #[.int .i64 x.1, .int .i64 x.2]) ∧ Below w.heap.size w w'

theorem andNot_bytes : ∀ b : Fin 256, (bits .andNot .u8 (b.val : Int) 127 != 0) = !(markL b.val 0) ∧ (bits .andNot .u8 (b.val : Int) 31 != 192) = !(markL b.val 1) ∧
    (bits .andNot .u8 (b.val : Int) 15 != 224) = !(markL b.val 2) ∧ (bits .andNot .u8 (b.val : Int) 7 != 240) = !(markL b.val 3) := by decide +kernel
theorem and_bytes (b : Int) (h0 : 0 ≤ b) (h1 : b < 256) : bits .and .u8 b 127 = b % 128 ∧ bits .and .u8 b 31 = b % 32 ∧ bits .and .u8 b 15 = b % 16 ∧ bits .and .u8 b 7 = b % 8 ∧ bits .and .u8 b 63 = b % 64 := by
  have m7 := bits_mask .u8 8 (by decide) wraps_u8 7 (by decide) b h0 (by omega)
  simp only [Int.reducePow, Int.reduceSub] at m7
  exact ⟨m7, u8_and31 b h0 h1, u8_and15 b h0 h1, u8_and7 b h0 h1, u8_and63 b h0 h1⟩
theorem or_six (x y : Int) (hx : 0 ≤ x) (hx1 : x ≤ 100000000) (hy : 0 ≤ y) (hy1 : y < 64) : bits .or .i64 (x * 64) y = x * 64 + y :=
  bits_join .i64 63 (by decide) (fun n a b => by rw [IntKind.wrap_i64]; omega) 6 (x * 64) y (by omega) (by omega) (by omega) hy (by omega) (by omega)

def Rest (bs : List Int) (k : Nat) : Int × Nat :=
  match k with
  | 0 => takeL bs
  | 1 => if hitL bs 1 then (decL bs 1, 2) else if hitL bs 2 then (decL bs 2, 3) else if hitL bs 3 then (decL bs 3, 4) else (0, 0)
  | 2 => if hitL bs 2 then (decL bs 2, 3) else if hitL bs 3 then (decL bs 3, 4) else (0, 0)
  | 3 => if hitL bs 3 then (decL bs 3, 4) else (0, 0)
  | _ => (0, 0)
theorem rest_hit (bs : List Int) (k : Nat) (hk : k < 4) (h : hitL bs k = true) : Rest bs k = (decL bs k, k + 1) := by
  match k, hk with
  | 0, _ => simp [Rest, takeL, h]
  | 1, _ => simp [Rest, h]
  | 2, _ => simp [Rest, h]
  | 3, _ => simp [Rest, h]
theorem rest_not (bs : List Int) (k : Nat) (hk : k < 4) (h : hitL bs k = false) : Rest bs k = Rest bs (k + 1) := by
  match k, hk with
  | 0, _ => simp [Rest, takeL, h]
  | 1, _ => simp [Rest, h]
  | 2, _ => simp [Rest, h]
  | 3, _ => simp [Rest, h]
theorem byteAt {w : World} {p : Option Addr} {n : Nat} {bs : List Int} (h : Lib.BytesIn w p n bs) (hn : 0 < n) : ∃ b o, p = some ⟨b, o, none⟩ ∧ ∀ i, i < n → w.cell? ⟨b, o + i, none⟩ = some (.int .u8 (bs.getD i 0)) := h hn

set_option maxRecDepth 100000 in
set_option maxHeartbeats 4000000 in
theorem utf_Take (p : Option Addr) (n c : Nat) (bs : List Int) (w : World) (hn : n ≤ 9223372036854775807) (hc : n ≤ c) (hl : bs.length = n) (hb : ∀ i, 0 ≤ bs.getD i 0 ∧ bs.getD i 0 < 256) (hin : Lib.BytesIn w p n bs) :
    Calls Tryd.prog 147 #[.slice p n c] w (TakeIs w (takeL bs)) := by
  have i0 : ∀ w, (Instr.index 118 (.agg #[.int .i64 1, .int .i64 127, .int .u8 0, .int .u8 127, .int .i64 2, .int .i64 2047, .int .u8 192, .int .u8 31, .int .i64 3, .int .i64 65535, .int .u8 224, .int .u8 15, .int .i64 4, .int .i64 1114111, .int .u8 240, .int .u8 7]) (.int .i64 0)).run Tryd.prog w = .ok (.agg #[.int .i64 1, .int .i64 127, .int .u8 0, .int .u8 127]) w := fun _ => by kernel_rfl
  have i1 : ∀ w, (Instr.index 118 (.agg #[.int .i64 1, .int .i64 127, .int .u8 0, .int .u8 127, .int .i64 2, .int .i64 2047, .int .u8 192, .int .u8 31, .int .i64 3, .int .i64 65535, .int .u8 224, .int .u8 15, .int .i64 4, .int .i64 1114111, .int .u8 240, .int .u8 7]) (.int .i64 1)).run Tryd.prog w = .ok (.agg #[.int .i64 2, .int .i64 2047, .int .u8 192, .int .u8 31]) w := fun _ => by kernel_rfl
  have i2 : ∀ w, (Instr.index 118 (.agg #[.int .i64 1, .int .i64 127, .int .u8 0, .int .u8 127, .int .i64 2, .int .i64 2047, .int .u8 192, .int .u8 31, .int .i64 3, .int .i64 65535, .int .u8 224, .int .u8 15, .int .i64 4, .int .i64 1114111, .int .u8 240, .int .u8 7]) (.int .i64 2)).run Tryd.prog w = .ok (.agg #[.int .i64 3, .int .i64 65535, .int .u8 224, .int .u8 15]) w := fun _ => by kernel_rfl
  have i3 : ∀ w, (Instr.index 118 (.agg #[.int .i64 1, .int .i64 127, .int .u8 0, .int .u8 127, .int .i64 2, .int .i64 2047, .int .u8 192, .int .u8 31, .int .i64 3, .int .i64 65535, .int .u8 224, .int .u8 15, .int .i64 4, .int .i64 1114111, .int .u8 240, .int .u8 7]) (.int .i64 3)).run Tryd.prog w = .ok (.agg #[.int .i64 4, .int .i64 1114111, .int .u8 240, .int .u8 7]) w := fun _ => by kernel_rfl
  have hmx : Tryd.prog.follows .mixedOrders = true := by kernel_rfl
  have HB := Lib.hid hb
  clear hb
  go_enter Tryd.func147, Tryd.ntmps147
  go_wp2_with (go_at_call 91; refine (utf_sizes _).mono ?_; rintro e w1 ⟨rfl, hb1⟩)
  go_loopw [10] (fun i wr => ∃ k : Nat, k ≤ 4 ∧ i = .int .i64 k ∧ Hid (Rest bs k = takeL bs) ∧ Below w.heap.size w wr ∧ Lib.BytesIn wr p n bs) (fun i _ => 4 - (intOf i).toNat)
  case atStart => exact ⟨0, by omega, rfl, Lib.hid rfl, hb1, bytesIn_later hin hb1⟩
  case round =>
    obtain ⟨k, hk, rfl, hR, hB, hI⟩ := hrel
    clear hb1 hin
    obtain rfl | rfl | rfl | rfl | rfl : k = 0 ∨ k = 1 ∨ k = 2 ∨ k = 3 ∨ k = 4 := by omega
    · -- 1 byte
      by_cases hlen : n < 1
      · have HH : Hid (hitL bs 0 = false) := Lib.hid (by simp [hitL]; omega)
        have d1 : decide ((n : Int) < 1) = true := by simp; omega
        go_wp2
        go_quiet (fail)
        go_wp2
        go_roundw
        case rel => exact ⟨1, by omega, by go_num, Lib.hid ((rest_not bs 0 (by omega) HH.out).symm.trans hR.out), below_drewN (below_alloc hB _) _, bytesIn_later hI (below_drewN (below_alloc (Below.refl _ _) _) _)⟩
        case measure => simp [intOf]
      · have d1 : decide ((n : Int) < 1) = false := by simp; omega
        obtain ⟨b, o, rfl, hcell⟩ := byteAt hI (by omega)
        have c0 : wr.cell? ⟨b, o, none⟩ = some (.int .u8 (bs.getD 0 0)) := hcell 0 (by omega)
        have hbw : b < wr.heap.size := World.block_lt_of_cell? _ _ c0
        have z1 : 0 < n := by omega
        have q0 := HB.out 0
        obtain ⟨x0, hx0⟩ : ∃ x, bs.getD 0 0 = x := ⟨_, rfl⟩
        rw [hx0] at q0 c0
        have X0 := Lib.hid hx0
        clear hcell hx0
        have ma := (andNot_bytes ⟨x0.toNat, by omega⟩).1
        simp only [Int.toNat_of_nonneg q0.1] at ma
        by_cases hm : markL x0 0 = true
        · have m1 : (bits .andNot .u8 x0 127 != 0) = false := by rw [ma, hm]; rfl
          have n1 : bits .and .u8 x0 127 = x0 % 128 := (and_bytes x0 q0.1 q0.2).1
          have HM := Lib.hid hm
          clear ma hm
          have HD : Hid (decL bs 0 = x0 % 128) := Lib.hid (by simp only [decL, X0.out])
          have hlt1 : (bs.take 1).length = 1 := by simp; omega
          have hpn : (putL (x0 % 128)).length ≤ 9223372036854775807 := by have := putL_length (x0 % 128); omega
          have hle : 1 ≤ n := by omega
          by_cases heq : putL (x0 % 128) = bs.take 1
          · have he : (putL (x0 % 128) == bs.take 1) = true := by rw [beq_iff_eq]; exact heq
            have HF : Hid (takeL bs = (x0 % 128, 1)) := Lib.hid (by
              rw [← hR.out, rest_hit bs 0 (by omega) (by simp only [hitL, HD.out, he, X0.out, HM.out]; simp; omega), HD.out])
            clear heq
            go_wp2
            go_quiet (fail)
            go_wp2
            go_quiet (fail)
            go_wp2
            all_goals refine wp_loop_rounds 1 ?_
            all_goals rw [rounds_succ]
            all_goals go_wp2_with fail
            all_goals
              go_region_with (first
                | (go_at_call 44; refine (utf_Put _ _).mono ?_; rintro e w2 ⟨v, rfl, hown, hb2⟩; obtain ⟨hl2, p, c2, rfl, hnc, hcm, hin2⟩ := own_bytes hown; have hbx := below_then (below_drewN (below_alloc (Below.refl _ wr) _) _) hb2; have hin3 := bytesIn_take (bytesIn_later hI hbx) 1 hle; have e0 : w2.cell? ⟨wr.heap.size, 0, none⟩ = some (.int .i64 1) := (hb2.cell (p := ⟨wr.heap.size, 0, none⟩) (by simp)).trans (by simp))
                | (go_at_call 158; refine (slices_Equal_byte _ _ _ _ _ _ (putL (x0 % 128)) (bs.take 1) _ rfl hlt1 hpn hin2 hin3).mono ?_; rintro e w3 ⟨rfl, nq, rfl⟩))
            all_goals go_wp2
            all_goals go_quiet (fail)
            all_goals go_wp2
            all_goals go_ret2
            all_goals rw [HF.out]
            all_goals exact ⟨rfl, below_drewN (below_drewN (hB.trans (hbx.mono hB.size)) _) _⟩
          · have he : (putL (x0 % 128) == bs.take 1) = false := by rw [beq_eq_false_iff_ne]; exact heq
            have HH : Hid (hitL bs 0 = false) := Lib.hid (by simp only [hitL, HD.out, he, Bool.and_false])
            clear heq
            go_wp2
            go_quiet (fail)
            go_wp2
            go_quiet (fail)
            go_wp2
            all_goals refine wp_loop_rounds 1 ?_
            all_goals rw [rounds_succ]
            all_goals go_wp2_with fail
            all_goals
              go_region_with (first
                | (go_at_call 44; refine (utf_Put _ _).mono ?_; rintro e w2 ⟨v, rfl, hown, hb2⟩; obtain ⟨hl2, p, c2, rfl, hnc, hcm, hin2⟩ := own_bytes hown; have hbx := below_then (below_drewN (below_alloc (Below.refl _ wr) _) _) hb2; have hin3 := bytesIn_take (bytesIn_later hI hbx) 1 hle; have e0 : w2.cell? ⟨wr.heap.size, 0, none⟩ = some (.int .i64 1) := (hb2.cell (p := ⟨wr.heap.size, 0, none⟩) (by simp)).trans (by simp))
                | (go_at_call 158; refine (slices_Equal_byte _ _ _ _ _ _ (putL (x0 % 128)) (bs.take 1) _ rfl hlt1 hpn hin2 hin3).mono ?_; rintro e w3 ⟨rfl, nq, rfl⟩))
            all_goals go_wp2
            all_goals try subst c
            all_goals go_roundw
            all_goals first
              | exact ⟨1, by omega, by go_num, Lib.hid ((rest_not bs 0 (by omega) HH.out).symm.trans hR.out), below_drewN (hB.trans (hbx.mono hB.size)) _, bytesIn_later hI (below_drewN hbx _)⟩
              | (simp [intOf]; done)
        · have hm' : markL x0 0 = false := by simpa using hm
          have m1 : (bits .andNot .u8 x0 127 != 0) = true := by rw [ma, hm']; rfl
          have HH : Hid (hitL bs 0 = false) := Lib.hid (by simp only [hitL, X0.out, hm']; simp)
          clear ma hm hm'
          go_wp2
          go_quiet (fail)
          go_wp2
          go_roundw
          case rel => exact ⟨1, by omega, by go_num, Lib.hid ((rest_not bs 0 (by omega) HH.out).symm.trans hR.out), below_drewN (below_alloc hB _) _, bytesIn_later hI (below_drewN (below_alloc (Below.refl _ _) _) _)⟩
          case measure => simp [intOf]
    · -- 2 bytes
      by_cases hlen : n < 2
      · have HH : Hid (hitL bs 1 = false) := Lib.hid (by simp [hitL]; omega)
        have d1 : decide ((n : Int) < 2) = true := by simp; omega
        go_wp2
        go_quiet (fail)
        go_wp2
        go_roundw
        case rel => exact ⟨2, by omega, by go_num, Lib.hid ((rest_not bs 1 (by omega) HH.out).symm.trans hR.out), below_drewN (below_alloc hB _) _, bytesIn_later hI (below_drewN (below_alloc (Below.refl _ _) _) _)⟩
        case measure => simp [intOf]
      · have d1 : decide ((n : Int) < 2) = false := by simp; omega
        obtain ⟨b, o, rfl, hcell⟩ := byteAt hI (by omega)
        have c0 : wr.cell? ⟨b, o, none⟩ = some (.int .u8 (bs.getD 0 0)) := hcell 0 (by omega)
        have c1 : wr.cell? ⟨b, o + 1, none⟩ = some (.int .u8 (bs.getD 1 0)) := hcell 1 (by omega)
        have hbw : b < wr.heap.size := World.block_lt_of_cell? _ _ c0
        have z1 : 0 < n := by omega
        have q0 := HB.out 0
        obtain ⟨x0, hx0⟩ : ∃ x, bs.getD 0 0 = x := ⟨_, rfl⟩
        rw [hx0] at q0 c0
        have X0 := Lib.hid hx0
        have q1 := HB.out 1
        obtain ⟨x1, hx1⟩ : ∃ x, bs.getD 1 0 = x := ⟨_, rfl⟩
        rw [hx1] at q1 c1
        have X1 := Lib.hid hx1
        clear hcell hx0 hx1
        have ma := (andNot_bytes ⟨x0.toNat, by omega⟩).2.1
        simp only [Int.toNat_of_nonneg q0.1] at ma
        by_cases hm : markL x0 1 = true
        · have m1 : (bits .andNot .u8 x0 31 != 192) = false := by rw [ma, hm]; rfl
          have n1 : bits .and .u8 x0 31 = x0 % 32 := (and_bytes x0 q0.1 q0.2).2.1
          have HM := Lib.hid hm
          clear ma hm
          have a1 : bits .and .u8 x1 63 = x1 % 64 := (and_bytes x1 q1.1 q1.2).2.2.2.2
          have r1 : bits .or .i64 ((x0 % 32) * 64) (x1 % 64) = (x0 % 32) * 64 + x1 % 64 := or_six _ _ (by omega) (by omega) (by omega) (by omega)
          have HD : Hid (decL bs 1 = (x0 % 32) * 64 + x1 % 64) := Lib.hid (by simp only [decL, X0.out, X1.out])
          have hlt1 : (bs.take 2).length = 2 := by simp; omega
          have hpn : (putL ((x0 % 32) * 64 + x1 % 64)).length ≤ 9223372036854775807 := by have := putL_length ((x0 % 32) * 64 + x1 % 64); omega
          have hle : 2 ≤ n := by omega
          have hcap2 : ¬ c = 1 := by omega
          by_cases heq : putL ((x0 % 32) * 64 + x1 % 64) = bs.take 2
          · have he : (putL ((x0 % 32) * 64 + x1 % 64) == bs.take 2) = true := by rw [beq_iff_eq]; exact heq
            have HF : Hid (takeL bs = ((x0 % 32) * 64 + x1 % 64, 2)) := Lib.hid (by
              rw [← hR.out, rest_hit bs 1 (by omega) (by simp only [hitL, HD.out, he, X0.out, HM.out]; simp; omega), HD.out])
            clear heq
            go_wp2
            go_quiet (fail)
            go_wp2
            go_quiet (fail)
            go_wp2
            all_goals refine wp_loop_rounds 2 ?_
            all_goals rw [rounds_succ]
            all_goals go_wp2_with fail
            all_goals rw [rounds_succ]
            all_goals go_wp2_with fail
            all_goals
              go_region_with (first
                | (go_at_call 44; refine (utf_Put _ _).mono ?_; rintro e w2 ⟨v, rfl, hown, hb2⟩; obtain ⟨hl2, p, c2, rfl, hnc, hcm, hin2⟩ := own_bytes hown; have hbx := below_then (below_drewN (below_alloc (Below.refl _ wr) _) _) hb2; have hin3 := bytesIn_take (bytesIn_later hI hbx) 2 hle; have e0 : w2.cell? ⟨wr.heap.size, 0, none⟩ = some (.int .i64 2) := (hb2.cell (p := ⟨wr.heap.size, 0, none⟩) (by simp)).trans (by simp))
                | (go_at_call 158; refine (slices_Equal_byte _ _ _ _ _ _ (putL ((x0 % 32) * 64 + x1 % 64)) (bs.take 2) _ rfl hlt1 hpn hin2 hin3).mono ?_; rintro e w3 ⟨rfl, nq, rfl⟩))
            all_goals go_wp2
            all_goals go_quiet (fail)
            all_goals go_wp2
            all_goals go_ret2
            all_goals rw [HF.out]
            all_goals exact ⟨rfl, below_drewN (below_drewN (hB.trans (hbx.mono hB.size)) _) _⟩
          · have he : (putL ((x0 % 32) * 64 + x1 % 64) == bs.take 2) = false := by rw [beq_eq_false_iff_ne]; exact heq
            have HH : Hid (hitL bs 1 = false) := Lib.hid (by simp only [hitL, HD.out, he, Bool.and_false])
            clear heq
            go_wp2
            go_quiet (fail)
            go_wp2
            go_quiet (fail)
            go_wp2
            all_goals refine wp_loop_rounds 2 ?_
            all_goals rw [rounds_succ]
            all_goals go_wp2_with fail
            all_goals rw [rounds_succ]
            all_goals go_wp2_with fail
            all_goals
              go_region_with (first
                | (go_at_call 44; refine (utf_Put _ _).mono ?_; rintro e w2 ⟨v, rfl, hown, hb2⟩; obtain ⟨hl2, p, c2, rfl, hnc, hcm, hin2⟩ := own_bytes hown; have hbx := below_then (below_drewN (below_alloc (Below.refl _ wr) _) _) hb2; have hin3 := bytesIn_take (bytesIn_later hI hbx) 2 hle; have e0 : w2.cell? ⟨wr.heap.size, 0, none⟩ = some (.int .i64 2) := (hb2.cell (p := ⟨wr.heap.size, 0, none⟩) (by simp)).trans (by simp))
                | (go_at_call 158; refine (slices_Equal_byte _ _ _ _ _ _ (putL ((x0 % 32) * 64 + x1 % 64)) (bs.take 2) _ rfl hlt1 hpn hin2 hin3).mono ?_; rintro e w3 ⟨rfl, nq, rfl⟩))
            all_goals go_wp2
            all_goals try subst c
            all_goals go_roundw
            all_goals first
              | exact ⟨2, by omega, by go_num, Lib.hid ((rest_not bs 1 (by omega) HH.out).symm.trans hR.out), below_drewN (hB.trans (hbx.mono hB.size)) _, bytesIn_later hI (below_drewN hbx _)⟩
              | (simp [intOf]; done)
        · have hm' : markL x0 1 = false := by simpa using hm
          have m1 : (bits .andNot .u8 x0 31 != 192) = true := by rw [ma, hm']; rfl
          have HH : Hid (hitL bs 1 = false) := Lib.hid (by simp only [hitL, X0.out, hm']; simp)
          clear ma hm hm'
          go_wp2
          go_quiet (fail)
          go_wp2
          go_roundw
          case rel => exact ⟨2, by omega, by go_num, Lib.hid ((rest_not bs 1 (by omega) HH.out).symm.trans hR.out), below_drewN (below_alloc hB _) _, bytesIn_later hI (below_drewN (below_alloc (Below.refl _ _) _) _)⟩
          case measure => simp [intOf]
    · -- 3 bytes
      by_cases hlen : n < 3
      · have HH : Hid (hitL bs 2 = false) := Lib.hid (by simp [hitL]; omega)
        have d1 : decide ((n : Int) < 3) = true := by simp; omega
        go_wp2
        go_quiet (fail)
        go_wp2
        go_roundw
        case rel => exact ⟨3, by omega, by go_num, Lib.hid ((rest_not bs 2 (by omega) HH.out).symm.trans hR.out), below_drewN (below_alloc hB _) _, bytesIn_later hI (below_drewN (below_alloc (Below.refl _ _) _) _)⟩
        case measure => simp [intOf]
      · have d1 : decide ((n : Int) < 3) = false := by simp; omega
        obtain ⟨b, o, rfl, hcell⟩ := byteAt hI (by omega)
        have c0 : wr.cell? ⟨b, o, none⟩ = some (.int .u8 (bs.getD 0 0)) := hcell 0 (by omega)
        have c1 : wr.cell? ⟨b, o + 1, none⟩ = some (.int .u8 (bs.getD 1 0)) := hcell 1 (by omega)
        have c2 : wr.cell? ⟨b, o + 2, none⟩ = some (.int .u8 (bs.getD 2 0)) := hcell 2 (by omega)
        have hbw : b < wr.heap.size := World.block_lt_of_cell? _ _ c0
        have z1 : 0 < n := by omega
        have q0 := HB.out 0
        obtain ⟨x0, hx0⟩ : ∃ x, bs.getD 0 0 = x := ⟨_, rfl⟩
        rw [hx0] at q0 c0
        have X0 := Lib.hid hx0
        have q1 := HB.out 1
        obtain ⟨x1, hx1⟩ : ∃ x, bs.getD 1 0 = x := ⟨_, rfl⟩
        rw [hx1] at q1 c1
        have X1 := Lib.hid hx1
        have q2 := HB.out 2
        obtain ⟨x2, hx2⟩ : ∃ x, bs.getD 2 0 = x := ⟨_, rfl⟩
        rw [hx2] at q2 c2
        have X2 := Lib.hid hx2
        clear hcell hx0 hx1 hx2
        have ma := (andNot_bytes ⟨x0.toNat, by omega⟩).2.2.1
        simp only [Int.toNat_of_nonneg q0.1] at ma
        by_cases hm : markL x0 2 = true
        · have m1 : (bits .andNot .u8 x0 15 != 224) = false := by rw [ma, hm]; rfl
          have n1 : bits .and .u8 x0 15 = x0 % 16 := (and_bytes x0 q0.1 q0.2).2.2.1
          have HM := Lib.hid hm
          clear ma hm
          have a1 : bits .and .u8 x1 63 = x1 % 64 := (and_bytes x1 q1.1 q1.2).2.2.2.2
          have r1 : bits .or .i64 ((x0 % 16) * 64) (x1 % 64) = (x0 % 16) * 64 + x1 % 64 := or_six _ _ (by omega) (by omega) (by omega) (by omega)
          have a2 : bits .and .u8 x2 63 = x2 % 64 := (and_bytes x2 q2.1 q2.2).2.2.2.2
          have r2 : bits .or .i64 (((x0 % 16) * 64 + x1 % 64) * 64) (x2 % 64) = ((x0 % 16) * 64 + x1 % 64) * 64 + x2 % 64 := or_six _ _ (by omega) (by omega) (by omega) (by omega)
          have HD : Hid (decL bs 2 = ((x0 % 16) * 64 + x1 % 64) * 64 + x2 % 64) := Lib.hid (by simp only [decL, X0.out, X1.out, X2.out])
          have hlt1 : (bs.take 3).length = 3 := by simp; omega
          have hpn : (putL (((x0 % 16) * 64 + x1 % 64) * 64 + x2 % 64)).length ≤ 9223372036854775807 := by have := putL_length (((x0 % 16) * 64 + x1 % 64) * 64 + x2 % 64); omega
          have hle : 3 ≤ n := by omega
          have hcap2 : ¬ c = 1 := by omega
          by_cases heq : putL (((x0 % 16) * 64 + x1 % 64) * 64 + x2 % 64) = bs.take 3
          · have he : (putL (((x0 % 16) * 64 + x1 % 64) * 64 + x2 % 64) == bs.take 3) = true := by rw [beq_iff_eq]; exact heq
            have HF : Hid (takeL bs = (((x0 % 16) * 64 + x1 % 64) * 64 + x2 % 64, 3)) := Lib.hid (by
              rw [← hR.out, rest_hit bs 2 (by omega) (by simp only [hitL, HD.out, he, X0.out, HM.out]; simp; omega), HD.out])
            clear heq
            go_wp2
            go_quiet (fail)
            go_wp2
            go_quiet (fail)
            go_wp2
            all_goals refine wp_loop_rounds 3 ?_
            all_goals rw [rounds_succ]
            all_goals go_wp2_with fail
            all_goals rw [rounds_succ]
            all_goals go_wp2_with fail
            all_goals rw [rounds_succ]
            all_goals go_wp2_with fail
            all_goals
              go_region_with (first
                | (go_at_call 44; refine (utf_Put _ _).mono ?_; rintro e w2 ⟨v, rfl, hown, hb2⟩; obtain ⟨hl2, p, c2, rfl, hnc, hcm, hin2⟩ := own_bytes hown; have hbx := below_then (below_drewN (below_alloc (Below.refl _ wr) _) _) hb2; have hin3 := bytesIn_take (bytesIn_later hI hbx) 3 hle; have e0 : w2.cell? ⟨wr.heap.size, 0, none⟩ = some (.int .i64 3) := (hb2.cell (p := ⟨wr.heap.size, 0, none⟩) (by simp)).trans (by simp))
                | (go_at_call 158; refine (slices_Equal_byte _ _ _ _ _ _ (putL (((x0 % 16) * 64 + x1 % 64) * 64 + x2 % 64)) (bs.take 3) _ rfl hlt1 hpn hin2 hin3).mono ?_; rintro e w3 ⟨rfl, nq, rfl⟩))
            all_goals go_wp2
            all_goals go_quiet (fail)
            all_goals go_wp2
            all_goals go_ret2
            all_goals rw [HF.out]
            all_goals exact ⟨rfl, below_drewN (below_drewN (hB.trans (hbx.mono hB.size)) _) _⟩
          · have he : (putL (((x0 % 16) * 64 + x1 % 64) * 64 + x2 % 64) == bs.take 3) = false := by rw [beq_eq_false_iff_ne]; exact heq
            have HH : Hid (hitL bs 2 = false) := Lib.hid (by simp only [hitL, HD.out, he, Bool.and_false])
            clear heq
            go_wp2
            go_quiet (fail)
            go_wp2
            go_quiet (fail)
            go_wp2
            all_goals refine wp_loop_rounds 3 ?_
            all_goals rw [rounds_succ]
            all_goals go_wp2_with fail
            all_goals rw [rounds_succ]
            all_goals go_wp2_with fail
            all_goals rw [rounds_succ]
            all_goals go_wp2_with fail
            all_goals
              go_region_with (first
                | (go_at_call 44; refine (utf_Put _ _).mono ?_; rintro e w2 ⟨v, rfl, hown, hb2⟩; obtain ⟨hl2, p, c2, rfl, hnc, hcm, hin2⟩ := own_bytes hown; have hbx := below_then (below_drewN (below_alloc (Below.refl _ wr) _) _) hb2; have hin3 := bytesIn_take (bytesIn_later hI hbx) 3 hle; have e0 : w2.cell? ⟨wr.heap.size, 0, none⟩ = some (.int .i64 3) := (hb2.cell (p := ⟨wr.heap.size, 0, none⟩) (by simp)).trans (by simp))
                | (go_at_call 158; refine (slices_Equal_byte _ _ _ _ _ _ (putL (((x0 % 16) * 64 + x1 % 64) * 64 + x2 % 64)) (bs.take 3) _ rfl hlt1 hpn hin2 hin3).mono ?_; rintro e w3 ⟨rfl, nq, rfl⟩))
            all_goals go_wp2
            all_goals try subst c
            all_goals go_roundw
            all_goals first
              | exact ⟨3, by omega, by go_num, Lib.hid ((rest_not bs 2 (by omega) HH.out).symm.trans hR.out), below_drewN (hB.trans (hbx.mono hB.size)) _, bytesIn_later hI (below_drewN hbx _)⟩
              | (simp [intOf]; done)
        · have hm' : markL x0 2 = false := by simpa using hm
          have m1 : (bits .andNot .u8 x0 15 != 224) = true := by rw [ma, hm']; rfl
          have HH : Hid (hitL bs 2 = false) := Lib.hid (by simp only [hitL, X0.out, hm']; simp)
          clear ma hm hm'
          go_wp2
          go_quiet (fail)
          go_wp2
          go_roundw
          case rel => exact ⟨3, by omega, by go_num, Lib.hid ((rest_not bs 2 (by omega) HH.out).symm.trans hR.out), below_drewN (below_alloc hB _) _, bytesIn_later hI (below_drewN (below_alloc (Below.refl _ _) _) _)⟩
          case measure => simp [intOf]
    · -- 4 bytes
      by_cases hlen : n < 4
      · have HH : Hid (hitL bs 3 = false) := Lib.hid (by simp [hitL]; omega)
        have d1 : decide ((n : Int) < 4) = true := by simp; omega
        go_wp2
        go_quiet (fail)
        go_wp2
        go_roundw
        case rel => exact ⟨4, by omega, by go_num, Lib.hid ((rest_not bs 3 (by omega) HH.out).symm.trans hR.out), below_drewN (below_alloc hB _) _, bytesIn_later hI (below_drewN (below_alloc (Below.refl _ _) _) _)⟩
        case measure => simp [intOf]
      · have d1 : decide ((n : Int) < 4) = false := by simp; omega
        obtain ⟨b, o, rfl, hcell⟩ := byteAt hI (by omega)
        have c0 : wr.cell? ⟨b, o, none⟩ = some (.int .u8 (bs.getD 0 0)) := hcell 0 (by omega)
        have c1 : wr.cell? ⟨b, o + 1, none⟩ = some (.int .u8 (bs.getD 1 0)) := hcell 1 (by omega)
        have c2 : wr.cell? ⟨b, o + 2, none⟩ = some (.int .u8 (bs.getD 2 0)) := hcell 2 (by omega)
        have c3 : wr.cell? ⟨b, o + 3, none⟩ = some (.int .u8 (bs.getD 3 0)) := hcell 3 (by omega)
        have hbw : b < wr.heap.size := World.block_lt_of_cell? _ _ c0
        have z1 : 0 < n := by omega
        have q0 := HB.out 0
        obtain ⟨x0, hx0⟩ : ∃ x, bs.getD 0 0 = x := ⟨_, rfl⟩
        rw [hx0] at q0 c0
        have X0 := Lib.hid hx0
        have q1 := HB.out 1
        obtain ⟨x1, hx1⟩ : ∃ x, bs.getD 1 0 = x := ⟨_, rfl⟩
        rw [hx1] at q1 c1
        have X1 := Lib.hid hx1
        have q2 := HB.out 2
        obtain ⟨x2, hx2⟩ : ∃ x, bs.getD 2 0 = x := ⟨_, rfl⟩
        rw [hx2] at q2 c2
        have X2 := Lib.hid hx2
        have q3 := HB.out 3
        obtain ⟨x3, hx3⟩ : ∃ x, bs.getD 3 0 = x := ⟨_, rfl⟩
        rw [hx3] at q3 c3
        have X3 := Lib.hid hx3
        clear hcell hx0 hx1 hx2 hx3
        have ma := (andNot_bytes ⟨x0.toNat, by omega⟩).2.2.2
        simp only [Int.toNat_of_nonneg q0.1] at ma
        by_cases hm : markL x0 3 = true
        · have m1 : (bits .andNot .u8 x0 7 != 240) = false := by rw [ma, hm]; rfl
          have n1 : bits .and .u8 x0 7 = x0 % 8 := (and_bytes x0 q0.1 q0.2).2.2.2.1
          have HM := Lib.hid hm
          clear ma hm
          have a1 : bits .and .u8 x1 63 = x1 % 64 := (and_bytes x1 q1.1 q1.2).2.2.2.2
          have r1 : bits .or .i64 ((x0 % 8) * 64) (x1 % 64) = (x0 % 8) * 64 + x1 % 64 := or_six _ _ (by omega) (by omega) (by omega) (by omega)
          have a2 : bits .and .u8 x2 63 = x2 % 64 := (and_bytes x2 q2.1 q2.2).2.2.2.2
          have r2 : bits .or .i64 (((x0 % 8) * 64 + x1 % 64) * 64) (x2 % 64) = ((x0 % 8) * 64 + x1 % 64) * 64 + x2 % 64 := or_six _ _ (by omega) (by omega) (by omega) (by omega)
          have a3 : bits .and .u8 x3 63 = x3 % 64 := (and_bytes x3 q3.1 q3.2).2.2.2.2
          have r3 : bits .or .i64 ((((x0 % 8) * 64 + x1 % 64) * 64 + x2 % 64) * 64) (x3 % 64) = (((x0 % 8) * 64 + x1 % 64) * 64 + x2 % 64) * 64 + x3 % 64 := or_six _ _ (by omega) (by omega) (by omega) (by omega)
          have HD : Hid (decL bs 3 = (((x0 % 8) * 64 + x1 % 64) * 64 + x2 % 64) * 64 + x3 % 64) := Lib.hid (by simp only [decL, X0.out, X1.out, X2.out, X3.out])
          have hlt1 : (bs.take 4).length = 4 := by simp; omega
          have hpn : (putL ((((x0 % 8) * 64 + x1 % 64) * 64 + x2 % 64) * 64 + x3 % 64)).length ≤ 9223372036854775807 := by have := putL_length ((((x0 % 8) * 64 + x1 % 64) * 64 + x2 % 64) * 64 + x3 % 64); omega
          have hle : 4 ≤ n := by omega
          have hcap2 : ¬ c = 1 := by omega
          by_cases heq : putL ((((x0 % 8) * 64 + x1 % 64) * 64 + x2 % 64) * 64 + x3 % 64) = bs.take 4
          · have he : (putL ((((x0 % 8) * 64 + x1 % 64) * 64 + x2 % 64) * 64 + x3 % 64) == bs.take 4) = true := by rw [beq_iff_eq]; exact heq
            have HF : Hid (takeL bs = ((((x0 % 8) * 64 + x1 % 64) * 64 + x2 % 64) * 64 + x3 % 64, 4)) := Lib.hid (by
              rw [← hR.out, rest_hit bs 3 (by omega) (by simp only [hitL, HD.out, he, X0.out, HM.out]; simp; omega), HD.out])
            clear heq
            go_wp2
            go_quiet (fail)
            go_wp2
            go_quiet (fail)
            go_wp2
            all_goals refine wp_loop_rounds 4 ?_
            all_goals rw [rounds_succ]
            all_goals go_wp2_with fail
            all_goals rw [rounds_succ]
            all_goals go_wp2_with fail
            all_goals rw [rounds_succ]
            all_goals go_wp2_with fail
            all_goals rw [rounds_succ]
            all_goals go_wp2_with fail
            all_goals
              go_region_with (first
                | (go_at_call 44; refine (utf_Put _ _).mono ?_; rintro e w2 ⟨v, rfl, hown, hb2⟩; obtain ⟨hl2, p, c2, rfl, hnc, hcm, hin2⟩ := own_bytes hown; have hbx := below_then (below_drewN (below_alloc (Below.refl _ wr) _) _) hb2; have hin3 := bytesIn_take (bytesIn_later hI hbx) 4 hle; have e0 : w2.cell? ⟨wr.heap.size, 0, none⟩ = some (.int .i64 4) := (hb2.cell (p := ⟨wr.heap.size, 0, none⟩) (by simp)).trans (by simp))
                | (go_at_call 158; refine (slices_Equal_byte _ _ _ _ _ _ (putL ((((x0 % 8) * 64 + x1 % 64) * 64 + x2 % 64) * 64 + x3 % 64)) (bs.take 4) _ rfl hlt1 hpn hin2 hin3).mono ?_; rintro e w3 ⟨rfl, nq, rfl⟩))
            all_goals go_wp2
            all_goals go_quiet (fail)
            all_goals go_wp2
            all_goals go_ret2
            all_goals rw [HF.out]
            all_goals exact ⟨rfl, below_drewN (below_drewN (hB.trans (hbx.mono hB.size)) _) _⟩
          · have he : (putL ((((x0 % 8) * 64 + x1 % 64) * 64 + x2 % 64) * 64 + x3 % 64) == bs.take 4) = false := by rw [beq_eq_false_iff_ne]; exact heq
            have HH : Hid (hitL bs 3 = false) := Lib.hid (by simp only [hitL, HD.out, he, Bool.and_false])
            clear heq
            go_wp2
            go_quiet (fail)
            go_wp2
            go_quiet (fail)
            go_wp2
            all_goals refine wp_loop_rounds 4 ?_
            all_goals rw [rounds_succ]
            all_goals go_wp2_with fail
            all_goals rw [rounds_succ]
            all_goals go_wp2_with fail
            all_goals rw [rounds_succ]
            all_goals go_wp2_with fail
            all_goals rw [rounds_succ]
            all_goals go_wp2_with fail
            all_goals
              go_region_with (first
                | (go_at_call 44; refine (utf_Put _ _).mono ?_; rintro e w2 ⟨v, rfl, hown, hb2⟩; obtain ⟨hl2, p, c2, rfl, hnc, hcm, hin2⟩ := own_bytes hown; have hbx := below_then (below_drewN (below_alloc (Below.refl _ wr) _) _) hb2; have hin3 := bytesIn_take (bytesIn_later hI hbx) 4 hle; have e0 : w2.cell? ⟨wr.heap.size, 0, none⟩ = some (.int .i64 4) := (hb2.cell (p := ⟨wr.heap.size, 0, none⟩) (by simp)).trans (by simp))
                | (go_at_call 158; refine (slices_Equal_byte _ _ _ _ _ _ (putL ((((x0 % 8) * 64 + x1 % 64) * 64 + x2 % 64) * 64 + x3 % 64)) (bs.take 4) _ rfl hlt1 hpn hin2 hin3).mono ?_; rintro e w3 ⟨rfl, nq, rfl⟩))
            all_goals go_wp2
            all_goals try subst c
            all_goals go_roundw
            all_goals first
              | exact ⟨4, by omega, by go_num, Lib.hid ((rest_not bs 3 (by omega) HH.out).symm.trans hR.out), below_drewN (hB.trans (hbx.mono hB.size)) _, bytesIn_later hI (below_drewN hbx _)⟩
              | (simp [intOf]; done)
        · have hm' : markL x0 3 = false := by simpa using hm
          have m1 : (bits .andNot .u8 x0 7 != 240) = true := by rw [ma, hm']; rfl
          have HH : Hid (hitL bs 3 = false) := Lib.hid (by simp only [hitL, X0.out, hm']; simp)
          clear ma hm hm'
          go_wp2
          go_quiet (fail)
          go_wp2
          go_roundw
          case rel => exact ⟨4, by omega, by go_num, Lib.hid ((rest_not bs 3 (by omega) HH.out).symm.trans hR.out), below_drewN (below_alloc hB _) _, bytesIn_later hI (below_drewN (below_alloc (Below.refl _ _) _) _)⟩
          case measure => simp [intOf]
    · go_wp2
      go_ret2
      rw [← hR.out]
      exact ⟨rfl, hB⟩

end Go.Proofs.YtieppcjpbjefkaaDoor
