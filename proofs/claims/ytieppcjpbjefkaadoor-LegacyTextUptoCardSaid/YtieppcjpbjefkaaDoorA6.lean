/- LegacyAlt: with Alt a text's, or a plain key's, form is that without it, behind an escape byte.    Conditions: what the call reads is of bulk at most 1048576; the listed tables hold what their initialisers lay. -/
import Derived.Test.YtieppcjpbjefkaaDoorALegF
import Derived.Test.YtieppcjpbjefkaaDoorA5
import Derived.Test.YtieppcjpbjefkaaDoorA1
set_option linter.all false

/- Contracts of the reference of keys: letter, number, pad, rest, Look. -/
namespace Go.Proofs.YtieppcjpbjefkaaDoor
open Go.RowKit Go.Proofs

def letterF (c : Int) : Int :=
  if c = 57350 ∨ c = 57417 then 68 else if c = 57351 ∨ c = 57418 then 67 else if c = 57352 ∨ c = 57419 then 65 else if c = 57353 ∨ c = 57420 then 66
  else if c = 57356 ∨ c = 57423 then 72 else if c = 57357 ∨ c = 57424 then 70 else if c = 57427 then 69
  else if c = 57364 ∨ c = 57365 ∨ c = 57366 ∨ c = 57367 then 80 + c - 57364 else 0
def numberF (c : Int) : Int :=
  if c = 57348 ∨ c = 57425 then 2 else if c = 57349 ∨ c = 57426 then 3 else if c = 57354 ∨ c = 57421 then 5 else if c = 57355 ∨ c = 57422 then 6
  else if c = 57368 then 15 else if c = 57369 ∨ c = 57370 ∨ c = 57371 ∨ c = 57372 ∨ c = 57373 then 17 + c - 57369 else if c = 57374 ∨ c = 57375 then 23 + c - 57374
  else if c = 57363 then 29 else 0

set_option maxRecDepth 100000 in
set_option maxHeartbeats 2000000 in
theorem ref_letter (c : Int) (w : World) (hc : i64r c) : Calls Tryd.prog 82 #[.int .i64 c] w fun e w' => e = .returned (.int .u8 (letterF c)) ∧ w = w' := by
  obtain ⟨c0, c1⟩ := hc
  obtain ⟨L, hL⟩ : ∃ L, letterF c = L := ⟨_, rfl⟩
  rw [hL]
  have HL := Lib.hid hL
  clear hL
  by_cases hq : c = 57364 ∨ c = 57365 ∨ c = 57366 ∨ c = 57367
  · rcases hq with rfl | rfl | rfl | rfl
    all_goals
      go_enter Tryd.func82, Tryd.ntmps82
      go_wp2
      go_ret
      exact ⟨by rw [← HL.out]; rfl, rfl⟩
  · have q1 : (c == 57364) = false := by simp; omega
    have q2 : (c == 57365) = false := by simp; omega
    have q3 : (c == 57366) = false := by simp; omega
    have q4 : (c == 57367) = false := by simp; omega
    clear hq
    go_enter Tryd.func82, Tryd.ntmps82
    go_wp2
    all_goals
      go_ret
      refine ⟨?_, rfl⟩
      rw [← HL.out]
      simp_all [letterF]

set_option maxRecDepth 100000 in
set_option maxHeartbeats 2000000 in
theorem ref_number (c : Int) (w : World) (hc : i64r c) : Calls Tryd.prog 83 #[.int .i64 c] w fun e w' => e = .returned (.int .i64 (numberF c)) ∧ w = w' := by
  obtain ⟨c0, c1⟩ := hc
  obtain ⟨L, hL⟩ : ∃ L, numberF c = L := ⟨_, rfl⟩
  rw [hL]
  have HL := Lib.hid hL
  clear hL
  by_cases hq : c = 57369 ∨ c = 57370 ∨ c = 57371 ∨ c = 57372 ∨ c = 57373 ∨ c = 57374 ∨ c = 57375
  · rcases hq with rfl | rfl | rfl | rfl | rfl | rfl | rfl
    all_goals
      go_enter Tryd.func83, Tryd.ntmps83
      go_wp2
      go_ret
      exact ⟨by rw [← HL.out]; rfl, rfl⟩
  · have q1 : (c == 57369) = false := by simp; omega
    have q2 : (c == 57370) = false := by simp; omega
    have q3 : (c == 57371) = false := by simp; omega
    have q4 : (c == 57372) = false := by simp; omega
    have q5 : (c == 57373) = false := by simp; omega
    have q6 : (c == 57374) = false := by simp; omega
    have q7 : (c == 57375) = false := by simp; omega
    clear hq
    go_enter Tryd.func83, Tryd.ntmps83
    go_wp2
    all_goals
      go_ret
      refine ⟨?_, rfl⟩
      rw [← HL.out]
      simp_all [numberF]

def restF (c : Int) : Int :=
  if c = 9 ∨ c = 13 ∨ c = 27 ∨ c = 127 then 2
  else if 57358 ≤ c ∧ c ≤ 57362 ∨ 57376 ≤ c ∧ c ≤ 57398 ∨ 57428 ≤ c ∧ c ≤ 57440 then 6
  else if 57441 ≤ c ∧ c ≤ 57454 then 7
  else if isB c = false ∨ c < 32 ∨ 127 ≤ c ∧ c ≤ 159 ∨ 57344 ≤ c ∧ c ≤ 63743 then 0 else 1

theorem ref_Is (r : Int) (w : World) :
    Calls Tryd.prog 126 #[.int .i64 r] w fun e w' => e = .returned (.bool (isB r)) ∧ w = w' := by
  go_enter Tryd.func126, Tryd.ntmps126
  go_wp2
  all_goals go_ret
  all_goals refine ⟨?_, rfl⟩
  all_goals simp [isB, *]
  all_goals omega

set_option maxRecDepth 100000 in
set_option maxHeartbeats 2000000 in
theorem ref_rest (c : Int) (w : World) (hc : i64r c) : Calls Tryd.prog 85 #[.int .i64 c] w fun e w' => e = .returned (.int .i64 (restF c)) ∧ w = w' := by
  obtain ⟨c0, c1⟩ := hc
  obtain ⟨L, hL⟩ : ∃ L, restF c = L := ⟨_, rfl⟩
  rw [hL]
  have HL := Lib.hid hL
  have hI := fun W => ref_Is c W
  obtain ⟨b, hb⟩ : ∃ b, isB c = b := ⟨_, rfl⟩
  rw [hb] at hI
  have HI := Lib.hid hI
  have HB := Lib.hid hb
  clear hL hI hb
  by_cases hq : c = 9 ∨ c = 13 ∨ c = 27 ∨ c = 127
  · rcases hq with rfl | rfl | rfl | rfl
    all_goals
      go_enter Tryd.func85, Tryd.ntmps85
      go_wp2
      go_ret
      exact ⟨by rw [← HL.out]; rfl, rfl⟩
  have q1 : (c == 9) = false := by simp; omega
  have q2 : (c == 13) = false := by simp; omega
  have q3 : (c == 27) = false := by simp; omega
  have q4 : (c == 127) = false := by simp; omega
  have HL1 : Hid (L = if 57358 ≤ c ∧ c ≤ 57362 ∨ 57376 ≤ c ∧ c ≤ 57398 ∨ 57428 ≤ c ∧ c ≤ 57440 then 6
    else if 57441 ≤ c ∧ c ≤ 57454 then 7 else if isB c = false ∨ c < 32 ∨ 127 ≤ c ∧ c ≤ 159 ∨ 57344 ≤ c ∧ c ≤ 63743 then 0 else 1) := Lib.hid (by rw [← HL.out, restF, if_neg hq])
  clear hq HL
  have hreg : c < 32 ∨ (32 ≤ c ∧ c < 127) ∨ (127 ≤ c ∧ c ≤ 159) ∨ (159 < c ∧ c < 57344) ∨ (57344 ≤ c ∧ c < 57358) ∨ (57358 ≤ c ∧ c ≤ 57362) ∨ (57362 < c ∧ c < 57376) ∨ (57376 ≤ c ∧ c ≤ 57398) ∨ (57398 < c ∧ c < 57428) ∨ (57428 ≤ c ∧ c ≤ 57440) ∨
      (57441 ≤ c ∧ c ≤ 57454) ∨ (57454 < c ∧ c ≤ 63743) ∨ 63743 < c := by omega
  rcases hreg with h | ⟨h, h'⟩ | ⟨h, h'⟩ | ⟨h, h'⟩ | ⟨h, h'⟩ | ⟨h, h'⟩ | ⟨h, h'⟩ | ⟨h, h'⟩ | ⟨h, h'⟩ | ⟨h, h'⟩ | ⟨h, h'⟩ | ⟨h, h'⟩ | h
  · have HV := Lib.hid (show L = 0 from by rw [HL1.out, if_neg (by omega), if_neg (by omega), if_pos (by omega)])
    clear HL1 HB
    cases b
    all_goals
      go_enter Tryd.func85, Tryd.ntmps85
      go_wp2_with (go_at_call 126; refine (HI.out _).mono ?_; rintro e w1 ⟨rfl, rfl⟩)
      go_ret
      exact ⟨by rw [HV.out]; rfl, rfl⟩
  · cases b
    · have HV := Lib.hid (show L = 0 from by rw [HL1.out, if_neg (by omega), if_neg (by omega), if_pos (.inl HB.out)])
      clear HL1 HB
      go_enter Tryd.func85, Tryd.ntmps85
      go_wp2_with (go_at_call 126; refine (HI.out _).mono ?_; rintro e w1 ⟨rfl, rfl⟩)
      go_ret
      exact ⟨by rw [HV.out]; rfl, rfl⟩
    · have HV := Lib.hid (show L = 1 from by rw [HL1.out, if_neg (by omega), if_neg (by omega), if_neg (by rw [HB.out]; rintro (h | h); cases h; omega)])
      clear HL1 HB
      go_enter Tryd.func85, Tryd.ntmps85
      go_wp2_with (go_at_call 126; refine (HI.out _).mono ?_; rintro e w1 ⟨rfl, rfl⟩)
      go_ret
      exact ⟨by rw [HV.out]; rfl, rfl⟩
  · have HV := Lib.hid (show L = 0 from by rw [HL1.out, if_neg (by omega), if_neg (by omega), if_pos (by omega)])
    clear HL1 HB
    cases b
    all_goals
      go_enter Tryd.func85, Tryd.ntmps85
      go_wp2_with (go_at_call 126; refine (HI.out _).mono ?_; rintro e w1 ⟨rfl, rfl⟩)
      go_ret
      exact ⟨by rw [HV.out]; rfl, rfl⟩
  · cases b
    · have HV := Lib.hid (show L = 0 from by rw [HL1.out, if_neg (by omega), if_neg (by omega), if_pos (.inl HB.out)])
      clear HL1 HB
      go_enter Tryd.func85, Tryd.ntmps85
      go_wp2_with (go_at_call 126; refine (HI.out _).mono ?_; rintro e w1 ⟨rfl, rfl⟩)
      go_ret
      exact ⟨by rw [HV.out]; rfl, rfl⟩
    · have HV := Lib.hid (show L = 1 from by rw [HL1.out, if_neg (by omega), if_neg (by omega), if_neg (by rw [HB.out]; rintro (h | h); cases h; omega)])
      clear HL1 HB
      go_enter Tryd.func85, Tryd.ntmps85
      go_wp2_with (go_at_call 126; refine (HI.out _).mono ?_; rintro e w1 ⟨rfl, rfl⟩)
      go_ret
      exact ⟨by rw [HV.out]; rfl, rfl⟩
  · have HV := Lib.hid (show L = 0 from by rw [HL1.out, if_neg (by omega), if_neg (by omega), if_pos (by omega)])
    clear HL1 HB
    cases b
    all_goals
      go_enter Tryd.func85, Tryd.ntmps85
      go_wp2_with (go_at_call 126; refine (HI.out _).mono ?_; rintro e w1 ⟨rfl, rfl⟩)
      go_ret
      exact ⟨by rw [HV.out]; rfl, rfl⟩
  · have HV := Lib.hid (show L = 6 from by rw [HL1.out, if_pos (by omega)])
    clear HL1 HB
    cases b
    all_goals
      go_enter Tryd.func85, Tryd.ntmps85
      go_wp2_with (go_at_call 126; refine (HI.out _).mono ?_; rintro e w1 ⟨rfl, rfl⟩)
      go_ret
      exact ⟨by rw [HV.out]; rfl, rfl⟩
  · have HV := Lib.hid (show L = 0 from by rw [HL1.out, if_neg (by omega), if_neg (by omega), if_pos (by omega)])
    clear HL1 HB
    cases b
    all_goals
      go_enter Tryd.func85, Tryd.ntmps85
      go_wp2_with (go_at_call 126; refine (HI.out _).mono ?_; rintro e w1 ⟨rfl, rfl⟩)
      go_ret
      exact ⟨by rw [HV.out]; rfl, rfl⟩
  · have HV := Lib.hid (show L = 6 from by rw [HL1.out, if_pos (by omega)])
    clear HL1 HB
    cases b
    all_goals
      go_enter Tryd.func85, Tryd.ntmps85
      go_wp2_with (go_at_call 126; refine (HI.out _).mono ?_; rintro e w1 ⟨rfl, rfl⟩)
      go_ret
      exact ⟨by rw [HV.out]; rfl, rfl⟩
  · have HV := Lib.hid (show L = 0 from by rw [HL1.out, if_neg (by omega), if_neg (by omega), if_pos (by omega)])
    clear HL1 HB
    cases b
    all_goals
      go_enter Tryd.func85, Tryd.ntmps85
      go_wp2_with (go_at_call 126; refine (HI.out _).mono ?_; rintro e w1 ⟨rfl, rfl⟩)
      go_ret
      exact ⟨by rw [HV.out]; rfl, rfl⟩
  · have HV := Lib.hid (show L = 6 from by rw [HL1.out, if_pos (by omega)])
    clear HL1 HB
    cases b
    all_goals
      go_enter Tryd.func85, Tryd.ntmps85
      go_wp2_with (go_at_call 126; refine (HI.out _).mono ?_; rintro e w1 ⟨rfl, rfl⟩)
      go_ret
      exact ⟨by rw [HV.out]; rfl, rfl⟩
  · have HV := Lib.hid (show L = 7 from by rw [HL1.out, if_neg (by omega), if_pos (by omega)])
    clear HL1 HB
    cases b
    all_goals
      go_enter Tryd.func85, Tryd.ntmps85
      go_wp2_with (go_at_call 126; refine (HI.out _).mono ?_; rintro e w1 ⟨rfl, rfl⟩)
      go_ret
      exact ⟨by rw [HV.out]; rfl, rfl⟩
  · have HV := Lib.hid (show L = 0 from by rw [HL1.out, if_neg (by omega), if_neg (by omega), if_pos (by omega)])
    clear HL1 HB
    cases b
    all_goals
      go_enter Tryd.func85, Tryd.ntmps85
      go_wp2_with (go_at_call 126; refine (HI.out _).mono ?_; rintro e w1 ⟨rfl, rfl⟩)
      go_ret
      exact ⟨by rw [HV.out]; rfl, rfl⟩
  · cases b
    · have HV := Lib.hid (show L = 0 from by rw [HL1.out, if_neg (by omega), if_neg (by omega), if_pos (.inl HB.out)])
      clear HL1 HB
      go_enter Tryd.func85, Tryd.ntmps85
      go_wp2_with (go_at_call 126; refine (HI.out _).mono ?_; rintro e w1 ⟨rfl, rfl⟩)
      go_ret
      exact ⟨by rw [HV.out]; rfl, rfl⟩
    · have HV := Lib.hid (show L = 1 from by rw [HL1.out, if_neg (by omega), if_neg (by omega), if_neg (by rw [HB.out]; rintro (h | h); cases h; omega)])
      clear HL1 HB
      go_enter Tryd.func85, Tryd.ntmps85
      go_wp2_with (go_at_call 126; refine (HI.out _).mono ?_; rintro e w1 ⟨rfl, rfl⟩)
      go_ret
      exact ⟨by rw [HV.out]; rfl, rfl⟩
end Go.Proofs.YtieppcjpbjefkaaDoor

/- Contracts of the reference of keys: pad, Look. -/
namespace Go.Proofs.YtieppcjpbjefkaaDoor
open Go.RowKit Go.Proofs

theorem ref_field (k f n c : Int) (p : Bool) (w : World) : (Instr.field 76 (.agg #[.int .i64 k, .int .u8 f, .int .i64 n, .int .i64 c, .bool p]) 0).run Tryd.prog w = .ok (.int .i64 k) w := by kernel_rfl

/-- the entry of a character on the pad -/
def padF (c : Int) : Int × Int := if c ≤ 57408 then (112 + c - 57399, 48 + c - 57399) else
  (([110, 111, 106, 109, 107, 77, 88, 108] : List Int).getD (c - 57409).toNat 0, ([46, 47, 42, 45, 43, 13, 61, 44] : List Int).getD (c - 57409).toNat 0)
set_option maxRecDepth 100000 in
set_option maxHeartbeats 2000000 in
theorem ref_pad (c : Int) (w : World) (h0 : 57399 ≤ c) (h1 : c ≤ 57416) : Calls Tryd.prog 84 #[.int .i64 c] w (EntryIs w 5 (padF c).1 0 (padF c).2 true) := by
  obtain ⟨L, hL⟩ : ∃ L, padF c = L := ⟨_, rfl⟩
  rw [hL]
  have HL := Lib.hid hL
  clear hL
  unfold EntryIs
  by_cases h : c ≤ 57408
  · have e1 : IntKind.u8.wrap (112 + c - 57399) = 112 + c - 57399 := by rw [IntKind.wrap_u8]; omega
    go_enter Tryd.func84, Tryd.ntmps84
    go_wp2
    have HL2 := Lib.hid (show L = (112 + c - 57399, 48 + c - 57399) from by rw [← HL.out, padF, if_pos h])
    rw [HL2.out]
    exact bodyPost_ret (v := .agg #[.int .i64 5, .int .u8 (112 + c - 57399), .int .i64 0, .int .i64 (48 + c - 57399), .bool true]) (by simp [results, Tryd.results84, go_sem]) rfl ⟨rfl, by go_grown⟩
  · have h8 : c = 57409 ∨ c = 57410 ∨ c = 57411 ∨ c = 57412 ∨ c = 57413 ∨ c = 57414 ∨ c = 57415 ∨ c = 57416 := by omega
    rcases h8 with rfl | rfl | rfl | rfl | rfl | rfl | rfl | rfl
    all_goals
      go_enter Tryd.func84, Tryd.ntmps84
      go_wp2
      rw [← HL.out]
      exact bodyPost_ret (by simp [results, Tryd.results84, go_sem]; exact ⟨rfl, rfl⟩) rfl ⟨rfl, by go_grown⟩

def lookR (c : Int) : EntryD :=
  if letterF c ≠ 0 then ⟨3, letterF c, 0, 0, decide (57399 ≤ c)⟩ else if numberF c ≠ 0 then ⟨4, 0, numberF c, 0, decide (57399 ≤ c)⟩
  else if 57399 ≤ c ∧ c ≤ 57416 then ⟨5, (padF c).1, 0, (padF c).2, true⟩ else ⟨restF c, 0, 0, 0, false⟩

theorem lookR_mid : ∀ k : Fin 120, lookR (57340 + (k.val : Int)) = lookD (57340 + (k.val : Int)) := by decide +kernel
theorem lookR_low : ∀ k : Fin 160, lookR (k.val : Int) = lookD (k.val : Int) := by decide +kernel
theorem lookR_eq (c : Int) : lookR c = lookD c := by
  by_cases h1 : 0 ≤ c ∧ c < 160
  · have := lookR_low ⟨c.toNat, by omega⟩
    simpa [Int.toNat_of_nonneg h1.1] using this
  by_cases h2 : 57340 ≤ c ∧ c < 57460
  · have := lookR_mid ⟨(c - 57340).toNat, by omega⟩
    have e : 57340 + (((c - 57340).toNat : Nat) : Int) = c := by omega
    simpa only [e] using this
  have hn : pairsD.find? (fun x => x.1 == c) = none := by
    rw [List.find?_eq_none]
    intro x hx
    have : (0 ≤ x.1 ∧ x.1 < 160) ∨ (57340 ≤ x.1 ∧ x.1 < 57460) := (by decide +kernel : ∀ x ∈ pairsD, (0 ≤ x.1 ∧ x.1 < 160) ∨ (57340 ≤ x.1 ∧ x.1 < 57460)) x hx
    simp
    omega
  have hp : putL c = [] ↔ isB c = false := by
    unfold putL
    cases isB c
    · simp
    · simp
      (repeat' split) <;> simp
  have e1 : letterF c = 0 := by
    unfold letterF
    rw [if_neg (by omega), if_neg (by omega), if_neg (by omega), if_neg (by omega), if_neg (by omega), if_neg (by omega), if_neg (by omega), if_neg (by omega)]
  have e2 : numberF c = 0 := by
    unfold numberF
    rw [if_neg (by omega), if_neg (by omega), if_neg (by omega), if_neg (by omega), if_neg (by omega), if_neg (by omega), if_neg (by omega), if_neg (by omega)]
  unfold lookR lookD
  rw [hn, e1, e2, if_neg (by simp), if_neg (by simp), if_neg (by omega)]
  simp only
  unfold restF
  rw [if_neg (by omega), if_neg (by omega), if_neg (by omega)]
  by_cases h : isB c = false ∨ c < 32 ∨ 127 ≤ c ∧ c ≤ 159 ∨ 57344 ≤ c ∧ c ≤ 63743
  · rw [if_pos h, if_pos]
    · rfl
    · rcases h with h | h | h | h
      · exact .inr (.inr (.inr (hp.2 h)))
      · exact .inl h
      · exact .inr (.inl h)
      · exact .inr (.inr (.inl (by omega)))
  · rw [if_neg h, if_neg]
    rintro (h' | h' | h' | h')
    · exact h (.inr (.inl h'))
    · exact h (.inr (.inr (.inl h')))
    · exact h (.inr (.inr (.inr (by omega))))
    · exact h (.inl (hp.1 h'))

set_option maxRecDepth 100000 in
set_option maxHeartbeats 2000000 in
theorem ref_Look (c : Int) (w : World) (hc : i64r c) : Calls Tryd.prog 40 #[.int .i64 c] w (EntryIsD w (lookD c)) := by
  have hl := fun W => ref_letter c W hc
  have hn := fun W => ref_number c W hc
  have hr := fun W => ref_rest c W hc
  have hp := fun (h : 57399 ≤ c ∧ c ≤ 57416) W => ref_pad c W h.1 h.2
  unfold EntryIs at hp
  rw [← lookR_eq]
  unfold EntryIsD EntryIs
  obtain ⟨L, hL⟩ : ∃ L, lookR c = L := ⟨_, rfl⟩
  rw [hL]
  have HL : Hid (L = if letterF c ≠ 0 then ⟨3, letterF c, 0, 0, decide (57399 ≤ c)⟩ else if numberF c ≠ 0 then ⟨4, 0, numberF c, 0, decide (57399 ≤ c)⟩
    else if 57399 ≤ c ∧ c ≤ 57416 then ⟨5, (padF c).1, 0, (padF c).2, true⟩ else ⟨restF c, 0, 0, 0, false⟩) := Lib.hid hL.symm
  obtain ⟨a, ha⟩ : ∃ a, letterF c = a := ⟨_, rfl⟩
  obtain ⟨b, hb⟩ : ∃ b, numberF c = b := ⟨_, rfl⟩
  obtain ⟨d, hd⟩ : ∃ d, restF c = d := ⟨_, rfl⟩
  obtain ⟨f, g, hf⟩ : ∃ f g, padF c = (f, g) := ⟨_, _, rfl⟩
  rw [ha] at hl HL
  rw [hb] at hn HL
  rw [hd] at hr HL
  rw [hf] at hp HL
  simp only at HL hp
  clear hL ha hb hd hf
  obtain ⟨c0, c1⟩ := hc
  have HA := Lib.hid hl
  have HB := Lib.hid hn
  have HD := Lib.hid hr
  have HP := Lib.hid hp
  clear hl hn hr hp
  by_cases ha : a = 0
  case neg =>
    have d0 : (a != 0) = true := by simpa using ha
    by_cases hk : 57399 ≤ c
    · have HV := Lib.hid (show L = ⟨3, a, 0, 0, true⟩ from by rw [HL.out, if_pos ha]; simp [hk])
      clear ha
      go_enter Tryd.func40, Tryd.ntmps40
      go_wp2_with (go_at_call 82; refine (HA.out _).mono ?_; rintro e w1 ⟨rfl, rfl⟩)
      rw [HV.out]
      exact bodyPost_ret (v := .agg #[.int .i64 3, .int .u8 a, .int .i64 0, .int .i64 0, .bool true]) (by simp [results, Tryd.results40, go_sem]) rfl ⟨rfl, by go_grown⟩
    · have HV := Lib.hid (show L = ⟨3, a, 0, 0, false⟩ from by rw [HL.out, if_pos ha]; simp; omega)
      have hk : c < 57399 := by omega
      clear ha
      go_enter Tryd.func40, Tryd.ntmps40
      go_wp2_with (go_at_call 82; refine (HA.out _).mono ?_; rintro e w1 ⟨rfl, rfl⟩)
      rw [HV.out]
      exact bodyPost_ret (v := .agg #[.int .i64 3, .int .u8 a, .int .i64 0, .int .i64 0, .bool false]) (by simp [results, Tryd.results40, go_sem]) rfl ⟨rfl, by go_grown⟩
  subst ha
  by_cases hb : b = 0
  case neg =>
    have d0 : (b != 0) = true := by simpa using hb
    by_cases hk : 57399 ≤ c
    · have HV := Lib.hid (show L = ⟨4, 0, b, 0, true⟩ from by rw [HL.out, if_neg (by simp), if_pos hb]; simp [hk])
      clear hb
      go_enter Tryd.func40, Tryd.ntmps40
      go_wp2_with (first
        | (go_at_call 82; refine (HA.out _).mono ?_; rintro e w1 ⟨rfl, rfl⟩)
        | (go_at_call 83; refine (HB.out _).mono ?_; rintro e w1 ⟨rfl, rfl⟩))
      rw [HV.out]
      exact bodyPost_ret (v := .agg #[.int .i64 4, .int .u8 0, .int .i64 b, .int .i64 0, .bool true]) (by simp [results, Tryd.results40, go_sem]) rfl ⟨rfl, by go_grown⟩
    · have HV := Lib.hid (show L = ⟨4, 0, b, 0, false⟩ from by rw [HL.out, if_neg (by simp), if_pos hb]; simp; omega)
      have hk : c < 57399 := by omega
      clear hb
      go_enter Tryd.func40, Tryd.ntmps40
      go_wp2_with (first
        | (go_at_call 82; refine (HA.out _).mono ?_; rintro e w1 ⟨rfl, rfl⟩)
        | (go_at_call 83; refine (HB.out _).mono ?_; rintro e w1 ⟨rfl, rfl⟩))
      rw [HV.out]
      exact bodyPost_ret (v := .agg #[.int .i64 4, .int .u8 0, .int .i64 b, .int .i64 0, .bool false]) (by simp [results, Tryd.results40, go_sem]) rfl ⟨rfl, by go_grown⟩
  subst hb
  by_cases hk : 57399 ≤ c ∧ c ≤ 57416
  · have HV := Lib.hid (show L = ⟨5, f, 0, g, true⟩ from by rw [HL.out, if_neg (by simp), if_neg (by simp), if_pos hk])
    have HP2 := Lib.hid (HP.out hk)
    obtain ⟨k1, k2⟩ := hk
    go_enter Tryd.func40, Tryd.ntmps40
    go_wp2_with (first
      | (go_at_call 82; refine (HA.out _).mono ?_; rintro e w1 ⟨rfl, rfl⟩)
      | (go_at_call 83; refine (HB.out _).mono ?_; rintro e w1 ⟨rfl, rfl⟩)
      | (go_at_call 84; refine (HP2.out _).mono ?_; rintro e w1 ⟨rfl, hb1⟩; obtain ⟨hc1, hf1⟩ := bcell hb1; have l0 : w.heap.size < w1.heap.size := (by have := hb1.size; simp at this; omega)))
    rw [HV.out]
    refine bodyPost_ret (v := .agg #[.int .i64 5, .int .u8 f, .int .i64 0, .int .i64 g, .bool true]) (by simp [results, Tryd.results40, go_sem, hc1, l0]) rfl ⟨rfl, ?_⟩
    exact (((((below_then (below_alloc (Below.refl _ _) _) hb1).setCell (p := ⟨w.heap.size, _, none⟩) (by simp) _).setCell (p := ⟨w.heap.size, _, none⟩) (by simp) _).setCell (p := ⟨w.heap.size, _, none⟩) (by simp) _).setCell (p := ⟨w.heap.size, _, none⟩) (by simp) _).setCell (p := ⟨w.heap.size, _, none⟩) (by simp) _
  · have HV := Lib.hid (show L = ⟨d, 0, 0, 0, false⟩ from by rw [HL.out, if_neg (by simp), if_neg (by simp), if_neg hk])
    have hk : c < 57399 ∨ 57416 < c := by omega
    rcases hk with hk | hk
    · go_enter Tryd.func40, Tryd.ntmps40
      go_wp2_with (first
        | (go_at_call 82; refine (HA.out _).mono ?_; rintro e w1 ⟨rfl, rfl⟩)
        | (go_at_call 83; refine (HB.out _).mono ?_; rintro e w1 ⟨rfl, rfl⟩)
        | (go_at_call 85; refine (HD.out _).mono ?_; rintro e w1 ⟨rfl, rfl⟩))
      rw [HV.out]
      exact bodyPost_ret (v := .agg #[.int .i64 d, .int .u8 0, .int .i64 0, .int .i64 0, .bool false]) (by simp [results, Tryd.results40, go_sem]) rfl ⟨rfl, by go_grown⟩
    · have hk2 : 57399 ≤ c := by omega
      go_enter Tryd.func40, Tryd.ntmps40
      go_wp2_with (first
        | (go_at_call 82; refine (HA.out _).mono ?_; rintro e w1 ⟨rfl, rfl⟩)
        | (go_at_call 83; refine (HB.out _).mono ?_; rintro e w1 ⟨rfl, rfl⟩)
        | (go_at_call 85; refine (HD.out _).mono ?_; rintro e w1 ⟨rfl, rfl⟩))
      rw [HV.out]
      exact bodyPost_ret (v := .agg #[.int .i64 d, .int .u8 0, .int .i64 0, .int .i64 0, .bool false]) (by simp [results, Tryd.results40, go_sem]) rfl ⟨rfl, by go_grown⟩
end Go.Proofs.YtieppcjpbjefkaaDoor

/- Contracts of the reference of legacy keys: Has, text, clean. -/
namespace Go.Proofs.YtieppcjpbjefkaaDoor
open Go.RowKit Go.Proofs Go.Shelf

theorem ref_Has (m one : Int) (w : World) (h : i64r m) (h1 : one ∈ ([1, 2, 4, 8, 16, 32, 64, 128] : List Int)) : Calls Tryd.prog 51 #[.int .i64 m, .int .i64 one] w fun e w' => e = .returned (.bool (hasB m one)) ∧ w = w' := by
  obtain ⟨h0, h2⟩ := h
  obtain ⟨X, hX⟩ : ∃ X, hasB m one = X := ⟨_, rfl⟩
  rw [hX]
  have HX := Lib.hid hX
  clear hX
  simp only [List.mem_cons, List.not_mem_nil, or_false] at h1
  rcases h1 with rfl | rfl | rfl | rfl | rfl | rfl | rfl | rfl
  all_goals
    go_enter Tryd.func51, Tryd.ntmps51
    go_wp2
    go_ret
    rw [← HX.out]
    refine ⟨?_, rfl⟩
    simp only [hasB, Int.ediv_one]; rfl
theorem ref_text (c : Int) (w : World) (hc : i64r c) : Calls Tryd.prog 41 #[.int .i64 c] w (BoolIs w ((lookD c).kind == 1)) := by
  have hL := fun W => ref_Look c W hc
  have hfk := ref_field
  unfold EntryIsD EntryIs at hL
  have HL := Lib.hid hL
  clear hL
  go_enter Tryd.func41, Tryd.ntmps41
  go_wp2_with (go_at_call 40; refine (HL.out _).mono ?_; rintro e w1 ⟨rfl, hb⟩)
  go_ret
  exact ⟨rfl, hb⟩

/-- whether a key may have a text of these bytes -/
def cleanL (t : List UInt8) : Bool := (allL (u8s t)).2 && (decide ((allL (u8s t)).1.length ≤ 8) && (allL (u8s t)).1.all cleanR)
set_option maxRecDepth 100000 in
set_option maxHeartbeats 4000000 in
theorem ref_clean (t : List UInt8) (w : World) (ht : t.length ≤ 1000000000000) : Calls Tryd.prog 42 #[.string ⟨t.toArray⟩] w (BoolIs w (cleanL t)) := by
  obtain ⟨c, hc, hr⟩ := conv_bytes w t
  have hA := ref_All (some ⟨w.heap.size, 0, none⟩) t.length c t (Lib.bytesWorld w 5 ⟨t.toArray⟩) ht (BytesR.of_conv w _ t c hc)
  have hB0 := conv_below (Below.refl _ w) ⟨t.toArray⟩ 5
  obtain ⟨X, hX⟩ : ∃ X, cleanL t = X := ⟨_, rfl⟩
  rw [hX]
  unfold cleanL at hX
  obtain ⟨l, ok, hlo⟩ : ∃ l ok, allL (u8s t) = (l, ok) := ⟨_, _, rfl⟩
  rw [hlo] at hA hX
  obtain ⟨N, hN⟩ : ∃ N, l.length = N := ⟨_, rfl⟩
  unfold AllIs at hA
  simp only [hN] at hA hX
  have HX := Lib.hid hX
  have HA := Lib.hid hA
  have HN := Lib.hid hN
  clear hX hA hlo hN
  cases ok
  · go_enter Tryd.func42, Tryd.ntmps42
    go_wp2_with (go_at_call 86; refine (HA.out).mono ?_; rintro e w1 ⟨v, rfl, hown, hb1⟩; obtain ⟨hll, q, d, rfl, hqd, hd1, hci⟩ := own_ints hown; clear hll hown; have hB := below_then hB0 hb1)
    go_ret
    rw [← HX.out]
    exact ⟨rfl, hB⟩
  by_cases h8 : 8 < N
  · have h9 : Hid (decide (N ≤ 8) = false) := Lib.hid (by simpa using h8)
    go_enter Tryd.func42, Tryd.ntmps42
    go_wp2_with (go_at_call 86; refine (HA.out).mono ?_; rintro e w1 ⟨v, rfl, hown, hb1⟩; obtain ⟨hll, q, d, rfl, hqd, hd1, hci⟩ := own_ints hown; clear hll hown; have hB := below_then hB0 hb1)
    go_ret
    rw [← HX.out, h9.out]
    exact ⟨rfl, hB⟩
  have h9 : Hid (X = l.all cleanR) := Lib.hid (by rw [← HX.out, decide_eq_true (by omega)]; rfl)
  have h8 : N ≤ 8 := by omega
  go_enter Tryd.func42, Tryd.ntmps42
  go_wp2_with (go_at_call 86; refine (HA.out).mono ?_; rintro e w1 ⟨v, rfl, hown, hb1⟩; obtain ⟨hll, q, d, rfl, hqd, hd1, hci⟩ := own_ints hown; clear hll hown; have hB := below_then hB0 hb1)
  go_loop [5] (fun t5 => ∃ k : Nat, k ≤ N ∧ t5 = .int .i64 k ∧ Hid ((l.take k).all cleanR = true)) (fun t5 => N - (intOf t5).toNat)
  case atStart => exact ⟨0, by omega, rfl, Lib.hid (by simp)⟩
  case round =>
    obtain ⟨k, hk, rfl, hg⟩ := hrel
    by_cases hlt : k < N
    case neg =>
      obtain rfl : k = N := by omega
      have hV := Lib.hid (show X = true from by rw [h9.out, ← hg.out, List.take_of_length_le (by rw [HN.out]; exact Nat.le_refl _)])
      go_wp2
      go_ret
      rw [hV.out]
      exact ⟨rfl, hB⟩
    obtain ⟨b, o, rfl, gc⟩ := ints_at hci (by rw [HN.out]; omega)
    have ck := gc k (by rw [HN.out]; omega)
    obtain ⟨y, hy⟩ : ∃ y, l.getD k 0 = y := ⟨_, rfl⟩
    have HS : Hid ((l.take (k + 1)).all cleanR = cleanR y) := Lib.hid (by
      have hkl : k < l.length := by rw [HN.out]; exact hlt
      rw [List.take_succ_eq_append_getElem hkl, List.all_append, hg.out, ← hy, List.getD_eq_getElem?_getD, List.getElem?_eq_getElem hkl]
      simp)
    have HBad : Hid (cleanR y = false → X = false) := Lib.hid (fun hb => by
      rw [h9.out, ← List.take_append_drop (k + 1) l, List.all_append, HS.out, hb]
      rfl)
    rw [hy] at ck
    clear gc hy hci
    by_cases hy1 : y < 32
    · have HC : Hid (X = false) := Lib.hid (HBad.out (by simp [cleanR]; omega))
      go_wp2
      go_ret
      rw [HC.out]
      exact ⟨rfl, hB⟩
    by_cases hy2 : 127 ≤ y
    · by_cases hy3 : y ≤ 159
      · have HC : Hid (X = false) := Lib.hid (HBad.out (by simp [cleanR]; omega))
        go_wp2
        go_ret
        rw [HC.out]
        exact ⟨rfl, hB⟩
      · have HC : Hid ((l.take (k + 1)).all cleanR = true) := Lib.hid (by rw [HS.out]; simp [cleanR]; omega)
        go_wp2
        go_round
        case rel => exact ⟨k + 1, by omega, by go_num, HC⟩
        case measure => simp [intOf]; omega
    · have HC : Hid ((l.take (k + 1)).all cleanR = true) := Lib.hid (by rw [HS.out]; simp [cleanR]; omega)
      go_wp2
      go_round
      case rel => exact ⟨k + 1, by omega, by go_num, HC⟩
      case measure => simp [intOf]; omega
end Go.Proofs.YtieppcjpbjefkaaDoor

/- Contract of the reference of legacy keys: May. -/
namespace Go.Proofs.YtieppcjpbjefkaaDoor
open Go.RowKit Go.Proofs Go.Shelf

theorem clean_textOk (t : List UInt8) : (textOk t && decide ((allL (u8s t)).1.length ≤ 8)) = cleanL t := by
  unfold textOk cleanL
  cases (allL (u8s t)).2 <;> cases decide ((allL (u8s t)).1.length ≤ 8) <;> cases (allL (u8s t)).1.all cleanR <;> rfl

set_option maxRecDepth 100000 in
set_option maxHeartbeats 4000000 in
theorem ref_May (k : KeyD) (w : World) (hk : k.wf) (ht : k.text.length ≤ 1000000000000) : Calls Tryd.prog 16 #[k.v] w (BoolIs w (mayK k)) := by
  obtain ⟨hc, ⟨m0, m1⟩, ⟨t0, t1⟩, hs, hb⟩ := hk
  obtain ⟨code, mods, typ, sh, base, text⟩ := k
  unfold KeyD.v
  simp only at *
  obtain ⟨X, hX⟩ : ∃ X, mayK ⟨code, mods, typ, sh, base, text⟩ = X := ⟨_, rfl⟩
  rw [hX]
  simp only [mayK] at hX
  rw [clean_textOk] at hX
  have hL := fun W => ref_Look code W hc
  unfold EntryIsD EntryIs at hL
  have hTs := fun W => ref_text sh W hs
  have hTb := fun W => ref_text base W hb
  have hC := fun W => ref_clean text W ht
  obtain ⟨E, hE⟩ : ∃ E, lookD code = E := ⟨_, rfl⟩
  rw [hE] at hL hX
  obtain ⟨kd, fin, num, chr, pad⟩ := E
  simp only at hL hX
  have HL := Lib.hid hL
  have HTs := Lib.hid hTs
  have HTb := Lib.hid hTb
  have HC := Lib.hid hC
  have hfk := ref_field
  obtain ⟨c0, c1⟩ := hc
  obtain ⟨s0, s1⟩ := hs
  obtain ⟨b0, b1⟩ := hb
  clear hL hTs hTb hC hE ht
  by_cases hbad : kd = 0 ∨ mods < 0 ∨ 255 < mods ∨ typ < 1 ∨ 3 < typ
  · have HX := Lib.hid (show X = false from by
      rw [← hX]
      rcases hbad with h | h | h | h | h
      · simp [h]
      · rw [decide_eq_false (p := 0 ≤ mods) (by omega)]; simp
      · rw [decide_eq_false (p := mods ≤ 255) (by omega)]; simp
      · rw [decide_eq_false (p := 1 ≤ typ) (by omega)]; simp
      · rw [decide_eq_false (p := typ ≤ 3) (by omega)]; simp)
    clear hX
    by_cases h1 : kd = 0
    · subst h1
      clear hbad
      go_enter Tryd.func16, Tryd.ntmps16
      go_wp2_with (go_at_call 40; refine (HL.out _).mono ?_; rintro e w1 ⟨rfl, hB⟩; obtain ⟨e0, e1, e2, e3, e4, e5⟩ := box6 hB)
      go_ret
      rw [HX.out]
      exact ⟨rfl, below_then (below_alloc (Below.refl _ _) _) hB⟩
    have d1 : (kd == 0) = false := by simpa using h1
    by_cases h2 : mods < 0
    · clear hbad h1
      go_enter Tryd.func16, Tryd.ntmps16
      go_wp2_with (go_at_call 40; refine (HL.out _).mono ?_; rintro e w1 ⟨rfl, hB⟩; obtain ⟨e0, e1, e2, e3, e4, e5⟩ := box6 hB)
      go_ret
      rw [HX.out]
      exact ⟨rfl, below_then (below_alloc (Below.refl _ _) _) hB⟩
    by_cases h3 : 255 < mods
    · clear hbad h1
      go_enter Tryd.func16, Tryd.ntmps16
      go_wp2_with (go_at_call 40; refine (HL.out _).mono ?_; rintro e w1 ⟨rfl, hB⟩; obtain ⟨e0, e1, e2, e3, e4, e5⟩ := box6 hB)
      go_ret
      rw [HX.out]
      exact ⟨rfl, below_then (below_alloc (Below.refl _ _) _) hB⟩
    by_cases h4 : typ < 1
    · clear hbad h1
      go_enter Tryd.func16, Tryd.ntmps16
      go_wp2_with (go_at_call 40; refine (HL.out _).mono ?_; rintro e w1 ⟨rfl, hB⟩; obtain ⟨e0, e1, e2, e3, e4, e5⟩ := box6 hB)
      go_ret
      rw [HX.out]
      exact ⟨rfl, below_then (below_alloc (Below.refl _ _) _) hB⟩
    have h5 : 3 < typ := by omega
    clear hbad h1
    go_enter Tryd.func16, Tryd.ntmps16
    go_wp2_with (go_at_call 40; refine (HL.out _).mono ?_; rintro e w1 ⟨rfl, hB⟩; obtain ⟨e0, e1, e2, e3, e4, e5⟩ := box6 hB)
    go_ret
    rw [HX.out]
    exact ⟨rfl, below_then (below_alloc (Below.refl _ _) _) hB⟩
  have h1 : kd ≠ 0 := by omega
  have h2 : 0 ≤ mods := by omega
  have h3 : mods ≤ 255 := by omega
  have h4 : 1 ≤ typ := by omega
  have h5 : typ ≤ 3 := by omega
  have d1 : (kd == 0) = false := by simpa using h1
  rw [decide_eq_true h2, decide_eq_true h3, decide_eq_true h4, decide_eq_true h5, show (kd != 0) = true from by simpa using h1] at hX
  simp only [Bool.and_true] at hX
  unfold textB at hX
  clear hbad h1
  obtain ⟨bs, hbs⟩ : ∃ b, ((lookD sh).kind == 1) = b := ⟨_, rfl⟩
  obtain ⟨bb, hbb⟩ : ∃ b, ((lookD base).kind == 1) = b := ⟨_, rfl⟩
  obtain ⟨bc, hbc⟩ : ∃ b, cleanL text = b := ⟨_, rfl⟩
  rw [hbs, hbb, hbc] at hX
  rw [hbs] at HTs
  rw [hbb] at HTb
  rw [hbc] at HC
  have HX := Lib.hid hX
  clear hX hbs hbb hbc
  by_cases hs0 : sh = 0
  · subst hs0
    by_cases hb0 : base = 0
    · subst hb0
      go_enter Tryd.func16, Tryd.ntmps16
      go_wp2_with (first
        | (go_at_call 40; refine (HL.out _).mono ?_; rintro e w1 ⟨rfl, hB⟩; obtain ⟨e0, e1, e2, e3, e4, e5⟩ := box6 hB)
        | (go_at_call 42; refine (HC.out _).mono ?_; rintro e w2 ⟨rfl, hb2⟩; have hB := below_then hB hb2))
      go_ret
      rw [← HX.out]
      exact ⟨by simp, below_then (below_alloc (Below.refl _ _) _) hB⟩
    · have db : (base == 0) = false := by simpa using hb0
      cases bb
      all_goals
        go_enter Tryd.func16, Tryd.ntmps16
        go_wp2_with (first
          | (go_at_call 40; refine (HL.out _).mono ?_; rintro e w1 ⟨rfl, hB⟩; obtain ⟨e0, e1, e2, e3, e4, e5⟩ := box6 hB)
          | (go_at_call 41; refine (HTb.out _).mono ?_; rintro e w1 ⟨rfl, hb2⟩; have hB := below_then hB hb2; obtain ⟨e0, e1, e2, e3, e4, e5⟩ := box6 hB)
          | (go_at_call 42; refine (HC.out _).mono ?_; rintro e w2 ⟨rfl, hb2⟩; have hB := below_then hB hb2))
        go_ret
        rw [← HX.out, db]
        exact ⟨by simp, below_then (below_alloc (Below.refl _ _) _) hB⟩
  have ds : (sh == 0) = false := by simpa using hs0
  cases bs
  · go_enter Tryd.func16, Tryd.ntmps16
    go_wp2_with (first
      | (go_at_call 40; refine (HL.out _).mono ?_; rintro e w1 ⟨rfl, hB⟩; obtain ⟨e0, e1, e2, e3, e4, e5⟩ := box6 hB)
      | (go_at_call 41; refine (HTs.out _).mono ?_; rintro e w1 ⟨rfl, hb2⟩; have hB := below_then hB hb2; obtain ⟨e0, e1, e2, e3, e4, e5⟩ := box6 hB)
      | (go_at_call 42; refine (HC.out _).mono ?_; rintro e w2 ⟨rfl, hb2⟩; have hB := below_then hB hb2))
    go_ret
    rw [← HX.out, ds]
    exact ⟨by simp, below_then (below_alloc (Below.refl _ _) _) hB⟩
  by_cases hb0 : base = 0
  · subst hb0
    go_enter Tryd.func16, Tryd.ntmps16
    go_wp2_with (first
      | (go_at_call 40; refine (HL.out _).mono ?_; rintro e w1 ⟨rfl, hB⟩; obtain ⟨e0, e1, e2, e3, e4, e5⟩ := box6 hB)
      | (go_at_call 41; refine (HTs.out _).mono ?_; rintro e w1 ⟨rfl, hb2⟩; have hB := below_then hB hb2; obtain ⟨e0, e1, e2, e3, e4, e5⟩ := box6 hB)
      | (go_at_call 42; refine (HC.out _).mono ?_; rintro e w2 ⟨rfl, hb2⟩; have hB := below_then hB hb2))
    go_ret
    rw [← HX.out, ds]
    exact ⟨by simp, below_then (below_alloc (Below.refl _ _) _) hB⟩
  · have db : (base == 0) = false := by simpa using hb0
    cases bb
    all_goals
      go_enter Tryd.func16, Tryd.ntmps16
      go_wp2_with (first
        | (go_at_call 40; refine (HL.out _).mono ?_; rintro e w1 ⟨rfl, hB⟩; obtain ⟨e0, e1, e2, e3, e4, e5⟩ := box6 hB)
        | ((with_reducible refine (HTs.out _).mono ?_); rintro e w1 ⟨rfl, hb2⟩; have hB := below_then hB hb2; obtain ⟨e0, e1, e2, e3, e4, e5⟩ := box6 hB)
        | ((with_reducible refine (HTb.out _).mono ?_); rintro e w1 ⟨rfl, hb2⟩; have hB := below_then hB hb2; obtain ⟨e0, e1, e2, e3, e4, e5⟩ := box6 hB)
        | (go_at_call 42; refine (HC.out _).mono ?_; rintro e w2 ⟨rfl, hb2⟩; have hB := below_then hB hb2))
      go_ret
      rw [← HX.out, ds, db]
      exact ⟨by simp, below_then (below_alloc (Below.refl _ _) _) hB⟩
end Go.Proofs.YtieppcjpbjefkaaDoor

/- Contracts of the reference of legacy keys: Shown, Fold. -/
namespace Go.Proofs.YtieppcjpbjefkaaDoor
open Go.RowKit Go.Proofs Go.Shelf

set_option maxRecDepth 100000 in
set_option maxHeartbeats 4000000 in
theorem ref_Shown (k : KeyD) (w : World) (hk : k.wf) : Calls Tryd.prog 20 #[k.v] w (IntIs w (shownL k)) := by
  obtain ⟨⟨c0, c1⟩, hm, -, ⟨s0, s1⟩, -⟩ := hk
  obtain ⟨code, mods, typ, sh, base, text⟩ := k
  unfold KeyD.v
  simp only at *
  have hH := fun W => ref_Has mods 1 W hm (by simp)
  obtain ⟨X, hX⟩ : ∃ X, shownL ⟨code, mods, typ, sh, base, text⟩ = X := ⟨_, rfl⟩
  rw [hX]
  simp only [shownL] at hX
  obtain ⟨b, hb⟩ : ∃ b, hasB mods 1 = b := ⟨_, rfl⟩
  have hb1 : b = false ↔ max mods 0 % 2 = 0 := by
    rw [← hb, hasB, Int.ediv_one, decide_eq_false_iff_not]
    omega
  rw [hb] at hH
  have HH := Lib.hid hH
  clear hH hb
  cases b
  · rw [if_pos (hb1.1 rfl)] at hX
    have HX := Lib.hid hX
    clear hX hb1
    go_enter Tryd.func20, Tryd.ntmps20
    go_wp2_with (go_at_call 51; refine (HH.out _).mono ?_; rintro e w1 ⟨rfl, rfl⟩)
    go_ret
    rw [HX.out]
    exact ⟨rfl, below_alloc (Below.refl _ _) _⟩
  rw [if_neg (fun h => by cases hb1.2 h)] at hX
  clear hb1
  by_cases h2 : sh = 0
  · rw [if_neg (by simpa using h2)] at hX
    by_cases h3 : 97 ≤ code ∧ code ≤ 122
    · rw [if_pos h3] at hX
      have HX := Lib.hid hX
      obtain ⟨h3, h4⟩ := h3
      subst h2
      clear hX
      go_enter Tryd.func20, Tryd.ntmps20
      go_wp2_with (go_at_call 51; refine (HH.out _).mono ?_; rintro e w1 ⟨rfl, rfl⟩)
      go_ret
      rw [← HX.out]
      exact ⟨rfl, below_alloc (Below.refl _ _) _⟩
    · rw [if_neg h3] at hX
      have HX := Lib.hid hX
      have h3 : code < 97 ∨ 122 < code := by omega
      subst h2
      clear hX
      rcases h3 with h3 | h3
      all_goals
        go_enter Tryd.func20, Tryd.ntmps20
        go_wp2_with (go_at_call 51; refine (HH.out _).mono ?_; rintro e w1 ⟨rfl, rfl⟩)
        go_ret
        rw [HX.out]
        exact ⟨rfl, below_alloc (Below.refl _ _) _⟩
  · rw [if_pos h2] at hX
    have d2 : (sh != 0) = true := by simpa using h2
    have HX := Lib.hid hX
    clear hX h2
    go_enter Tryd.func20, Tryd.ntmps20
    go_wp2_with (go_at_call 51; refine (HH.out _).mono ?_; rintro e w1 ⟨rfl, rfl⟩)
    go_ret
    rw [HX.out]
    exact ⟨rfl, below_alloc (Below.refl _ _) _⟩

def FoldIs (w : World) (x : Int × Bool) (e : Ending) (w' : World) : Prop := e = .returned (.tuple #[.int .i64 x.1, .bool x.2]) ∧ Below w.heap.size w w'
theorem fold_none (c : Int) (h1 : ¬ (97 ≤ c ∧ c ≤ 122)) (h2 : ¬ (65 ≤ c ∧ c ≤ 90)) (h : foldsE.all (fun x => x.1 != c) = true) : foldL c = (0, false) := by
  unfold foldL
  rw [if_neg h1, if_neg h2, List.find?_eq_none.2 (fun x hx => by have := List.all_eq_true.1 h x hx; simpa using this)]

set_option maxRecDepth 100000 in
set_option maxHeartbeats 4000000 in
theorem ref_Fold (c : Int) (w : World) (hc : i64r c) : Calls Tryd.prog 19 #[.int .i64 c] w (FoldIs w (foldL c)) := by
  obtain ⟨c0, c1⟩ := hc
  by_cases h : c = 32 ∨ c = 50 ∨ c = 64 ∨ c = 91 ∨ c = 92 ∨ c = 93 ∨ c = 94 ∨ c = 95 ∨ c = 51 ∨ c = 52 ∨ c = 53 ∨ c = 54 ∨ c = 55 ∨ c = 47 ∨ c = 56 ∨ c = 63 ∨ c = 48 ∨ c = 49
  · obtain ⟨f, hf⟩ : ∃ f, foldL = f := ⟨_, rfl⟩
    rw [hf]
    have HF := Lib.hid hf
    clear hf c0 c1
    rcases h with rfl | rfl | rfl | rfl | rfl | rfl | rfl | rfl | rfl | rfl | rfl | rfl | rfl | rfl | rfl | rfl | rfl | rfl
    all_goals
      go_enter Tryd.func19, Tryd.ntmps19
      go_wp2
      go_ret2
      rw [← HF.out]
      exact ⟨rfl, Below.refl _ _⟩
  have q1 : (c == 32) = false := by rw [beq_eq_false_iff_ne]; omega
  have q2 : (c == 50) = false := by rw [beq_eq_false_iff_ne]; omega
  have q3 : (c == 64) = false := by rw [beq_eq_false_iff_ne]; omega
  have q4 : (c == 47) = false := by rw [beq_eq_false_iff_ne]; omega
  have q5 : (c == 56) = false := by rw [beq_eq_false_iff_ne]; omega
  have q6 : (c == 63) = false := by rw [beq_eq_false_iff_ne]; omega
  by_cases ha : 97 ≤ c ∧ c ≤ 122
  · have HF := Lib.hid (show foldL c = (c - 96, true) from by rw [foldL, if_pos ha])
    obtain ⟨h1, h2⟩ := ha
    clear h
    obtain ⟨f, hf⟩ : ∃ f, foldL c = f := ⟨_, rfl⟩
    rw [hf] at HF ⊢
    clear hf
    go_enter Tryd.func19, Tryd.ntmps19
    go_wp2
    go_ret2
    rw [HF.out]
    exact ⟨rfl, Below.refl _ _⟩
  by_cases hb : 65 ≤ c ∧ c ≤ 90
  · have HF := Lib.hid (show foldL c = (c - 64, true) from by rw [foldL, if_neg ha, if_pos hb])
    obtain ⟨h1, h2⟩ := hb
    clear h ha
    obtain ⟨f, hf⟩ : ∃ f, foldL c = f := ⟨_, rfl⟩
    rw [hf] at HF ⊢
    clear hf
    go_enter Tryd.func19, Tryd.ntmps19
    go_wp2
    go_ret2
    rw [HF.out]
    exact ⟨rfl, Below.refl _ _⟩
  have HF := Lib.hid (fold_none c ha hb (by simp [foldsE]; omega))
  have hr : c < 32 ∨ (33 ≤ c ∧ c ≤ 46) ∨ (57 ≤ c ∧ c ≤ 62) ∨ c = 96 ∨ 122 < c := by omega
  obtain ⟨f, hf⟩ : ∃ f, foldL c = f := ⟨_, rfl⟩
  rw [hf] at HF ⊢
  clear hf h ha hb
  rcases hr with h | ⟨h, h2⟩ | ⟨h, h2⟩ | h | h
  case inr.inr.inr.inl =>
    subst h
    go_enter Tryd.func19, Tryd.ntmps19
    go_wp2
    go_ret2
    rw [HF.out]
    exact ⟨rfl, Below.refl _ _⟩
  all_goals
    go_enter Tryd.func19, Tryd.ntmps19
    go_wp2
    go_ret2
    rw [HF.out]
    exact ⟨rfl, Below.refl _ _⟩
end Go.Proofs.YtieppcjpbjefkaaDoor

/- The laws of package 11: awake. -/
namespace Go.Proofs.YtieppcjpbjefkaaDoor
open Go.RowKit Go.Proofs Go.Shelf

def noM : ModesD := ⟨false, false, false, false, false, false, false, 0, 0, 0⟩
def curM : ModesD := ⟨true, false, false, false, false, false, false, 0, 0, 0⟩
theorem awake_a : legacyL noM ⟨99, 4, 1, 0, 0, []⟩ = [3] := by decide +kernel
theorem awake_b : legacyL curM ⟨57352, 0, 1, 0, 0, []⟩ = [27, 79, 65] := by decide +kernel
theorem awake_c : legacyL curM ⟨57352, 1, 1, 0, 0, []⟩ = [27, 91, 49, 59, 50, 65] := by decide +kernel

set_option maxRecDepth 100000 in
set_option maxHeartbeats 4000000 in
theorem law11_awake (w : World) (htab : TabOk w) : Calls Tryd.prog 15 #[] w (BoolIs w true) := by
  have ka := fun W (hW : Below w.heap.size w W) => awake_a ▸ legacy_Key noM ⟨99, 4, 1, 0, 0, []⟩ W ⟨by simp [i64r], by simp [i64r], by simp [i64r], by simp [i64r], by simp [i64r]⟩ (by simp) (htab.later hW)
  have kb := fun W (hW : Below w.heap.size w W) => awake_b ▸ legacy_Key curM ⟨57352, 0, 1, 0, 0, []⟩ W ⟨by simp [i64r], by simp [i64r], by simp [i64r], by simp [i64r], by simp [i64r]⟩ (by simp) (htab.later hW)
  have kc := fun W (hW : Below w.heap.size w W) => awake_c ▸ legacy_Key curM ⟨57352, 1, 1, 0, 0, []⟩ W ⟨by simp [i64r], by simp [i64r], by simp [i64r], by simp [i64r], by simp [i64r]⟩ (by simp) (htab.later hW)
  unfold ModesD.v KeyD.v noM curM BytesRet at *
  simp only at ka kb kc
  have KA := Lib.hid ka
  have KB := Lib.hid kb
  have KC := Lib.hid kc
  clear ka kb kc htab
  have hB := Below.refl w.heap.size w
  go_enter Tryd.func15, Tryd.ntmps15
  go_wp2_with (first
    | ((with_reducible refine (KA.out _ hB).mono ?_); rintro e w1 ⟨v1, rfl, hv1, hb1⟩; have hB := below_then hB hb1)
    | ((with_reducible refine (KB.out _ hB).mono ?_); rintro e w2 ⟨v2, rfl, hv2, hb2⟩; replace hv1 := hv1.later hb2; have hB := below_then hB hb2)
    | ((with_reducible refine (KC.out _ hB).mono ?_); rintro e w3 ⟨v3, rfl, hv3, hb3⟩; have s1 := str_of (hv1.later hb3); have s2 := str_of (hv2.later hb3); have s3 := str_of hv3; have hB := below_then hB hb3))
  go_ret
  exact ⟨rfl, hB⟩
end Go.Proofs.YtieppcjpbjefkaaDoor

/- The law of Alt, in plain words. -/
namespace Go.Proofs.YtieppcjpbjefkaaDoor
open Go.RowKit Go.Proofs

def KeyD.with (k : KeyD) (m : Int) : KeyD := { k with mods := m }
def cutAlt (m : Int) : Int := m - m / 2 % 2 * 2
theorem alt_bits (m : Int) (h0 : 0 ≤ m) (h1 : m ≤ 255) : hasB (cutAlt m) 2 = false ∧ hasB (cutAlt m + 2) 2 = true ∧ hasB (cutAlt m + 2) 1 = hasB (cutAlt m) 1 ∧ hasB (cutAlt m + 2) 4 = hasB (cutAlt m) 4 ∧
    max (cutAlt m + 2) 0 % 2 = max (cutAlt m) 0 % 2 ∧ 0 ≤ cutAlt m ∧ cutAlt m + 2 ≤ 255 := by
  have h : ∀ k : Fin 256, hasB (cutAlt (k.val : Int)) 2 = false ∧ hasB (cutAlt (k.val : Int) + 2) 2 = true ∧ hasB (cutAlt (k.val : Int) + 2) 1 = hasB (cutAlt (k.val : Int)) 1 ∧ hasB (cutAlt (k.val : Int) + 2) 4 = hasB (cutAlt (k.val : Int)) 4 ∧
    max (cutAlt (k.val : Int) + 2) 0 % 2 = max (cutAlt (k.val : Int)) 0 % 2 ∧ 0 ≤ cutAlt (k.val : Int) ∧ cutAlt (k.val : Int) + 2 ≤ 255 := by decide +kernel
  have := h ⟨m.toNat, by omega⟩
  simpa only [Int.toNat_of_nonneg h0] using this

theorem mayK_with (k : KeyD) (m : Int) (h : mayK k = true) (h0 : 0 ≤ m) (h1 : m ≤ 255) : mayK (k.with m) = true := by
  unfold mayK KeyD.with at *
  simp only [Bool.and_eq_true, decide_eq_true_eq] at *
  obtain ⟨a, b, c, d, e, f⟩ := h
  exact ⟨a, b, c, ⟨h0, h1⟩, e, f⟩
theorem kind1_put (c : Int) (h : (lookD c).kind = 1) : putL c ≠ [] := by
  unfold lookD at h
  split at h
  · rename_i x hx
    exact absurd h ((by decide +kernel : ∀ x ∈ pairsD, x.2.kind ≠ 1) x (List.mem_of_find?_eq_some hx))
  · split at h
    · simp [zeroE] at h
    · rename_i h2
      exact fun h3 => h2 (.inr (.inr (.inr h3)))
theorem put_letter (c : Int) (h0 : 65 ≤ c) (h1 : c ≤ 90) : putL c ≠ [] := by
  have : ∀ k : Fin 26, putL (65 + (k.val : Int)) ≠ [] := by decide +kernel
  have := this ⟨(c - 65).toNat, by omega⟩
  have e : 65 + (((c - 65).toNat : Nat) : Int) = c := by omega
  simpa only [e] using this
theorem shown_put (k : KeyD) (h : mayK k = true) (hk : (lookD k.code).kind = 1) : putL (shownL k) ≠ [] := by
  unfold mayK textB at h
  simp only [Bool.and_eq_true, Bool.or_eq_true, beq_iff_eq] at h
  obtain ⟨_, hs, _⟩ := h
  unfold shownL
  split
  · exact kind1_put _ hk
  · split
    · rename_i h2
      exact kind1_put _ (hs.resolve_left h2)
    · split
      · rename_i h3
        exact put_letter _ (by omega) (by omega)
      · exact kind1_put _ hk
theorem textRaw_some (k : KeyD) (h : mayK k = true) (hk : (lookD k.code).kind = 1) : textRaw k ≠ [] := by
  unfold textRaw
  split
  · rename_i h1; exact h1.2
  · split
    · simp
    · unfold toU8
      simpa using shown_put k h hk
theorem plainRaw_some (m : ModesD) (k : KeyD) : plainRaw m k ≠ [] := by
  unfold plainRaw
  split
  · decide +kernel
  · repeat' split
    all_goals simp
theorem textRaw_len (k : KeyD) : (textRaw k).length ≤ k.text.length + 4 := by
  unfold textRaw
  split
  · omega
  · split
    · simp
    · have := putL_length (shownL k)
      unfold toU8
      rw [List.length_map]
      omega
theorem plainRaw_len (m : ModesD) (k : KeyD) : (plainRaw m k).length ≤ 3 := by
  unfold plainRaw
  split
  · decide +kernel
  · repeat' split
    all_goals simp
theorem ahead_len (m : Int) (l : List UInt8) : (aheadL m l).length ≤ l.length + 1 := by
  unfold aheadL
  split <;> simp
theorem legacy_len (m : ModesD) (k : KeyD) (hk : (lookD k.code).kind = 1 ∨ (lookD k.code).kind = 2) : (legacyL m k).length ≤ k.text.length + 5 := by
  unfold legacyL
  split
  · rcases hk with hk | hk
    · simp only [hk, if_true]
      have h1 := ahead_len k.mods (textRaw k)
      have h2 := textRaw_len k
      unfold textL2
      omega
    · simp only [hk, if_true, (by decide : ((2 : Int) = 1) = False), if_false]
      have h1 := ahead_len k.mods (plainRaw m k)
      have h2 := plainRaw_len m k
      unfold plainL2
      omega
  · simp
theorem alt_law (m : ModesD) (k : KeyD) (h : mayK k = true) (ht : k.typ ≠ 3) (hk : (lookD k.code).kind = 1 ∨ (lookD k.code).kind = 2) :
    legacyL m (k.with (cutAlt k.mods + 2)) = 27 :: legacyL m (k.with (cutAlt k.mods)) ∧ legacyL m (k.with (cutAlt k.mods)) ≠ [] := by
  have hm : 0 ≤ k.mods ∧ k.mods ≤ 255 := by
    unfold mayK at h
    simp only [Bool.and_eq_true, decide_eq_true_eq] at h
    exact h.2.2.2.1
  obtain ⟨b1, b2, b3, b4, b5, b6, b7⟩ := alt_bits k.mods hm.1 hm.2
  have m1 := mayK_with k (cutAlt k.mods) h b6 (by omega)
  have m2 := mayK_with k (cutAlt k.mods + 2) h (by omega) b7
  obtain ⟨x, hx⟩ : ∃ x, cutAlt k.mods = x := ⟨_, rfl⟩
  rw [hx] at b1 b2 b3 b4 b5 b6 b7 m1 m2 ⊢
  unfold legacyL
  rw [m1, m2]
  have hc : ∀ y, (k.with y).code = k.code ∧ (k.with y).typ = k.typ ∧ (k.with y).mods = y ∧ (k.with y).text = k.text ∧ (k.with y).shifted = k.shifted := fun y => ⟨rfl, rfl, rfl, rfl, rfl⟩
  simp only [(hc _).1, (hc _).2.1]
  have hT : (True ∧ k.typ ≠ 3) = True := by simp [ht]
  simp only [hT, if_true]
  rcases hk with hk | hk
  · simp only [hk, if_true]
    have hr : textRaw (k.with (x + 2)) = textRaw (k.with x) := by
      have hs : shownL (k.with (x + 2)) = shownL (k.with x) := by
        unfold shownL
        simp only [(hc _).1, (hc _).2.2.1, (hc _).2.2.2.2, b5]
      unfold textRaw
      simp only [hs, (hc _).2.2.1, (hc _).2.2.2.1, b4]
    unfold textL2 aheadL
    rw [hr]
    simp only [(hc _).2.2.1, b1, b2, if_true]
    exact ⟨by simp, by simpa using textRaw_some _ m1 hk⟩
  · have hk1 : (lookD k.code).kind ≠ 1 := by omega
    simp only [hk, if_true, (by decide : ((2 : Int) = 1) = False), if_false]
    have hr : plainRaw m (k.with (x + 2)) = plainRaw m (k.with x) := by
      unfold plainRaw
      simp only [(hc _).1, (hc _).2.2.1, b3, b4]
    unfold plainL2 aheadL
    rw [hr]
    simp only [(hc _).2.2.1, b1, b2, if_true]
    exact ⟨by simp, by simpa using plainRaw_some _ _⟩
end Go.Proofs.YtieppcjpbjefkaaDoor

/- Keys and modes in variables. -/
namespace Go.Proofs.YtieppcjpbjefkaaDoor
open Go.RowKit Go.Proofs Go.Shelf

def KBoxed (W : World) (b : Nat) (k : KeyD) : Prop := W.heap[b]? = some (.cells #[.int .i64 k.code, .int .i64 k.mods, .int .i64 k.typ, .int .i64 k.shifted, .int .i64 k.base, .string ⟨k.text.toArray⟩] 25 (0, 0))
theorem KBoxed.facts {W : World} {b : Nat} {k : KeyD} (h : KBoxed W b k) : (W.cell? ⟨b, 0, none⟩ = some (.int .i64 k.code) ∧ W.cell? ⟨b, 1, none⟩ = some (.int .i64 k.mods) ∧ W.cell? ⟨b, 2, none⟩ = some (.int .i64 k.typ) ∧ W.cell? ⟨b, 3, none⟩ = some (.int .i64 k.shifted) ∧
    W.cell? ⟨b, 4, none⟩ = some (.int .i64 k.base) ∧ W.cell? ⟨b, 5, none⟩ = some (.string ⟨k.text.toArray⟩)) ∧ ∀ o, W.frozen? ⟨b, o, none⟩ = false := by
  refine ⟨⟨?_, ?_, ?_, ?_, ?_, ?_⟩, fun o => by simp [World.frozen?, show W.heap[b]? = _ from h]⟩
  · simpa using cell_of_heap h 0
  · simpa using cell_of_heap h 1
  · simpa using cell_of_heap h 2
  · simpa using cell_of_heap h 3
  · simpa using cell_of_heap h 4
  · simpa using cell_of_heap h 5
theorem KBoxed.lt {W : World} {b : Nat} {k : KeyD} (h : KBoxed W b k) : b < W.heap.size := (Array.getElem?_eq_some_iff.1 h).1
theorem KBoxed.later {W W' : World} {b : Nat} {k : KeyD} (h : KBoxed W b k) (hb : Below W.heap.size W W') : KBoxed W' b k := (hb.block b h.lt).trans h
theorem KBoxed.past {W : World} {b : Nat} {k : KeyD} (h : KBoxed W b k) (o : Obj) : KBoxed (W.alloc o) b k := (heap_past _ _ _ h.lt).trans h
theorem KBoxed.drew {W : World} {b : Nat} {k : KeyD} (h : KBoxed W b k) : KBoxed W.drew b k := h
theorem KBoxed.mods {W : World} {b : Nat} {k : KeyD} (h : KBoxed W b k) (m : Int) : KBoxed (W.setCell ⟨b, 1, none⟩ (.int .i64 m)) b (k.with m) := (blk_set h 1 _).trans (by simp [KeyD.with])
theorem KBoxed.new (W : World) (k : KeyD) : KBoxed (W.alloc (.cells #[.int .i64 k.code, .int .i64 k.mods, .int .i64 k.typ, .int .i64 k.shifted, .int .i64 k.base, .string ⟨k.text.toArray⟩] 25)) W.heap.size k := heap_at _ _ _ rfl

theorem BytesR.set_int {w : World} {b i : Nat} {x : Int} {v : Value} {l : List UInt8} (h : BytesR w v l) (hc : w.cell? ⟨b, i, none⟩ = some (.int .i64 x)) (u : Value) : BytesR (w.setCell ⟨b, i, none⟩ u) v l := by
  obtain ⟨p, c, rfl, h1, h3⟩ := h
  refine ⟨p, c, rfl, h1, h3.imp id ?_⟩
  rintro ⟨g, o, rfl, hcl⟩
  refine ⟨g, o, rfl, fun j y hy => ?_⟩
  have h4 := hcl j y hy
  rw [World.cell?_setCell_other]
  · exact h4
  · intro e
    rw [e, h4] at hc
    cases hc
def MBoxed (W : World) (b : Nat) (m : ModesD) : Prop := W.heap[b]? = some (.cells #[.bool m.cursor, .bool m.keypad, .bool m.back, .bool m.focus, .bool m.paste, .bool m.lock, .bool m.line, .int .i64 m.mouse, .int .i64 m.coding, .int .i64 m.other] 23 (0, 0))
theorem MBoxed.facts {W : World} {b : Nat} {m : ModesD} (h : MBoxed W b m) : W.cell? ⟨b, 0, none⟩ = some (.bool m.cursor) ∧ W.cell? ⟨b, 1, none⟩ = some (.bool m.keypad) ∧ W.cell? ⟨b, 2, none⟩ = some (.bool m.back) ∧ W.cell? ⟨b, 3, none⟩ = some (.bool m.focus) ∧
    W.cell? ⟨b, 4, none⟩ = some (.bool m.paste) ∧ W.cell? ⟨b, 5, none⟩ = some (.bool m.lock) ∧ W.cell? ⟨b, 6, none⟩ = some (.bool m.line) ∧ W.cell? ⟨b, 7, none⟩ = some (.int .i64 m.mouse) ∧ W.cell? ⟨b, 8, none⟩ = some (.int .i64 m.coding) ∧ W.cell? ⟨b, 9, none⟩ = some (.int .i64 m.other) := by
  refine ⟨?_, ?_, ?_, ?_, ?_, ?_, ?_, ?_, ?_, ?_⟩
  · simpa using cell_of_heap h 0
  · simpa using cell_of_heap h 1
  · simpa using cell_of_heap h 2
  · simpa using cell_of_heap h 3
  · simpa using cell_of_heap h 4
  · simpa using cell_of_heap h 5
  · simpa using cell_of_heap h 6
  · simpa using cell_of_heap h 7
  · simpa using cell_of_heap h 8
  · simpa using cell_of_heap h 9
theorem MBoxed.lt {W : World} {b : Nat} {m : ModesD} (h : MBoxed W b m) : b < W.heap.size := (Array.getElem?_eq_some_iff.1 h).1
theorem MBoxed.later {W W' : World} {b : Nat} {m : ModesD} (h : MBoxed W b m) (hb : Below W.heap.size W W') : MBoxed W' b m := (hb.block b h.lt).trans h
theorem MBoxed.past {W : World} {b : Nat} {m : ModesD} (h : MBoxed W b m) (o : Obj) : MBoxed (W.alloc o) b m := (heap_past _ _ _ h.lt).trans h
theorem MBoxed.set {W : World} {b i o : Nat} {m : ModesD} (h : MBoxed W b m) (v : Value) (hi : i ≠ b) : MBoxed (W.setCell ⟨i, o, none⟩ v) b m := by
  unfold MBoxed at *
  rw [← h]
  simp only [World.setCell, Array.getElem?_modify]
  rw [if_neg hi]
theorem MBoxed.new (W : World) (m : ModesD) : MBoxed (W.alloc (.cells #[.bool m.cursor, .bool m.keypad, .bool m.back, .bool m.focus, .bool m.paste, .bool m.lock, .bool m.line, .int .i64 m.mouse, .int .i64 m.coding, .int .i64 m.other] 23)) W.heap.size m := heap_at _ _ _ rfl

theorem KBoxed.set_typ {W : World} {b : Nat} {k : KeyD} (h : KBoxed W b k) (x : Int) : KBoxed (W.setCell ⟨b, 2, none⟩ (.int .i64 x)) b { k with typ := x } := (blk_set h 2 _).trans (by simp)
theorem KBoxed.set_mods {W : World} {b : Nat} {k : KeyD} (h : KBoxed W b k) (x : Int) : KBoxed (W.setCell ⟨b, 1, none⟩ (.int .i64 x)) b { k with mods := x } := (blk_set h 1 _).trans (by simp)
theorem KBoxed.set_text {W : World} {b : Nat} {k : KeyD} (h : KBoxed W b k) (x : List UInt8) : KBoxed (W.setCell ⟨b, 5, none⟩ (.string ⟨x.toArray⟩)) b { k with text := x } := (blk_set h 5 _).trans (by simp)
theorem BytesR.set_at {w : World} {b i : Nat} {y : Value} {v : Value} {l : List UInt8} (h : BytesR w v l) (hc : w.cell? ⟨b, i, none⟩ = some y) (hy : ∀ x : UInt8, y ≠ .int .u8 x.toNat) (u : Value) : BytesR (w.setCell ⟨b, i, none⟩ u) v l := by
  obtain ⟨p, c, rfl, h1, h3⟩ := h
  refine ⟨p, c, rfl, h1, h3.imp id ?_⟩
  rintro ⟨g, o, rfl, hcl⟩
  refine ⟨g, o, rfl, fun j x hx => ?_⟩
  have h4 := hcl j x hx
  rw [World.cell?_setCell_other]
  · exact h4
  · intro e
    rw [e, h4] at hc
    cases hc
    exact hy x rfl
end Go.Proofs.YtieppcjpbjefkaaDoor

/- The laws of package 11: LegacyAlt. -/
namespace Go.Proofs.YtieppcjpbjefkaaDoor
open Go.RowKit Go.Proofs Go.Shelf

set_option maxRecDepth 100000 in
set_option maxHeartbeats 4000000 in
theorem legacyAlt_not (m : ModesD) (k : KeyD) (w : World) (hk : k.wf) (ht : k.text.length ≤ 1000000000000) (htab : TabOk w) (h : mayK k = false ∨ k.typ = 3 ∨ ((lookD k.code).kind ≠ 1 ∧ (lookD k.code).kind ≠ 2)) :
    Calls Tryd.prog 3 #[m.v, k.v] w (BoolIs w true) := by
  obtain ⟨W0, hW0⟩ : ∃ W0, (w.alloc (.cells #[.bool m.cursor, .bool m.keypad, .bool m.back, .bool m.focus, .bool m.paste, .bool m.lock, .bool m.line, .int .i64 m.mouse, .int .i64 m.coding, .int .i64 m.other] 23)).alloc (.cells #[.int .i64 k.code, .int .i64 k.mods, .int .i64 k.typ, .int .i64 k.shifted, .int .i64 k.base, .string ⟨k.text.toArray⟩] 25) = W0 := ⟨_, rfl⟩
  have hB0 : Below w.heap.size w W0 := by rw [← hW0]; go_grown
  have kb : KBoxed W0 (w.heap.size + 1) k := by rw [← hW0]; exact heap_at _ _ _ (by simp)
  have HA := Lib.hid (law11_awake W0 (htab.later hB0))
  have HM := Lib.hid (fun W => ref_May k W hk ht)
  have HL := Lib.hid (fun W => show Calls Tryd.prog 17 #[.int .i64 k.code] W _ from keys_Look k.code W)
  unfold EntryIsD EntryIs at HL
  have KB := Lib.hid kb
  have HB0 := Lib.hid hB0
  have HTY := Lib.hid h
  obtain ⟨code, mods, typ, sh, base, text⟩ := k
  unfold KeyD.v ModesD.v at *
  unfold BoolIs at HA HM
  simp only at HA HM HL HTY
  obtain ⟨b, hb⟩ : ∃ b, mayK ⟨code, mods, typ, sh, base, text⟩ = b := ⟨_, rfl⟩
  rw [hb] at HM HTY
  clear hb h kb hB0 htab hk ht
  cases b
  · subst hW0
    go_enter Tryd.func3, Tryd.ntmps3
    go_wp2_with (first
      | (go_at_call 15; refine HA.out.mono ?_; rintro e w1 ⟨rfl, hb1⟩; have KB1 := Lib.hid (KB.out.later hb1); have hB := below_then HB0.out hb1; obtain ⟨⟨e0, e1, e2, e3, e4, e5⟩, ef⟩ := KB1.out.facts)
      | (go_at_call 16; refine (HM.out _).mono ?_; rintro e w2 ⟨rfl, hb2⟩; have KB2 := Lib.hid (KB1.out.later hb2); have hB := below_then hB hb2; obtain ⟨⟨e0, e1, e2, e3, e4, e5⟩, ef⟩ := KB2.out.facts))
    go_ret
    exact ⟨rfl, hB⟩
  by_cases h3 : typ = 3
  · subst h3 hW0
    go_enter Tryd.func3, Tryd.ntmps3
    go_wp2_with (first
      | (go_at_call 15; refine HA.out.mono ?_; rintro e w1 ⟨rfl, hb1⟩; have KB1 := Lib.hid (KB.out.later hb1); have hB := below_then HB0.out hb1; obtain ⟨⟨e0, e1, e2, e3, e4, e5⟩, ef⟩ := KB1.out.facts)
      | (go_at_call 16; refine (HM.out _).mono ?_; rintro e w2 ⟨rfl, hb2⟩; have KB2 := Lib.hid (KB1.out.later hb2); have hB := below_then hB hb2; obtain ⟨⟨e0, e1, e2, e3, e4, e5⟩, ef⟩ := KB2.out.facts))
    go_ret
    exact ⟨rfl, hB⟩
  have d3 : (typ == 3) = false := by simpa using h3
  have hn : (lookD code).kind ≠ 1 ∧ (lookD code).kind ≠ 2 := by rcases HTY.out with h | h | h; cases h; exact absurd h h3; exact h
  obtain ⟨E, hE⟩ : ∃ E, lookD code = E := ⟨_, rfl⟩
  rw [hE] at HL hn
  obtain ⟨kd, fin, num, chr, pad⟩ := E
  simp only at HL hn
  obtain ⟨n1, n2⟩ := hn
  have d1 : (kd != 1) = true := by simpa using n1
  have d2 : (kd != 2) = true := by simpa using n2
  clear HTY hE h3 n1 n2
  subst hW0
  go_enter Tryd.func3, Tryd.ntmps3
  go_wp2_with (first
    | (go_at_call 15; refine HA.out.mono ?_; rintro e w1 ⟨rfl, hb1⟩; have KB1 := Lib.hid (KB.out.later hb1); have hB := below_then HB0.out hb1; obtain ⟨⟨e0, e1, e2, e3, e4, e5⟩, ef⟩ := KB1.out.facts)
    | (go_at_call 16; refine (HM.out _).mono ?_; rintro e w2 ⟨rfl, hb2⟩; have KB2 := Lib.hid (KB1.out.later hb2); have hB := below_then hB hb2; obtain ⟨⟨e0, e1, e2, e3, e4, e5⟩, ef⟩ := KB2.out.facts)
    | (go_at_call 17; refine (HL.out _).mono ?_; rintro e w3 ⟨rfl, hb3⟩; have hB := below_then hB hb3))
  go_ret
  exact ⟨rfl, hB.alloc (by have := hB.size; omega) _⟩

set_option maxRecDepth 100000 in
set_option maxHeartbeats 4000000 in
theorem legacyAlt_main (m : ModesD) (k : KeyD) (w : World) (hk : k.wf) (ht : k.text.length ≤ 1000000000000) (htab : TabOk w) (h : mayK k = true) (h3 : k.typ ≠ 3) (hkd : (lookD k.code).kind = 1 ∨ (lookD k.code).kind = 2) :
    Calls Tryd.prog 3 #[m.v, k.v] w (BoolIs w true) := by
  obtain ⟨W0, hW0⟩ : ∃ W0, (w.alloc (.cells #[.bool m.cursor, .bool m.keypad, .bool m.back, .bool m.focus, .bool m.paste, .bool m.lock, .bool m.line, .int .i64 m.mouse, .int .i64 m.coding, .int .i64 m.other] 23)).alloc (.cells #[.int .i64 k.code, .int .i64 k.mods, .int .i64 k.typ, .int .i64 k.shifted, .int .i64 k.base, .string ⟨k.text.toArray⟩] 25) = W0 := ⟨_, rfl⟩
  have hB0 : Below w.heap.size w W0 := by rw [← hW0]; go_grown
  have kb : KBoxed W0 (w.heap.size + 1) k := by rw [← hW0]; exact heap_at _ _ _ (by simp)
  have mb : MBoxed W0 w.heap.size m := by rw [← hW0]; exact (MBoxed.new w m).past _
  have hm : 0 ≤ k.mods ∧ k.mods ≤ 255 := by
    unfold mayK at h
    simp only [Bool.and_eq_true, decide_eq_true_eq] at h
    exact h.2.2.2.1
  obtain ⟨b1, b2, b3, b4, b5, b6, b7⟩ := alt_bits k.mods hm.1 hm.2
  obtain ⟨hlaw, hne⟩ := alt_law m k h h3 hkd
  have hK0 := fun W hW => legacy_Key m (k.with (cutAlt k.mods)) W ⟨hk.code, by unfold i64r KeyD.with; simp only; omega, hk.typ, hk.shifted, hk.base⟩ ht (htab.later hW)
  have hK1 := fun W hW => legacy_Key m (k.with (cutAlt k.mods + 2)) W ⟨hk.code, by unfold i64r KeyD.with; simp only; omega, hk.typ, hk.shifted, hk.base⟩ ht (htab.later hW)
  rw [hlaw] at hK1
  obtain ⟨l, hl⟩ : ∃ l, legacyL m (k.with (cutAlt k.mods)) = l := ⟨_, rfl⟩
  have hll : 1 + l.length ≤ 9223372036854775807 := by
    have h1 := legacy_len m (k.with (cutAlt k.mods)) hkd
    rw [hl] at h1
    have h2 : (k.with (cutAlt k.mods)).text = k.text := rfl
    rw [h2] at h1
    omega
  rw [hl] at hK0 hK1 hne
  have HA := Lib.hid (law11_awake W0 (htab.later hB0))
  have HM := Lib.hid (fun W => h ▸ ref_May k W hk ht)
  have HL := Lib.hid (fun W => show Calls Tryd.prog 17 #[.int .i64 k.code] W _ from keys_Look k.code W)
  unfold EntryIsD EntryIs at HL
  have KB := Lib.hid kb
  have MB := Lib.hid mb
  have HB0 := Lib.hid hB0
  have hmd : k.mods - k.mods / 2 % 2 * 2 = cutAlt k.mods := rfl
  obtain ⟨code, mods, typ, sh, base, text⟩ := k
  unfold KeyD.v ModesD.v KeyD.with BytesRet at *
  unfold BoolIs at HA HM
  simp only at HA HM HL h3 hK0 hK1 hm b6 b7 hkd hmd
  have HK0 := Lib.hid hK0
  have HK1 := Lib.hid hK1
  obtain ⟨x, hx⟩ : ∃ x, cutAlt mods = x := ⟨_, rfl⟩
  rw [hx] at HK0 HK1 b6 b7 hmd
  obtain ⟨m0, m1⟩ := hm
  obtain ⟨E, hE⟩ : ∃ E, lookD code = E := ⟨_, rfl⟩
  rw [hE] at HL hkd
  obtain ⟨kd, fin, num, chr, pad⟩ := E
  simp only at HL hkd
  have d3 : (typ == 3) = false := by simpa using h3
  have hdk : ((kd != 1) && (kd != 2)) = false := by rcases hkd with rfl | rfl <;> rfl
  clear hK0 hK1 hlaw hl kb mb hB0 htab hk ht h b1 b2 b3 b4 b5 hx hE h3
  have hmm : 0 ≤ mods / 2 % 2 * 2 ∧ mods / 2 % 2 * 2 ≤ mods := by omega
  obtain ⟨hm3, hm4⟩ := hmm
  subst hW0
  have hmx : Tryd.prog.follows .mixedOrders = true := by kernel_rfl
  have hcat : (⟨#[27]⟩ : ByteArray) ++ ⟨l.toArray⟩ = ⟨(27 :: l).toArray⟩ := by apply ByteArray.ext; simp
  have hlen : 0 < l.length := List.length_pos_iff.2 hne
  rcases hkd with rfl | rfl
  · go_enter Tryd.func3, Tryd.ntmps3
    go_wp2_with (first
      | (go_at_call 15; refine HA.out.mono ?_; rintro e w1 ⟨rfl, hb1⟩; have KB1 := Lib.hid (KB.out.later hb1); have MB1 := Lib.hid (MB.out.later hb1); have hB := below_then HB0.out hb1; obtain ⟨⟨e0, e1, e2, e3, e4, e5⟩, ef⟩ := KB1.out.facts)
      | (go_at_call 16; refine (HM.out _).mono ?_; rintro e w2 ⟨rfl, hb2⟩; have KB2 := Lib.hid (KB1.out.later hb2); have MB2 := Lib.hid (MB1.out.later hb2); have hB := below_then hB hb2; obtain ⟨⟨e0, e1, e2, e3, e4, e5⟩, ef⟩ := KB2.out.facts)
      | (go_at_call 17; refine (HL.out _).mono ?_; rintro e w3 ⟨rfl, hb3⟩
         have KB3 := Lib.hid ((KB2.out.later hb3).past (.cells #[.int .i64 1, .int .u8 fin, .int .i64 num, .int .i64 chr, .bool pad] 29)); have MB3 := Lib.hid ((MB2.out.later hb3).past (.cells #[.int .i64 1, .int .u8 fin, .int .i64 num, .int .i64 chr, .bool pad] 29)); have hB := below_then hB hb3; have hB3 := hB.alloc (by have := hB.size; omega) (.cells #[.int .i64 1, .int .u8 fin, .int .i64 num, .int .i64 chr, .bool pad] 29)
         obtain ⟨⟨e0, e1, e2, e3, e4, e5⟩, ef⟩ := KB3.out.facts; obtain ⟨f0, f1, f2, f3, f4, f5, f6, f7, f8, f9⟩ := MB3.out.facts; simp only at e0 e1 e2 e3 e4 e5)
      | ((with_reducible refine (HK0.out _ (hB3.setCell (p := ⟨_, _, none⟩) (by simp) _)).mono ?_); rintro e w4 ⟨v4, rfl, hv4, hb4⟩
         have KB4 := Lib.hid ((KB3.out.mods x).later hb4); have MB4 := Lib.hid ((MB3.out.set (i := w.heap.size + 1) (o := 1) (.int .i64 x) (by omega)).later hb4); have hB := below_then (hB3.setCell (p := ⟨w.heap.size + 1, 1, none⟩) (by simp) (.int .i64 x)) hb4
         obtain ⟨⟨e0, e1, e2, e3, e4, e5⟩, ef⟩ := KB4.out.facts; obtain ⟨f0, f1, f2, f3, f4, f5, f6, f7, f8, f9⟩ := MB4.out.facts; simp only [KeyD.with] at e0 e1 e2 e3 e4 e5
         obtain ⟨p4, c4, rfl, hc4, hq4⟩ := hv4))
    have KB5 := Lib.hid (KB4.out.mods (x + 2))
    have MB5 := Lib.hid (MB4.out.set (i := w.heap.size + 1) (o := 1) (.int .i64 (x + 2)) (by omega))
    have HB5 := Lib.hid (hB.setCell (p := ⟨w.heap.size + 1, 1, none⟩) (by simp) (.int .i64 (x + 2)))
    have HV5 := Lib.hid (show BytesR (w4.setCell ⟨w.heap.size + 1, 1, none⟩ (.int .i64 (x + 2))) (.slice p4 l.length c4) l from (BytesR.set_int (show BytesR w4 (.slice p4 l.length c4) l from ⟨p4, c4, rfl, hc4, hq4⟩) e1 _))
    have HC := Lib.hid hcat
    refine wp_region_noPanic ?_
    refine wp_region_held_drew (S := fun W => Below (w4.setCell ⟨w.heap.size + 1, 1, none⟩ (.int .i64 (x + 2))).heap.size (w4.setCell ⟨w.heap.size + 1, 1, none⟩ (.int .i64 (x + 2))) W) hmx (below_drewN (Below.refl _ _) 1) (fun hHeld => ?_)
    refine takeH 0 46 (.bool true) ⟨_, rfl, rfl, by rfl, fun W hW => by go_simp⟩ (by kernel_rfl) (by kernel_rfl) (by kernel_rfl) (fun _ _ _ _ _ h => h) hHeld ?_
    simp only [List.setIfInBounds_toArray, List.set_cons_zero, List.set_cons_succ]
    refine takeH 1 47 (.bool true) ⟨_, rfl, rfl, by rfl, fun W hW => by go_simp⟩ (by kernel_rfl) (by kernel_rfl) (by kernel_rfl) (fun _ _ _ _ _ h => h) hHeld ?_
    simp only [List.setIfInBounds_toArray, List.set_cons_zero, List.set_cons_succ]
    refine takeH 2 48 (.agg #[.bool m.cursor, .bool m.keypad, .bool m.back, .bool m.focus, .bool m.paste, .bool m.lock, .bool m.line, .int .i64 m.mouse, .int .i64 m.coding, .int .i64 m.other]) ⟨_, rfl, rfl, by rfl, fun W hW => by obtain ⟨f0, f1, f2, f3, f4, f5, f6, f7, f8, f9⟩ := (MB5.out.later hW).facts; go_simp⟩ (by kernel_rfl) (by kernel_rfl) (by kernel_rfl) (fun _ _ _ _ _ h => h) hHeld ?_
    simp only [List.setIfInBounds_toArray, List.set_cons_zero, List.set_cons_succ]
    refine takeH 3 49 (.agg #[.int .i64 code, .int .i64 (x + 2), .int .i64 typ, .int .i64 sh, .int .i64 base, .string ⟨text.toArray⟩]) ⟨_, rfl, rfl, by rfl, fun W hW => by obtain ⟨⟨e0, e1, e2, e3, e4, e5⟩, ef⟩ := (KB5.out.later hW).facts; simp only [KeyD.with] at e0 e1 e2 e3 e4 e5; go_simp⟩ (by kernel_rfl) (by kernel_rfl) (by kernel_rfl) (fun _ _ _ _ _ h => h) hHeld ?_
    simp only [List.setIfInBounds_toArray, List.set_cons_zero, List.set_cons_succ]
    refine takeH 6 52 (.slice p4 l.length c4) ⟨_, rfl, rfl, by rfl, fun W hW => by go_simp⟩ (by kernel_rfl) (by kernel_rfl) (by kernel_rfl) (fun _ _ _ _ _ h => h) hHeld ?_
    simp only [List.setIfInBounds_toArray, List.set_cons_zero, List.set_cons_succ]
    refine takeH 7 53 (.string ⟨l.toArray⟩) ⟨_, rfl, rfl, by rfl, fun W hW => by have hx := str_of (HV5.out.later hW); go_simp⟩ (by kernel_rfl) (by kernel_rfl) (by kernel_rfl) (fun _ _ _ _ _ h => h) hHeld ?_
    simp only [List.setIfInBounds_toArray, List.set_cons_zero, List.set_cons_succ]
    refine takeH 8 54 (.string ⟨(27 :: l).toArray⟩) ⟨_, rfl, rfl, by rfl, fun W hW => by have hx := HC.out; go_simp⟩ (by kernel_rfl) (by kernel_rfl) (by kernel_rfl) (fun _ _ _ _ _ h => h) hHeld ?_
    simp only [List.setIfInBounds_toArray, List.set_cons_zero, List.set_cons_succ]
    refine callH 4 50 18 #[.agg #[.bool m.cursor, .bool m.keypad, .bool m.back, .bool m.focus, .bool m.paste, .bool m.lock, .bool m.line, .int .i64 m.mouse, .int .i64 m.coding, .int .i64 m.other], .agg #[.int .i64 code, .int .i64 (x + 2), .int .i64 typ, .int .i64 sh, .int .i64 base, .string ⟨text.toArray⟩]] ⟨_, rfl, rfl, by rfl, by go_simp⟩ (by kernel_rfl) (HK1.out _ (below_then (HB5.out) hHeld)) ?_
    rintro e w6 ⟨v6, rfl, hv6, hb6⟩
    refine ⟨_, rfl, below_then hHeld hb6, fun hHeld2 => ?_⟩
    simp only [List.setIfInBounds_toArray, List.set_cons_zero, List.set_cons_succ]
    refine stepH 5 51 (.string ⟨(27 :: l).toArray⟩) w6 ⟨_, rfl, rfl, by rfl, by have hx := str_of hv6; go_simp⟩ (by kernel_rfl) hHeld2 ?_
    simp only [List.setIfInBounds_toArray, List.set_cons_zero, List.set_cons_succ]
    refine takeH 9 55 (.bool true) ⟨_, rfl, rfl, by rfl, fun W hW => by go_simp⟩ (by kernel_rfl) (by kernel_rfl) (by kernel_rfl) (fun _ _ _ _ _ h => h) hHeld2 ?_
    simp only [List.setIfInBounds_toArray, List.set_cons_zero, List.set_cons_succ]
    refine takeH 10 56 (.bool true) ⟨_, rfl, rfl, by rfl, fun W hW => by go_simp⟩ (by kernel_rfl) (by kernel_rfl) (by kernel_rfl) (fun _ _ _ _ _ h => h) hHeld2 ?_
    simp only [List.setIfInBounds_toArray, List.set_cons_zero, List.set_cons_succ]
    refine takeH 11 57 (.bool true) ⟨_, rfl, rfl, by rfl, fun W hW => by go_simp⟩ (by kernel_rfl) (by kernel_rfl) (by kernel_rfl) (fun _ _ _ _ _ h => h) hHeld2 ?_
    simp only [List.setIfInBounds_toArray, List.set_cons_zero, List.set_cons_succ]
    refine takeH 12 58 (.slice p4 l.length c4) ⟨_, rfl, rfl, by rfl, fun W hW => by go_simp⟩ (by kernel_rfl) (by kernel_rfl) (by kernel_rfl) (fun _ _ _ _ _ h => h) hHeld2 ?_
    simp only [List.setIfInBounds_toArray, List.set_cons_zero, List.set_cons_succ]
    refine takeH 13 59 (.int .i64 (l.length : Int)) ⟨_, rfl, rfl, by rfl, fun W hW => by go_simp⟩ (by kernel_rfl) (by kernel_rfl) (by kernel_rfl) (fun _ _ _ _ _ h => h) hHeld2 ?_
    simp only [List.setIfInBounds_toArray, List.set_cons_zero, List.set_cons_succ]
    refine takeH 14 60 (.bool true) ⟨_, rfl, rfl, by rfl, fun W hW => by go_simp⟩ (by kernel_rfl) (by kernel_rfl) (by kernel_rfl) (fun _ _ _ _ _ h => h) hHeld2 ?_
    simp only [List.setIfInBounds_toArray, List.set_cons_zero, List.set_cons_succ]
    refine takeH 15 61 (.bool true) ⟨_, rfl, rfl, by rfl, fun W hW => by go_simp⟩ (by kernel_rfl) (by kernel_rfl) (by kernel_rfl) (fun _ _ _ _ _ h => h) hHeld2 ?_
    simp only [List.setIfInBounds_toArray, List.set_cons_zero, List.set_cons_succ]
    refine takeH 16 4 (.bool true) ⟨_, rfl, rfl, by rfl, fun W hW => by go_simp⟩ (by kernel_rfl) (by kernel_rfl) (by kernel_rfl) (fun _ _ _ _ _ h => h) hHeld2 ?_
    simp only [List.setIfInBounds_toArray, List.set_cons_zero, List.set_cons_succ]
    refine wpAnyH_done (by kernel_rfl) ?_ _
    refine NoPanic.normal ?_
    go_wp2
    go_ret
    exact ⟨rfl, below_then HB5.out hHeld2⟩

  · go_enter Tryd.func3, Tryd.ntmps3
    go_wp2_with (first
      | (go_at_call 15; refine HA.out.mono ?_; rintro e w1 ⟨rfl, hb1⟩; have KB1 := Lib.hid (KB.out.later hb1); have MB1 := Lib.hid (MB.out.later hb1); have hB := below_then HB0.out hb1; obtain ⟨⟨e0, e1, e2, e3, e4, e5⟩, ef⟩ := KB1.out.facts)
      | (go_at_call 16; refine (HM.out _).mono ?_; rintro e w2 ⟨rfl, hb2⟩; have KB2 := Lib.hid (KB1.out.later hb2); have MB2 := Lib.hid (MB1.out.later hb2); have hB := below_then hB hb2; obtain ⟨⟨e0, e1, e2, e3, e4, e5⟩, ef⟩ := KB2.out.facts)
      | (go_at_call 17; refine (HL.out _).mono ?_; rintro e w3 ⟨rfl, hb3⟩
         have KB3 := Lib.hid ((KB2.out.later hb3).past (.cells #[.int .i64 2, .int .u8 fin, .int .i64 num, .int .i64 chr, .bool pad] 29)); have MB3 := Lib.hid ((MB2.out.later hb3).past (.cells #[.int .i64 2, .int .u8 fin, .int .i64 num, .int .i64 chr, .bool pad] 29)); have hB := below_then hB hb3; have hB3 := hB.alloc (by have := hB.size; omega) (.cells #[.int .i64 2, .int .u8 fin, .int .i64 num, .int .i64 chr, .bool pad] 29)
         obtain ⟨⟨e0, e1, e2, e3, e4, e5⟩, ef⟩ := KB3.out.facts; obtain ⟨f0, f1, f2, f3, f4, f5, f6, f7, f8, f9⟩ := MB3.out.facts; simp only at e0 e1 e2 e3 e4 e5)
      | ((with_reducible refine (HK0.out _ (hB3.setCell (p := ⟨_, _, none⟩) (by simp) _)).mono ?_); rintro e w4 ⟨v4, rfl, hv4, hb4⟩
         have KB4 := Lib.hid ((KB3.out.mods x).later hb4); have MB4 := Lib.hid ((MB3.out.set (i := w.heap.size + 1) (o := 1) (.int .i64 x) (by omega)).later hb4); have hB := below_then (hB3.setCell (p := ⟨w.heap.size + 1, 1, none⟩) (by simp) (.int .i64 x)) hb4
         obtain ⟨⟨e0, e1, e2, e3, e4, e5⟩, ef⟩ := KB4.out.facts; obtain ⟨f0, f1, f2, f3, f4, f5, f6, f7, f8, f9⟩ := MB4.out.facts; simp only [KeyD.with] at e0 e1 e2 e3 e4 e5
         obtain ⟨p4, c4, rfl, hc4, hq4⟩ := hv4))
    have KB5 := Lib.hid (KB4.out.mods (x + 2))
    have MB5 := Lib.hid (MB4.out.set (i := w.heap.size + 1) (o := 1) (.int .i64 (x + 2)) (by omega))
    have HB5 := Lib.hid (hB.setCell (p := ⟨w.heap.size + 1, 1, none⟩) (by simp) (.int .i64 (x + 2)))
    have HV5 := Lib.hid (show BytesR (w4.setCell ⟨w.heap.size + 1, 1, none⟩ (.int .i64 (x + 2))) (.slice p4 l.length c4) l from (BytesR.set_int (show BytesR w4 (.slice p4 l.length c4) l from ⟨p4, c4, rfl, hc4, hq4⟩) e1 _))
    have HC := Lib.hid hcat
    refine wp_region_noPanic ?_
    refine wp_region_held_drew (S := fun W => Below (w4.setCell ⟨w.heap.size + 1, 1, none⟩ (.int .i64 (x + 2))).heap.size (w4.setCell ⟨w.heap.size + 1, 1, none⟩ (.int .i64 (x + 2))) W) hmx (below_drewN (Below.refl _ _) 1) (fun hHeld => ?_)
    refine takeH 0 46 (.bool true) ⟨_, rfl, rfl, by rfl, fun W hW => by go_simp⟩ (by kernel_rfl) (by kernel_rfl) (by kernel_rfl) (fun _ _ _ _ _ h => h) hHeld ?_
    simp only [List.setIfInBounds_toArray, List.set_cons_zero, List.set_cons_succ]
    refine takeH 1 47 (.bool true) ⟨_, rfl, rfl, by rfl, fun W hW => by go_simp⟩ (by kernel_rfl) (by kernel_rfl) (by kernel_rfl) (fun _ _ _ _ _ h => h) hHeld ?_
    simp only [List.setIfInBounds_toArray, List.set_cons_zero, List.set_cons_succ]
    refine takeH 2 48 (.agg #[.bool m.cursor, .bool m.keypad, .bool m.back, .bool m.focus, .bool m.paste, .bool m.lock, .bool m.line, .int .i64 m.mouse, .int .i64 m.coding, .int .i64 m.other]) ⟨_, rfl, rfl, by rfl, fun W hW => by obtain ⟨f0, f1, f2, f3, f4, f5, f6, f7, f8, f9⟩ := (MB5.out.later hW).facts; go_simp⟩ (by kernel_rfl) (by kernel_rfl) (by kernel_rfl) (fun _ _ _ _ _ h => h) hHeld ?_
    simp only [List.setIfInBounds_toArray, List.set_cons_zero, List.set_cons_succ]
    refine takeH 3 49 (.agg #[.int .i64 code, .int .i64 (x + 2), .int .i64 typ, .int .i64 sh, .int .i64 base, .string ⟨text.toArray⟩]) ⟨_, rfl, rfl, by rfl, fun W hW => by obtain ⟨⟨e0, e1, e2, e3, e4, e5⟩, ef⟩ := (KB5.out.later hW).facts; simp only [KeyD.with] at e0 e1 e2 e3 e4 e5; go_simp⟩ (by kernel_rfl) (by kernel_rfl) (by kernel_rfl) (fun _ _ _ _ _ h => h) hHeld ?_
    simp only [List.setIfInBounds_toArray, List.set_cons_zero, List.set_cons_succ]
    refine takeH 6 52 (.slice p4 l.length c4) ⟨_, rfl, rfl, by rfl, fun W hW => by go_simp⟩ (by kernel_rfl) (by kernel_rfl) (by kernel_rfl) (fun _ _ _ _ _ h => h) hHeld ?_
    simp only [List.setIfInBounds_toArray, List.set_cons_zero, List.set_cons_succ]
    refine takeH 7 53 (.string ⟨l.toArray⟩) ⟨_, rfl, rfl, by rfl, fun W hW => by have hx := str_of (HV5.out.later hW); go_simp⟩ (by kernel_rfl) (by kernel_rfl) (by kernel_rfl) (fun _ _ _ _ _ h => h) hHeld ?_
    simp only [List.setIfInBounds_toArray, List.set_cons_zero, List.set_cons_succ]
    refine takeH 8 54 (.string ⟨(27 :: l).toArray⟩) ⟨_, rfl, rfl, by rfl, fun W hW => by have hx := HC.out; go_simp⟩ (by kernel_rfl) (by kernel_rfl) (by kernel_rfl) (fun _ _ _ _ _ h => h) hHeld ?_
    simp only [List.setIfInBounds_toArray, List.set_cons_zero, List.set_cons_succ]
    refine callH 4 50 18 #[.agg #[.bool m.cursor, .bool m.keypad, .bool m.back, .bool m.focus, .bool m.paste, .bool m.lock, .bool m.line, .int .i64 m.mouse, .int .i64 m.coding, .int .i64 m.other], .agg #[.int .i64 code, .int .i64 (x + 2), .int .i64 typ, .int .i64 sh, .int .i64 base, .string ⟨text.toArray⟩]] ⟨_, rfl, rfl, by rfl, by go_simp⟩ (by kernel_rfl) (HK1.out _ (below_then (HB5.out) hHeld)) ?_
    rintro e w6 ⟨v6, rfl, hv6, hb6⟩
    refine ⟨_, rfl, below_then hHeld hb6, fun hHeld2 => ?_⟩
    simp only [List.setIfInBounds_toArray, List.set_cons_zero, List.set_cons_succ]
    refine stepH 5 51 (.string ⟨(27 :: l).toArray⟩) w6 ⟨_, rfl, rfl, by rfl, by have hx := str_of hv6; go_simp⟩ (by kernel_rfl) hHeld2 ?_
    simp only [List.setIfInBounds_toArray, List.set_cons_zero, List.set_cons_succ]
    refine takeH 9 55 (.bool true) ⟨_, rfl, rfl, by rfl, fun W hW => by go_simp⟩ (by kernel_rfl) (by kernel_rfl) (by kernel_rfl) (fun _ _ _ _ _ h => h) hHeld2 ?_
    simp only [List.setIfInBounds_toArray, List.set_cons_zero, List.set_cons_succ]
    refine takeH 10 56 (.bool true) ⟨_, rfl, rfl, by rfl, fun W hW => by go_simp⟩ (by kernel_rfl) (by kernel_rfl) (by kernel_rfl) (fun _ _ _ _ _ h => h) hHeld2 ?_
    simp only [List.setIfInBounds_toArray, List.set_cons_zero, List.set_cons_succ]
    refine takeH 11 57 (.bool true) ⟨_, rfl, rfl, by rfl, fun W hW => by go_simp⟩ (by kernel_rfl) (by kernel_rfl) (by kernel_rfl) (fun _ _ _ _ _ h => h) hHeld2 ?_
    simp only [List.setIfInBounds_toArray, List.set_cons_zero, List.set_cons_succ]
    refine takeH 12 58 (.slice p4 l.length c4) ⟨_, rfl, rfl, by rfl, fun W hW => by go_simp⟩ (by kernel_rfl) (by kernel_rfl) (by kernel_rfl) (fun _ _ _ _ _ h => h) hHeld2 ?_
    simp only [List.setIfInBounds_toArray, List.set_cons_zero, List.set_cons_succ]
    refine takeH 13 59 (.int .i64 (l.length : Int)) ⟨_, rfl, rfl, by rfl, fun W hW => by go_simp⟩ (by kernel_rfl) (by kernel_rfl) (by kernel_rfl) (fun _ _ _ _ _ h => h) hHeld2 ?_
    simp only [List.setIfInBounds_toArray, List.set_cons_zero, List.set_cons_succ]
    refine takeH 14 60 (.bool true) ⟨_, rfl, rfl, by rfl, fun W hW => by go_simp⟩ (by kernel_rfl) (by kernel_rfl) (by kernel_rfl) (fun _ _ _ _ _ h => h) hHeld2 ?_
    simp only [List.setIfInBounds_toArray, List.set_cons_zero, List.set_cons_succ]
    refine takeH 15 61 (.bool true) ⟨_, rfl, rfl, by rfl, fun W hW => by go_simp⟩ (by kernel_rfl) (by kernel_rfl) (by kernel_rfl) (fun _ _ _ _ _ h => h) hHeld2 ?_
    simp only [List.setIfInBounds_toArray, List.set_cons_zero, List.set_cons_succ]
    refine takeH 16 4 (.bool true) ⟨_, rfl, rfl, by rfl, fun W hW => by go_simp⟩ (by kernel_rfl) (by kernel_rfl) (by kernel_rfl) (fun _ _ _ _ _ h => h) hHeld2 ?_
    simp only [List.setIfInBounds_toArray, List.set_cons_zero, List.set_cons_succ]
    refine wpAnyH_done (by kernel_rfl) ?_ _
    refine NoPanic.normal ?_
    go_wp2
    go_ret
    exact ⟨rfl, below_then HB5.out hHeld2⟩


theorem legacyAlt (m : ModesD) (k : KeyD) (w : World) (hk : k.wf) (ht : k.text.length ≤ 1000000000000) (htab : TabOk w) : Calls Tryd.prog 3 #[m.v, k.v] w (BoolIs w true) := by
  by_cases h1 : mayK k = true
  · by_cases h2 : k.typ = 3
    · exact legacyAlt_not m k w hk ht htab (.inr (.inl h2))
    · by_cases h3 : (lookD k.code).kind = 1 ∨ (lookD k.code).kind = 2
      · exact legacyAlt_main m k w hk ht htab h1 h2 h3
      · exact legacyAlt_not m k w hk ht htab (.inr (.inr (by omega)))
  · exact legacyAlt_not m k w hk ht htab (.inl (by simpa using h1))
end Go.Proofs.YtieppcjpbjefkaaDoor

/- LegacyAlt: with Alt a text's, or a plain key's, form is that without it, behind an escape byte.
   Conditions: what the call reads is of bulk at most 1048576; the listed tables hold what their initialisers lay. -/
namespace Go.Proofs.YtieppcjpbjefkaaDoor.legacyAlt
open Go.ChangeShapes Go.WideShapes Go.ChangeAt Go.RowKit
open Go.ChangeMaps (open_string shut_string)

set_option maxRecDepth 100000 in
theorem contract (H : Type) (enc : TypeId × Value → H) (W : World) (base : Nat) (args : Array Value) (ds gs : List (DataW H)) (before : List MemPlace)
    (hval : ∀ (j : Nat) t v, Tryd.f3.params[j]? = some t → args[j]? = some v → Value.okWide Tryd.prog W .any base t v)
    (hW : DataW.Whole enc Tryd.prog Tryd.f3.params.toList Rows.legacyAltSpec.vars false W args.toList ds gs before) (hL : laidMetH Tryd.prog Rows.legacyAltUptoRow.laid W) (hk : Rows.uptoSmall H (ds ++ gs) = true) :
    Calls Tryd.prog 3 args W fun e W' => ∃ v, e = .returned v ∧ Rows.legacyAltSpec.post enc Tryd.prog Tryd.f3 false true false false W args v W' := by
  have hW' := hW
  obtain ⟨p, q, hA0, hV, rfl, hfz, hnd⟩ := hW
  have hA : DataW.TrodAll enc Tryd.prog W 0 (fun _ => true) true Tryd.f3.params.toList args.toList ds p := hA0
  rw [Tryd.params3] at hA hval
  obtain ⟨v0, vs0, d0, ds0, p0, q0, hargs, rfl, rfl, h0, r0⟩ := trodAll_cons hA
  obtain ⟨v1, vs1, d1, ds1, p1, q1, rfl, rfl, rfl, h1, r1⟩ := trodAll_cons r0
  obtain ⟨rfl, rfl, rfl⟩ := trodAll_nil r1
  obtain rfl : args = #[v0, v1] := by cases args; simp_all
  obtain ⟨rfl, rfl⟩ := trodVars_none hV
  obtain ⟨m, rfl, rfl, rfl, wm⟩ := open_modes (hval 0 23 v0 rfl rfl) h0
  obtain ⟨k, rfl, rfl, rfl, wk, tk⟩ := open_key (hval 1 25 v1 rfl rfl) h1
  clear hA0
  simp only [List.append_nil] at hW' hk
  have hbulk : Rows.uptoBulkAll (H := H) [m.dat, k.dat] ≤ 1048576 := of_decide_eq_true hk
  simp only [Rows.uptoBulkAll, KeyD.dat, ModesD.dat, Rows.uptoBulk] at hbulk
  refine (legacyAlt m k W wk (by omega) (tabOk_of hL)).mono fun e W' ⟨he, hb⟩ => ?_
  subst he
  exact ⟨_, rfl, post_of_below (pa := []) (pv := []) hW' (fun _ _ _ => trodAll_cons_mk (shut_bool Tryd.underlying4 _) trodAll_mk0) (fun _ => trodAll_cons_mk (shut_modes wm) (trodAll_cons_mk (shut_key wk tk) trodAll_mk0)) (fun _ => rfl) rfl
    hb (ok_one (by kernel_rfl) rfl (okWide_bool_mk Tryd.underlying4 _))⟩

theorem laid_met (os : Os) : laidMet Tryd.prog Rows.legacyAltUptoRow.laid ((laidWorld os).forCall (fun _ _ => 0) ⟨#[], #[.agg #[.bool false, .bool false, .bool false, .bool false, .bool false, .bool false, .bool false, .int .i64 0, .int .i64 0, .int .i64 0], .agg #[.int .i64 0, .int .i64 0, .int .i64 0, .int .i64 0, .int .i64 0, .string .empty]], []⟩).memory :=
  laidMet_of_run' 8 (by kernel_rfl) (by kernel_rfl)
theorem reads (os : Os) {H : Type} (enc : TypeId × Value → H) : ∃ places, DataW.whole enc Tryd.prog ((laidWorld os).forCall (fun _ _ => 0) ⟨#[], #[.agg #[.bool false, .bool false, .bool false, .bool false, .bool false, .bool false, .bool false, .int .i64 0, .int .i64 0, .int .i64 0], .agg #[.int .i64 0, .int .i64 0, .int .i64 0, .int .i64 0, .int .i64 0, .string .empty]], []⟩).memory Tryd.f3.params.toList Rows.legacyAltSpec.vars false (#[.agg #[.bool false, .bool false, .bool false, .bool false, .bool false, .bool false, .bool false, .int .i64 0, .int .i64 0, .int .i64 0], .agg #[.int .i64 0, .int .i64 0, .int .i64 0, .int .i64 0, .int .i64 0, .string .empty]] : Array Value).toList 8 = some ([.agg [.lit (.bool false), .lit (.bool false), .lit (.bool false), .lit (.bool false), .lit (.bool false), .lit (.bool false), .lit (.bool false), .lit (.int .i64 0), .lit (.int .i64 0), .lit (.int .i64 0)], .agg [.lit (.int .i64 0), .lit (.int .i64 0), .lit (.int .i64 0), .lit (.int .i64 0), .lit (.int .i64 0), .lit (.string [])]], [], places) :=
  ⟨[], by kernel_rfl⟩

set_option maxRecDepth 100000 in
theorem liftedUpto (os : Os) (started : os.Started) (H : Type) (enc : TypeId × Value → H) (F : Stop.Interp) :
    ReturnsInHanded {} Tryd.checked os 3 .any ((Rows.OpenSpec.upto Rows.legacyAltSpec).preRow enc Tryd.prog Tryd.f3 Rows.legacyAltUptoRow.domain false Rows.legacyAltUptoRow.laid) (((Rows.OpenSpec.upto Rows.legacyAltSpec).at F).post enc Tryd.prog Tryd.f3 false true false false) := by
  obtain ⟨places, hx⟩ := reads os enc
  refine returnsInHanded_of_row (C := Tryd.checked) (s := Rows.OpenSpec.upto Rows.legacyAltSpec) own started (by kernel_rfl) Tryd.func3
    (witness_row_at (enc := enc) (C := Tryd.checked) false (laidWorld os) #[.agg #[.bool false, .bool false, .bool false, .bool false, .bool false, .bool false, .bool false, .int .i64 0, .int .i64 0, .int .i64 0], .agg #[.int .i64 0, .int .i64 0, .int .i64 0, .int .i64 0, .int .i64 0, .string .empty]] rfl (by kernel_rfl) (by kernel_rfl) (by kernel_rfl)
      (OpenSpec.preRow_of_cond 8 hx (by kernel_rfl) (fun k hk => by cases hk; kernel_rfl) (by kernel_rfl) (laid_met os))) ?_
  intro W base args ds gs before hval hW _ hcond _ hL _ _
  exact contract H enc W base args ds gs before hval hW hL (hcond _ rfl)

theorem saidUpto : Rows.LegacyAltUptoSaid :=
  OpenClaim.holds_of_cond 3 Tryd.f3 rfl rfl rfl rfl rfl rfl rfl ⟨rfl, rfl, rfl, rfl, rfl⟩ rfl rfl rfl rfl rfl (by kernel_rfl) Tryd.func3 (by kernel_rfl)
    (of_decide_eq_true (by kernel_rfl)) (by unfold Func.isWrapper; first | (rw [if_pos (by decide +kernel)]; kernel_rfl) | (rw [if_neg (by decide +kernel)]; exact ⟨rfl, rfl⟩))
    (fun os started H enc _ F => by rw [OpenClaim.pre_eq_preRow]; exact liftedUpto os started H enc F)

/-- No parameter wants a stand-in; the program's own looks are off: what the card asks. -/
theorem plain (f : FuncId) (fn : Func) (hf : Tryd.pinned.checked.prog.funcNamed "clavier/clavierlaw11.LegacyAlt" = some f) (hfn : Tryd.pinned.checked.prog.funcs[f]? = some fn) :
    false = Tryd.pinned.checked.prog.looks [] ∧ ∀ (j : Nat) t, fn.params[j]? = some t → Tryd.pinned.checked.prog.wantsStandIn t = false := by
  obtain rfl : f = 3 := Option.some.inj ((show Tryd.prog.funcNamed "clavier/clavierlaw11.LegacyAlt" = some 3 by kernel_rfl).symm.trans hf) |>.symm
  obtain rfl : fn = Tryd.f3 := (Option.some.inj (Tryd.func3.symm.trans hfn)).symm
  refine ⟨by kernel_rfl, fun j t ht => ?_⟩
  rw [Tryd.params3] at ht
  have h2 : t = 23 ∨ t = 25 := by simpa using Array.mem_of_getElem? ht
  rcases h2 with rfl | rfl
  · exact (show Tryd.prog.wantsStandIn 23 = false by kernel_rfl)
  · exact (show Tryd.prog.wantsStandIn 25 = false by kernel_rfl)

/-- THE CARD -/
theorem cardUpto : Rows.LegacyAltUptoCardSaid :=
  Claim7.holds_tied_plain_at .later [] _ _ _ _ saidUpto (fun _ h => by cases h) (by kernel_rfl) (fun _ h => by cases h) legacyAltUpto_row_tie rfl ⟨rfl, rfl⟩ (by kernel_rfl) rfl plain (by kernel_rfl)
end Go.Proofs.YtieppcjpbjefkaaDoor.legacyAlt
