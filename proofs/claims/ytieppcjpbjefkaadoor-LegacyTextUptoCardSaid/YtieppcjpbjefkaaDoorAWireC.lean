/- Contracts of package wire: what sequences may be: between in plain words, May. -/
import Derived.Test.YtieppcjpbjefkaaDoorA2
import Derived.Test.YtieppcjpbjefkaaDoorA1
import Derived.Laws.RangeString
import Derived.Laws.RangeAny
set_option linter.all false
namespace Go.Proofs.YtieppcjpbjefkaaDoor
open Go.RowKit Go.Proofs Go.Lib

theorem idx_from (a b : Int) (hb : b < 128) (s : ByteArray) : ∀ (f pos : Nat), s.size ≤ pos + f →
    (0 ≤ Lib.idxFuncFrom (beyond a b) true s f pos ↔ ∃ i, ∃ h : i < s.size, pos ≤ i ∧ beyond a b (s[i]'h).toNat = true)
  | 0, pos, h => by
    rw [Lib.idxFuncFrom]
    constructor
    · intro h'; exact absurd h' (by decide)
    · rintro ⟨i, hi, hp, _⟩; omega
  | f + 1, pos, h => by
    rw [Lib.idxFuncFrom]
    by_cases hp : pos < s.size
    · rw [if_pos hp]
      by_cases ha : (s[pos]'hp).toNat < 128
      · rw [decode_ascii s pos hp ha]
        by_cases hbe : beyond a b (s[pos]'hp).toNat = true
        · simp only [hbe, if_true]
          constructor
          · intro _; exact ⟨pos, hp, Nat.le_refl _, hbe⟩
          · intro _; omega
        · simp only [hbe]
          rw [if_neg (by simp)]
          rw [idx_from a b hb s f (pos + 1) (by omega)]
          constructor
          · rintro ⟨i, hi, hpi, hx⟩; exact ⟨i, hi, by omega, hx⟩
          · rintro ⟨i, hi, hpi, hx⟩
            refine ⟨i, hi, ?_, hx⟩
            rcases Nat.lt_or_eq_of_le hpi with h1 | h1
            · omega
            · subst h1; exact absurd hx hbe
      · have hd := decode_high s pos hp (by omega)
        have h1 : beyond a b (Utf8.decode s pos).1 = true := by simp [beyond]; omega
        have h2 : beyond a b (s[pos]'hp).toNat = true := by simp [beyond]; omega
        simp only [h1, if_true]
        constructor
        · intro _; exact ⟨pos, hp, Nat.le_refl _, h2⟩
        · intro _; omega
    · rw [if_neg hp]
      constructor
      · intro h'; exact absurd h' (by decide)
      · rintro ⟨i, hi, hp', _⟩; omega

theorem idx_bet (a b : Int) (hb : b < 128) (l : List UInt8) : (!(decide (0 ≤ Lib.idxFunc (beyond a b) true ⟨l.toArray⟩))) = betB a b l := by
  have key := idx_from a b hb ⟨l.toArray⟩ l.length 0 (by simp [ByteArray.size])
  have hs : Lib.idxFunc (beyond a b) true ⟨l.toArray⟩ = Lib.idxFuncFrom (beyond a b) true ⟨l.toArray⟩ l.length 0 := by simp [Lib.idxFunc, ByteArray.size]
  rw [hs]
  rw [Bool.eq_iff_iff]
  simp only [Bool.not_eq_true']
  rw [decide_eq_false_iff_not, key]
  unfold betB
  rw [List.all_eq_true]
  constructor
  · intro h x hx
    obtain ⟨i, hi, rfl⟩ := List.getElem_of_mem hx
    have hi' : i < (⟨l.toArray⟩ : ByteArray).size := by simpa [ByteArray.size] using hi
    have hn : ¬ beyond a b ((⟨l.toArray⟩ : ByteArray)[i]'hi').toNat = true := fun hbb => h ⟨i, hi', Nat.zero_le _, hbb⟩
    simp only [Bool.and_eq_true, decide_eq_true_eq]
    simp [beyond, ByteArray.getElem_eq_getElem_data] at hn
    omega
  · rintro h ⟨i, hi, _, hb⟩
    have hi' : i < l.length := by simpa [ByteArray.size] using hi
    have := h l[i] (List.getElem_mem hi')
    simp only [Bool.and_eq_true, decide_eq_true_eq] at this
    simp [beyond, ByteArray.getElem_eq_getElem_data] at hb
    omega

theorem wire_between (l : List UInt8) (a b : Int) (w : World) (ha0 : 0 ≤ a) (ha : a < 256) (hb0 : 0 ≤ b) (hb : b < 128) :
    Calls Tryd.prog 55 #[.string ⟨l.toArray⟩, .int .u8 a, .int .u8 b] w (BoolIs w (betB a b l)) := by
  have := wire_between0 ⟨l.toArray⟩ a b w ha0 ha hb0 (by omega)
  rwa [idx_bet a b hb l] at this


/-- whether a sequence may be: an error's number -/
def mayB (d : Nat) (pr : Int) (n : Nat) (bi bl bd bs : Bool) : Int :=
  if 4096 < d then 4
  else if (pr == 0 || (decide (60 ≤ pr) && decide (pr ≤ 63))) && (decide (n ≤ 2) && bi) && bl && bd && bs then 0 else 1
def mayL (s : SeqD) : Int := mayB s.data.length s.priv s.inter.length (betB 32 47 s.inter) (listedB s.params) (betB 32 126 s.data) (shapedB s.kind s.priv s.params.length s.inter s.final s.data)

set_option maxRecDepth 100000 in
set_option maxHeartbeats 20000000 in
theorem wire_May (v : Value) (s : SeqD) (w : World) (h : SeqIs w v s) :
    Calls Tryd.prog 25 #[v] w (IntIs w (mayL s)) := by
  obtain ⟨pv, rfl, hR, hk0, hk1, hp0, hp1, hf0, hf1, hi1, hd1⟩ := h
  obtain ⟨p, c, vs, rfl, hR'⟩ := hR
  have hR : Rows2 w (.slice p s.params.length c) s.params := ⟨p, c, vs, rfl, hR'⟩
  clear hR'
  have hL := fun W (h : Below w.heap.size w W) => wire_listed p s.params.length c s.params W (hR.later h)
  have hS := fun W => wire_shaped s.kind s.priv s.final p s.params.length c s.inter s.data W hf0 hf1
  have hI := fun W => wire_between s.inter 32 47 W (by decide) (by decide) (by decide) (by decide)
  have hD := fun W => wire_between s.data 32 126 W (by decide) (by decide) (by decide) (by decide)
  unfold mayL
  obtain ⟨k, pr, ll, it, fi, da⟩ := s
  simp only at *
  obtain ⟨bl, hbl⟩ : ∃ b, listedB ll = b := ⟨_, rfl⟩
  obtain ⟨bs, hbs⟩ : ∃ b, shapedB k pr ll.length it fi da = b := ⟨_, rfl⟩
  obtain ⟨bi, hbi⟩ : ∃ b, betB 32 47 it = b := ⟨_, rfl⟩
  obtain ⟨bd, hbd⟩ : ∃ b, betB 32 126 da = b := ⟨_, rfl⟩
  obtain ⟨n, hn⟩ : ∃ n, ll.length = n := ⟨_, rfl⟩
  rw [hbl, hbs, hbi, hbd]
  rw [hbl] at hL
  rw [hbs] at hS
  rw [hbi] at hI
  rw [hbd] at hD
  rw [hn] at hL hS ⊢
  have HL := Lib.hid hL
  have HS := Lib.hid hS
  have HI := Lib.hid hI
  have HD := Lib.hid hD
  clear hR hbl hbs hbi hbd hn hL hS hI hD hk0 hk1 hf0 hf1 hi1 hd1
  obtain ⟨M, hM⟩ : ∃ M, mayB da.length pr it.length bi bl bd bs = M := ⟨_, rfl⟩
  rw [hM]
  by_cases hd : 4096 < da.length
  · have q5 : decide (4096 < (da.length : Int)) = true := by simp; omega
    have HM := Lib.hid (show M = 4 from by rw [← hM]; unfold mayB; rw [if_pos hd])
    clear hM
    go_enter Tryd.func25, Tryd.ntmps25
    go_wp2_with (first | (go_at_call 56; refine (HL.out _ (by first | exact below_then (below_alloc (Below.refl _ _) _) hB | exact below_alloc (Below.refl _ _) _)).mono ?_; rintro e w1 ⟨rfl, hb1⟩; (first | have hB := below_then hB hb1 | have hB := hb1); (try clear e0 e1 e2 e3 e4 e5); obtain ⟨e0, e1, e2, e3, e4, e5⟩ := box6 hB) | (go_at_call 57; refine (HS.out _).mono ?_; rintro e w2 ⟨rfl, hb2⟩; (first | have hB := below_then hB hb2 | have hB := hb2); (try clear e0 e1 e2 e3 e4 e5); obtain ⟨e0, e1, e2, e3, e4, e5⟩ := box6 hB) | (go_at_call 55; first | (refine (HI.out _).mono ?_; rintro e w3 ⟨rfl, hb3⟩; (first | have hB := below_then hB hb3 | have hB := hb3); (try clear e0 e1 e2 e3 e4 e5); obtain ⟨e0, e1, e2, e3, e4, e5⟩ := box6 hB) | (refine (HD.out _).mono ?_; rintro e w4 ⟨rfl, hb4⟩; (first | have hB := below_then hB hb4 | have hB := hb4); (try clear e0 e1 e2 e3 e4 e5); obtain ⟨e0, e1, e2, e3, e4, e5⟩ := box6 hB)))
    all_goals go_ret
    all_goals rw [HM.out]
    all_goals exact ⟨rfl, by first | exact below_then (below_alloc (Below.refl _ _) _) hB | exact below_alloc (Below.refl _ _) _⟩
  have q5 : decide (4096 < (da.length : Int)) = false := by simp; omega
  by_cases h1 : pr = 0
  · subst h1
    by_cases hi2 : it.length ≤ 2
    · have q4 : decide ((it.length : Int) ≤ 2) = true := by simp; omega
      cases bi
      · skip
        have HM := Lib.hid (show M = 1 from by rw [← hM]; unfold mayB; rw [if_neg hd]; simp)
        clear hM
        go_enter Tryd.func25, Tryd.ntmps25
        go_wp2_with (first | (go_at_call 56; refine (HL.out _ (by first | exact below_then (below_alloc (Below.refl _ _) _) hB | exact below_alloc (Below.refl _ _) _)).mono ?_; rintro e w1 ⟨rfl, hb1⟩; (first | have hB := below_then hB hb1 | have hB := hb1); (try clear e0 e1 e2 e3 e4 e5); obtain ⟨e0, e1, e2, e3, e4, e5⟩ := box6 hB) | (go_at_call 57; refine (HS.out _).mono ?_; rintro e w2 ⟨rfl, hb2⟩; (first | have hB := below_then hB hb2 | have hB := hb2); (try clear e0 e1 e2 e3 e4 e5); obtain ⟨e0, e1, e2, e3, e4, e5⟩ := box6 hB) | (go_at_call 55; first | (refine (HI.out _).mono ?_; rintro e w3 ⟨rfl, hb3⟩; (first | have hB := below_then hB hb3 | have hB := hb3); (try clear e0 e1 e2 e3 e4 e5); obtain ⟨e0, e1, e2, e3, e4, e5⟩ := box6 hB) | (refine (HD.out _).mono ?_; rintro e w4 ⟨rfl, hb4⟩; (first | have hB := below_then hB hb4 | have hB := hb4); (try clear e0 e1 e2 e3 e4 e5); obtain ⟨e0, e1, e2, e3, e4, e5⟩ := box6 hB)))
        all_goals go_ret
        all_goals rw [HM.out]
        all_goals exact ⟨rfl, by first | exact below_then (below_alloc (Below.refl _ _) _) hB | exact below_alloc (Below.refl _ _) _⟩
      cases bl
      · skip
        have HM := Lib.hid (show M = 1 from by rw [← hM]; unfold mayB; rw [if_neg hd]; simp)
        clear hM
        go_enter Tryd.func25, Tryd.ntmps25
        go_wp2_with (first | (go_at_call 56; refine (HL.out _ (by first | exact below_then (below_alloc (Below.refl _ _) _) hB | exact below_alloc (Below.refl _ _) _)).mono ?_; rintro e w1 ⟨rfl, hb1⟩; (first | have hB := below_then hB hb1 | have hB := hb1); (try clear e0 e1 e2 e3 e4 e5); obtain ⟨e0, e1, e2, e3, e4, e5⟩ := box6 hB) | (go_at_call 57; refine (HS.out _).mono ?_; rintro e w2 ⟨rfl, hb2⟩; (first | have hB := below_then hB hb2 | have hB := hb2); (try clear e0 e1 e2 e3 e4 e5); obtain ⟨e0, e1, e2, e3, e4, e5⟩ := box6 hB) | (go_at_call 55; first | (refine (HI.out _).mono ?_; rintro e w3 ⟨rfl, hb3⟩; (first | have hB := below_then hB hb3 | have hB := hb3); (try clear e0 e1 e2 e3 e4 e5); obtain ⟨e0, e1, e2, e3, e4, e5⟩ := box6 hB) | (refine (HD.out _).mono ?_; rintro e w4 ⟨rfl, hb4⟩; (first | have hB := below_then hB hb4 | have hB := hb4); (try clear e0 e1 e2 e3 e4 e5); obtain ⟨e0, e1, e2, e3, e4, e5⟩ := box6 hB)))
        all_goals go_ret
        all_goals rw [HM.out]
        all_goals exact ⟨rfl, by first | exact below_then (below_alloc (Below.refl _ _) _) hB | exact below_alloc (Below.refl _ _) _⟩
      cases bd
      · skip
        have HM := Lib.hid (show M = 1 from by rw [← hM]; unfold mayB; rw [if_neg hd]; simp)
        clear hM
        go_enter Tryd.func25, Tryd.ntmps25
        go_wp2_with (first | (go_at_call 56; refine (HL.out _ (by first | exact below_then (below_alloc (Below.refl _ _) _) hB | exact below_alloc (Below.refl _ _) _)).mono ?_; rintro e w1 ⟨rfl, hb1⟩; (first | have hB := below_then hB hb1 | have hB := hb1); (try clear e0 e1 e2 e3 e4 e5); obtain ⟨e0, e1, e2, e3, e4, e5⟩ := box6 hB) | (go_at_call 57; refine (HS.out _).mono ?_; rintro e w2 ⟨rfl, hb2⟩; (first | have hB := below_then hB hb2 | have hB := hb2); (try clear e0 e1 e2 e3 e4 e5); obtain ⟨e0, e1, e2, e3, e4, e5⟩ := box6 hB) | (go_at_call 55; first | (refine (HI.out _).mono ?_; rintro e w3 ⟨rfl, hb3⟩; (first | have hB := below_then hB hb3 | have hB := hb3); (try clear e0 e1 e2 e3 e4 e5); obtain ⟨e0, e1, e2, e3, e4, e5⟩ := box6 hB) | (refine (HD.out _).mono ?_; rintro e w4 ⟨rfl, hb4⟩; (first | have hB := below_then hB hb4 | have hB := hb4); (try clear e0 e1 e2 e3 e4 e5); obtain ⟨e0, e1, e2, e3, e4, e5⟩ := box6 hB)))
        all_goals go_ret
        all_goals rw [HM.out]
        all_goals exact ⟨rfl, by first | exact below_then (below_alloc (Below.refl _ _) _) hB | exact below_alloc (Below.refl _ _) _⟩
      cases bs
      · skip
        have HM := Lib.hid (show M = 1 from by rw [← hM]; unfold mayB; rw [if_neg hd]; simp)
        clear hM
        go_enter Tryd.func25, Tryd.ntmps25
        go_wp2_with (first | (go_at_call 56; refine (HL.out _ (by first | exact below_then (below_alloc (Below.refl _ _) _) hB | exact below_alloc (Below.refl _ _) _)).mono ?_; rintro e w1 ⟨rfl, hb1⟩; (first | have hB := below_then hB hb1 | have hB := hb1); (try clear e0 e1 e2 e3 e4 e5); obtain ⟨e0, e1, e2, e3, e4, e5⟩ := box6 hB) | (go_at_call 57; refine (HS.out _).mono ?_; rintro e w2 ⟨rfl, hb2⟩; (first | have hB := below_then hB hb2 | have hB := hb2); (try clear e0 e1 e2 e3 e4 e5); obtain ⟨e0, e1, e2, e3, e4, e5⟩ := box6 hB) | (go_at_call 55; first | (refine (HI.out _).mono ?_; rintro e w3 ⟨rfl, hb3⟩; (first | have hB := below_then hB hb3 | have hB := hb3); (try clear e0 e1 e2 e3 e4 e5); obtain ⟨e0, e1, e2, e3, e4, e5⟩ := box6 hB) | (refine (HD.out _).mono ?_; rintro e w4 ⟨rfl, hb4⟩; (first | have hB := below_then hB hb4 | have hB := hb4); (try clear e0 e1 e2 e3 e4 e5); obtain ⟨e0, e1, e2, e3, e4, e5⟩ := box6 hB)))
        all_goals go_ret
        all_goals rw [HM.out]
        all_goals exact ⟨rfl, by first | exact below_then (below_alloc (Below.refl _ _) _) hB | exact below_alloc (Below.refl _ _) _⟩
      · skip
        have HM := Lib.hid (show M = 0 from by rw [← hM]; unfold mayB; rw [if_neg hd]; simp; omega)
        clear hM
        go_enter Tryd.func25, Tryd.ntmps25
        go_wp2_with (first | (go_at_call 56; refine (HL.out _ (by first | exact below_then (below_alloc (Below.refl _ _) _) hB | exact below_alloc (Below.refl _ _) _)).mono ?_; rintro e w1 ⟨rfl, hb1⟩; (first | have hB := below_then hB hb1 | have hB := hb1); (try clear e0 e1 e2 e3 e4 e5); obtain ⟨e0, e1, e2, e3, e4, e5⟩ := box6 hB) | (go_at_call 57; refine (HS.out _).mono ?_; rintro e w2 ⟨rfl, hb2⟩; (first | have hB := below_then hB hb2 | have hB := hb2); (try clear e0 e1 e2 e3 e4 e5); obtain ⟨e0, e1, e2, e3, e4, e5⟩ := box6 hB) | (go_at_call 55; first | (refine (HI.out _).mono ?_; rintro e w3 ⟨rfl, hb3⟩; (first | have hB := below_then hB hb3 | have hB := hb3); (try clear e0 e1 e2 e3 e4 e5); obtain ⟨e0, e1, e2, e3, e4, e5⟩ := box6 hB) | (refine (HD.out _).mono ?_; rintro e w4 ⟨rfl, hb4⟩; (first | have hB := below_then hB hb4 | have hB := hb4); (try clear e0 e1 e2 e3 e4 e5); obtain ⟨e0, e1, e2, e3, e4, e5⟩ := box6 hB)))
        all_goals go_ret
        all_goals rw [HM.out]
        all_goals exact ⟨rfl, by first | exact below_then (below_alloc (Below.refl _ _) _) hB | exact below_alloc (Below.refl _ _) _⟩
    · have q4 : decide ((it.length : Int) ≤ 2) = false := by simp; omega
      have HM := Lib.hid (show M = 1 from by rw [← hM]; unfold mayB; rw [if_neg hd]; simp; omega)
      clear hM
      go_enter Tryd.func25, Tryd.ntmps25
      go_wp2_with (first | (go_at_call 56; refine (HL.out _ (by first | exact below_then (below_alloc (Below.refl _ _) _) hB | exact below_alloc (Below.refl _ _) _)).mono ?_; rintro e w1 ⟨rfl, hb1⟩; (first | have hB := below_then hB hb1 | have hB := hb1); (try clear e0 e1 e2 e3 e4 e5); obtain ⟨e0, e1, e2, e3, e4, e5⟩ := box6 hB) | (go_at_call 57; refine (HS.out _).mono ?_; rintro e w2 ⟨rfl, hb2⟩; (first | have hB := below_then hB hb2 | have hB := hb2); (try clear e0 e1 e2 e3 e4 e5); obtain ⟨e0, e1, e2, e3, e4, e5⟩ := box6 hB) | (go_at_call 55; first | (refine (HI.out _).mono ?_; rintro e w3 ⟨rfl, hb3⟩; (first | have hB := below_then hB hb3 | have hB := hb3); (try clear e0 e1 e2 e3 e4 e5); obtain ⟨e0, e1, e2, e3, e4, e5⟩ := box6 hB) | (refine (HD.out _).mono ?_; rintro e w4 ⟨rfl, hb4⟩; (first | have hB := below_then hB hb4 | have hB := hb4); (try clear e0 e1 e2 e3 e4 e5); obtain ⟨e0, e1, e2, e3, e4, e5⟩ := box6 hB)))
      all_goals go_ret
      all_goals rw [HM.out]
      all_goals exact ⟨rfl, by first | exact below_then (below_alloc (Below.refl _ _) _) hB | exact below_alloc (Below.refl _ _) _⟩
  have q1 : (pr == 0) = false := by simpa using h1
  by_cases h2 : 60 ≤ pr
  · have q2 : decide (60 ≤ pr) = true := by simpa using h2
    by_cases h3 : pr ≤ 63
    · have q3 : decide (pr ≤ 63) = true := by simpa using h3
      by_cases hi2 : it.length ≤ 2
      · have q4 : decide ((it.length : Int) ≤ 2) = true := by simp; omega
        cases bi
        · skip
          have HM := Lib.hid (show M = 1 from by rw [← hM]; unfold mayB; rw [if_neg hd]; simp)
          clear hM
          go_enter Tryd.func25, Tryd.ntmps25
          go_wp2_with (first | (go_at_call 56; refine (HL.out _ (by first | exact below_then (below_alloc (Below.refl _ _) _) hB | exact below_alloc (Below.refl _ _) _)).mono ?_; rintro e w1 ⟨rfl, hb1⟩; (first | have hB := below_then hB hb1 | have hB := hb1); (try clear e0 e1 e2 e3 e4 e5); obtain ⟨e0, e1, e2, e3, e4, e5⟩ := box6 hB) | (go_at_call 57; refine (HS.out _).mono ?_; rintro e w2 ⟨rfl, hb2⟩; (first | have hB := below_then hB hb2 | have hB := hb2); (try clear e0 e1 e2 e3 e4 e5); obtain ⟨e0, e1, e2, e3, e4, e5⟩ := box6 hB) | (go_at_call 55; first | (refine (HI.out _).mono ?_; rintro e w3 ⟨rfl, hb3⟩; (first | have hB := below_then hB hb3 | have hB := hb3); (try clear e0 e1 e2 e3 e4 e5); obtain ⟨e0, e1, e2, e3, e4, e5⟩ := box6 hB) | (refine (HD.out _).mono ?_; rintro e w4 ⟨rfl, hb4⟩; (first | have hB := below_then hB hb4 | have hB := hb4); (try clear e0 e1 e2 e3 e4 e5); obtain ⟨e0, e1, e2, e3, e4, e5⟩ := box6 hB)))
          all_goals go_ret
          all_goals rw [HM.out]
          all_goals exact ⟨rfl, by first | exact below_then (below_alloc (Below.refl _ _) _) hB | exact below_alloc (Below.refl _ _) _⟩
        cases bl
        · skip
          have HM := Lib.hid (show M = 1 from by rw [← hM]; unfold mayB; rw [if_neg hd]; simp)
          clear hM
          go_enter Tryd.func25, Tryd.ntmps25
          go_wp2_with (first | (go_at_call 56; refine (HL.out _ (by first | exact below_then (below_alloc (Below.refl _ _) _) hB | exact below_alloc (Below.refl _ _) _)).mono ?_; rintro e w1 ⟨rfl, hb1⟩; (first | have hB := below_then hB hb1 | have hB := hb1); (try clear e0 e1 e2 e3 e4 e5); obtain ⟨e0, e1, e2, e3, e4, e5⟩ := box6 hB) | (go_at_call 57; refine (HS.out _).mono ?_; rintro e w2 ⟨rfl, hb2⟩; (first | have hB := below_then hB hb2 | have hB := hb2); (try clear e0 e1 e2 e3 e4 e5); obtain ⟨e0, e1, e2, e3, e4, e5⟩ := box6 hB) | (go_at_call 55; first | (refine (HI.out _).mono ?_; rintro e w3 ⟨rfl, hb3⟩; (first | have hB := below_then hB hb3 | have hB := hb3); (try clear e0 e1 e2 e3 e4 e5); obtain ⟨e0, e1, e2, e3, e4, e5⟩ := box6 hB) | (refine (HD.out _).mono ?_; rintro e w4 ⟨rfl, hb4⟩; (first | have hB := below_then hB hb4 | have hB := hb4); (try clear e0 e1 e2 e3 e4 e5); obtain ⟨e0, e1, e2, e3, e4, e5⟩ := box6 hB)))
          all_goals go_ret
          all_goals rw [HM.out]
          all_goals exact ⟨rfl, by first | exact below_then (below_alloc (Below.refl _ _) _) hB | exact below_alloc (Below.refl _ _) _⟩
        cases bd
        · skip
          have HM := Lib.hid (show M = 1 from by rw [← hM]; unfold mayB; rw [if_neg hd]; simp)
          clear hM
          go_enter Tryd.func25, Tryd.ntmps25
          go_wp2_with (first | (go_at_call 56; refine (HL.out _ (by first | exact below_then (below_alloc (Below.refl _ _) _) hB | exact below_alloc (Below.refl _ _) _)).mono ?_; rintro e w1 ⟨rfl, hb1⟩; (first | have hB := below_then hB hb1 | have hB := hb1); (try clear e0 e1 e2 e3 e4 e5); obtain ⟨e0, e1, e2, e3, e4, e5⟩ := box6 hB) | (go_at_call 57; refine (HS.out _).mono ?_; rintro e w2 ⟨rfl, hb2⟩; (first | have hB := below_then hB hb2 | have hB := hb2); (try clear e0 e1 e2 e3 e4 e5); obtain ⟨e0, e1, e2, e3, e4, e5⟩ := box6 hB) | (go_at_call 55; first | (refine (HI.out _).mono ?_; rintro e w3 ⟨rfl, hb3⟩; (first | have hB := below_then hB hb3 | have hB := hb3); (try clear e0 e1 e2 e3 e4 e5); obtain ⟨e0, e1, e2, e3, e4, e5⟩ := box6 hB) | (refine (HD.out _).mono ?_; rintro e w4 ⟨rfl, hb4⟩; (first | have hB := below_then hB hb4 | have hB := hb4); (try clear e0 e1 e2 e3 e4 e5); obtain ⟨e0, e1, e2, e3, e4, e5⟩ := box6 hB)))
          all_goals go_ret
          all_goals rw [HM.out]
          all_goals exact ⟨rfl, by first | exact below_then (below_alloc (Below.refl _ _) _) hB | exact below_alloc (Below.refl _ _) _⟩
        cases bs
        · skip
          have HM := Lib.hid (show M = 1 from by rw [← hM]; unfold mayB; rw [if_neg hd]; simp)
          clear hM
          go_enter Tryd.func25, Tryd.ntmps25
          go_wp2_with (first | (go_at_call 56; refine (HL.out _ (by first | exact below_then (below_alloc (Below.refl _ _) _) hB | exact below_alloc (Below.refl _ _) _)).mono ?_; rintro e w1 ⟨rfl, hb1⟩; (first | have hB := below_then hB hb1 | have hB := hb1); (try clear e0 e1 e2 e3 e4 e5); obtain ⟨e0, e1, e2, e3, e4, e5⟩ := box6 hB) | (go_at_call 57; refine (HS.out _).mono ?_; rintro e w2 ⟨rfl, hb2⟩; (first | have hB := below_then hB hb2 | have hB := hb2); (try clear e0 e1 e2 e3 e4 e5); obtain ⟨e0, e1, e2, e3, e4, e5⟩ := box6 hB) | (go_at_call 55; first | (refine (HI.out _).mono ?_; rintro e w3 ⟨rfl, hb3⟩; (first | have hB := below_then hB hb3 | have hB := hb3); (try clear e0 e1 e2 e3 e4 e5); obtain ⟨e0, e1, e2, e3, e4, e5⟩ := box6 hB) | (refine (HD.out _).mono ?_; rintro e w4 ⟨rfl, hb4⟩; (first | have hB := below_then hB hb4 | have hB := hb4); (try clear e0 e1 e2 e3 e4 e5); obtain ⟨e0, e1, e2, e3, e4, e5⟩ := box6 hB)))
          all_goals go_ret
          all_goals rw [HM.out]
          all_goals exact ⟨rfl, by first | exact below_then (below_alloc (Below.refl _ _) _) hB | exact below_alloc (Below.refl _ _) _⟩
        · skip
          have HM := Lib.hid (show M = 0 from by rw [← hM]; unfold mayB; rw [if_neg hd]; simp; omega)
          clear hM
          go_enter Tryd.func25, Tryd.ntmps25
          go_wp2_with (first | (go_at_call 56; refine (HL.out _ (by first | exact below_then (below_alloc (Below.refl _ _) _) hB | exact below_alloc (Below.refl _ _) _)).mono ?_; rintro e w1 ⟨rfl, hb1⟩; (first | have hB := below_then hB hb1 | have hB := hb1); (try clear e0 e1 e2 e3 e4 e5); obtain ⟨e0, e1, e2, e3, e4, e5⟩ := box6 hB) | (go_at_call 57; refine (HS.out _).mono ?_; rintro e w2 ⟨rfl, hb2⟩; (first | have hB := below_then hB hb2 | have hB := hb2); (try clear e0 e1 e2 e3 e4 e5); obtain ⟨e0, e1, e2, e3, e4, e5⟩ := box6 hB) | (go_at_call 55; first | (refine (HI.out _).mono ?_; rintro e w3 ⟨rfl, hb3⟩; (first | have hB := below_then hB hb3 | have hB := hb3); (try clear e0 e1 e2 e3 e4 e5); obtain ⟨e0, e1, e2, e3, e4, e5⟩ := box6 hB) | (refine (HD.out _).mono ?_; rintro e w4 ⟨rfl, hb4⟩; (first | have hB := below_then hB hb4 | have hB := hb4); (try clear e0 e1 e2 e3 e4 e5); obtain ⟨e0, e1, e2, e3, e4, e5⟩ := box6 hB)))
          all_goals go_ret
          all_goals rw [HM.out]
          all_goals exact ⟨rfl, by first | exact below_then (below_alloc (Below.refl _ _) _) hB | exact below_alloc (Below.refl _ _) _⟩
      · have q4 : decide ((it.length : Int) ≤ 2) = false := by simp; omega
        have HM := Lib.hid (show M = 1 from by rw [← hM]; unfold mayB; rw [if_neg hd]; simp; omega)
        clear hM
        go_enter Tryd.func25, Tryd.ntmps25
        go_wp2_with (first | (go_at_call 56; refine (HL.out _ (by first | exact below_then (below_alloc (Below.refl _ _) _) hB | exact below_alloc (Below.refl _ _) _)).mono ?_; rintro e w1 ⟨rfl, hb1⟩; (first | have hB := below_then hB hb1 | have hB := hb1); (try clear e0 e1 e2 e3 e4 e5); obtain ⟨e0, e1, e2, e3, e4, e5⟩ := box6 hB) | (go_at_call 57; refine (HS.out _).mono ?_; rintro e w2 ⟨rfl, hb2⟩; (first | have hB := below_then hB hb2 | have hB := hb2); (try clear e0 e1 e2 e3 e4 e5); obtain ⟨e0, e1, e2, e3, e4, e5⟩ := box6 hB) | (go_at_call 55; first | (refine (HI.out _).mono ?_; rintro e w3 ⟨rfl, hb3⟩; (first | have hB := below_then hB hb3 | have hB := hb3); (try clear e0 e1 e2 e3 e4 e5); obtain ⟨e0, e1, e2, e3, e4, e5⟩ := box6 hB) | (refine (HD.out _).mono ?_; rintro e w4 ⟨rfl, hb4⟩; (first | have hB := below_then hB hb4 | have hB := hb4); (try clear e0 e1 e2 e3 e4 e5); obtain ⟨e0, e1, e2, e3, e4, e5⟩ := box6 hB)))
        all_goals go_ret
        all_goals rw [HM.out]
        all_goals exact ⟨rfl, by first | exact below_then (below_alloc (Below.refl _ _) _) hB | exact below_alloc (Below.refl _ _) _⟩
    · have q3 : decide (pr ≤ 63) = false := by simpa using h3
      have HM := Lib.hid (show M = 1 from by rw [← hM]; unfold mayB; rw [if_neg hd]; simp; omega)
      clear hM
      go_enter Tryd.func25, Tryd.ntmps25
      go_wp2_with (first | (go_at_call 56; refine (HL.out _ (by first | exact below_then (below_alloc (Below.refl _ _) _) hB | exact below_alloc (Below.refl _ _) _)).mono ?_; rintro e w1 ⟨rfl, hb1⟩; (first | have hB := below_then hB hb1 | have hB := hb1); (try clear e0 e1 e2 e3 e4 e5); obtain ⟨e0, e1, e2, e3, e4, e5⟩ := box6 hB) | (go_at_call 57; refine (HS.out _).mono ?_; rintro e w2 ⟨rfl, hb2⟩; (first | have hB := below_then hB hb2 | have hB := hb2); (try clear e0 e1 e2 e3 e4 e5); obtain ⟨e0, e1, e2, e3, e4, e5⟩ := box6 hB) | (go_at_call 55; first | (refine (HI.out _).mono ?_; rintro e w3 ⟨rfl, hb3⟩; (first | have hB := below_then hB hb3 | have hB := hb3); (try clear e0 e1 e2 e3 e4 e5); obtain ⟨e0, e1, e2, e3, e4, e5⟩ := box6 hB) | (refine (HD.out _).mono ?_; rintro e w4 ⟨rfl, hb4⟩; (first | have hB := below_then hB hb4 | have hB := hb4); (try clear e0 e1 e2 e3 e4 e5); obtain ⟨e0, e1, e2, e3, e4, e5⟩ := box6 hB)))
      all_goals go_ret
      all_goals rw [HM.out]
      all_goals exact ⟨rfl, by first | exact below_then (below_alloc (Below.refl _ _) _) hB | exact below_alloc (Below.refl _ _) _⟩
  · have q2 : decide (60 ≤ pr) = false := by simpa using h2
    have HM := Lib.hid (show M = 1 from by rw [← hM]; unfold mayB; rw [if_neg hd]; simp; omega)
    clear hM
    go_enter Tryd.func25, Tryd.ntmps25
    go_wp2_with (first | (go_at_call 56; refine (HL.out _ (by first | exact below_then (below_alloc (Below.refl _ _) _) hB | exact below_alloc (Below.refl _ _) _)).mono ?_; rintro e w1 ⟨rfl, hb1⟩; (first | have hB := below_then hB hb1 | have hB := hb1); (try clear e0 e1 e2 e3 e4 e5); obtain ⟨e0, e1, e2, e3, e4, e5⟩ := box6 hB) | (go_at_call 57; refine (HS.out _).mono ?_; rintro e w2 ⟨rfl, hb2⟩; (first | have hB := below_then hB hb2 | have hB := hb2); (try clear e0 e1 e2 e3 e4 e5); obtain ⟨e0, e1, e2, e3, e4, e5⟩ := box6 hB) | (go_at_call 55; first | (refine (HI.out _).mono ?_; rintro e w3 ⟨rfl, hb3⟩; (first | have hB := below_then hB hb3 | have hB := hb3); (try clear e0 e1 e2 e3 e4 e5); obtain ⟨e0, e1, e2, e3, e4, e5⟩ := box6 hB) | (refine (HD.out _).mono ?_; rintro e w4 ⟨rfl, hb4⟩; (first | have hB := below_then hB hb4 | have hB := hb4); (try clear e0 e1 e2 e3 e4 e5); obtain ⟨e0, e1, e2, e3, e4, e5⟩ := box6 hB)))
    all_goals go_ret
    all_goals rw [HM.out]
    all_goals exact ⟨rfl, by first | exact below_then (below_alloc (Below.refl _ _) _) hB | exact below_alloc (Below.refl _ _) _⟩
end Go.Proofs.YtieppcjpbjefkaaDoor
