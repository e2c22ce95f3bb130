/- Contracts of package wire: glue. -/
import Derived.Test.YtieppcjpbjefkaaDoorAWireE
import Derived.Lib.AppendStr
import Derived.Test.YtieppcjpbjefkaaDoorAWireC
set_option linter.all false

/- Contracts of package wire: glue. -/
namespace Go.Proofs.YtieppcjpbjefkaaDoor
open Go.RowKit Go.Proofs Go.Lib

/-- a value that is a slice of bytes, as laid -/
def BytesV (w : World) (v : Value) (l : List Int) : Prop := ∃ p c, v = .slice p l.length c ∧ l.length ≤ c ∧ c ≤ 9223372036854775807 ∧ Lib.BytesIn w p l.length l
/-- bytes of the call's own are returned -/
def OwnBytes (w : World) (l : List UInt8) (e : Ending) (w' : World) : Prop := ∃ v, e = .returned v ∧ w'.ownsRow w.heap.size 5 1 v l.length (Lib.byteCells l) ∧ Below w.heap.size w w'

theorem Tryd.info_uint8 : (Tryd.prog.info? 5).map (fun i => (i.zero, i.size, i.bytes)) = some (some (.int .u8 0), 1, 1) := by kernel_rfl

set_option maxRecDepth 100000 in
set_option maxHeartbeats 2000000 in
theorem wire_glue (v : Value) (n : Nat) (ss : List (List UInt8)) (base : Nat) (w : World) (h : w.ownsRow base 9 1 v n (strs ss)) (hs : ss.length ≤ 4) (hlen : (Lib.join ss []).length ≤ 1000000) :
    Calls Tryd.prog 52 #[v] w (OwnBytes w (27 :: Lib.join ss [])) := by
  obtain ⟨i0, hi, hz0, hz1, hz2⟩ := info_parts Tryd.info_uint8
  have HJ := Lib.hid (fun W (h : Below w.heap.size w W) => join_own base v n ss [] W (own_later ‹_› h) (by omega) (by omega))
  go_enter Tryd.func52, Tryd.ntmps52
  obtain ⟨J, hJ⟩ : ∃ J, Lib.join ss [] = J := ⟨_, rfl⟩
  rw [hJ] at HJ hlen ⊢
  clear hJ
  go_wp2_with (first
    | (go_at_call 100; refine (HJ.out _ (below_alloc (Below.refl _ _) _)).mono ?_; rintro e w1 ⟨rfl, hb1⟩; have hown := own_later (own_new (W := w) (base := w.heap.size) (g := w.heap.size) (e := 5) (n := 1) [.int .u8 27] rfl (Nat.le_refl _) rfl (by decide)) hb1)
    | (at_builtin; refine wpList_append_own_string _ rfl _ _ 31 9 rfl w.heap.size 5 i0 Tryd.underlying31 Tryd.underlying9 hi hz0 hz1 hz2 _ _ _ rfl hown ⟨J.toArray⟩ rfl (by simp [ByteArray.size, maxLen]; omega) (by simp [ByteArray.size]; omega) (by have := hb1.size; simp at this; omega) ?_))
  intro v' w2 hown2 hgrow _
  have hb2 : Below w.heap.size w w2 := (below_then (below_alloc (Below.refl _ _) _) hb1).grown hgrow (by have := hb1.size; simp at this; omega) (own_block hown)
  go_wp2
  go_ret
  refine ⟨_, rfl, ?_, hb2⟩
  have : 1 + J.length = (27 :: J).length := by simp; omega
  rw [this] at hown2
  exact hown2
end Go.Proofs.YtieppcjpbjefkaaDoor

/- Contracts of package wire: Put. -/
namespace Go.Proofs.YtieppcjpbjefkaaDoor
open Go.RowKit Go.Proofs Go.Lib

theorem own_base {w : World} {base base' n : Nat} {e : TypeId} {size : Nat} {v : Value} {xs : List Value} (h : w.ownsRow base e size v n xs) (hb : base' ≤ base) : w.ownsRow base' e size v n xs := by
  refine ⟨h.1, ?_⟩
  rcases h.2 with h | ⟨g, cap, cur, h1, h2, h3⟩
  · exact .inl h
  · exact .inr ⟨g, cap, cur, h1, by omega, h3⟩

/-- the texts that a sequence's bytes are glued of -/
def partsL (s : SeqD) : List (List UInt8) :=
  if s.kind = 1 then [[91], bodyL s] else if s.kind = 2 then [[79], [UInt8.ofNat s.final.toNat]] else if s.kind = 3 then [[80], bodyL s, s.data, [27, 92]]
  else if s.kind = 4 then [[93], s.data, [27, 92]] else [bodyL s]
/-- a sequence's bytes -/
def putS (s : SeqD) : List UInt8 := if mayL s = 0 then 27 :: Lib.join (partsL s) [] else []

def PutIs (w : World) (s : SeqD) (e : Ending) (w' : World) : Prop := ∃ v, e = .returned (.tuple #[v, .int .i64 (mayL s)]) ∧ w'.ownsRow w.heap.size 5 1 v (putS s).length (Lib.byteCells (putS s)) ∧ Below w.heap.size w w'

theorem may_ok (s : SeqD) (h : mayL s = 0) : s.data.length ≤ 4096 ∧ s.inter.length ≤ 2 ∧ s.params.length ≤ 16 ∧ ∀ p, p ∈ s.params → RowFits p := by
  unfold mayL mayB at h
  split at h
  · simp at h
  split at h
  case isFalse => simp at h
  case isTrue h1 h2 =>
    simp only [Bool.and_eq_true, decide_eq_true_eq, listedB] at h2
    obtain ⟨⟨⟨⟨_, h3, _⟩, ⟨h4, _⟩, h5⟩, _⟩, _⟩ := h2
    refine ⟨by omega, h3, h4, fun p hp => ?_⟩
    have := List.all_eq_true.1 h5 p hp
    simp only [rowOk, Bool.and_eq_true, decide_eq_true_eq, Bool.not_eq_true'] at this
    refine ⟨this.2, fun x hx => ?_⟩
    have h6 : intBeyond x = false := by
      cases h7 : intBeyond x
      · rfl
      · have := this.1.1; rw [List.any_eq_false] at this; exact absurd h7 (this x hx)
    simp [intBeyond] at h6
    omega
theorem body_len (s : SeqD) (h : s.inter.length ≤ 2) (h1 : s.params.length ≤ 16) (h2 : ∀ p, p ∈ s.params → RowFits p) : (bodyL s).length ≤ 2710 := by
  have := params_len s.params h1 h2
  unfold bodyL
  simp only [List.length_append, List.length_cons, List.length_nil]
  split <;> simp <;> omega

set_option maxRecDepth 100000 in
set_option maxHeartbeats 2000000 in
theorem wire_Put_bad (v : Value) (s : SeqD) (w : World) (h : SeqIs w v s) (hm : mayL s ≠ 0) :
    Calls Tryd.prog 23 #[v] w (PutIs w s) := by
  have hM := fun W (h1 : Below w.heap.size w W) => wire_May v s W (h.later h1)
  obtain ⟨pv, rfl, _⟩ := h
  have HP := Lib.hid (show PutIs w s = _ from funext fun e => funext fun w' => by unfold PutIs putS; rw [if_neg hm])
  rw [HP.out]
  obtain ⟨m, hmm⟩ : ∃ m, mayL s = m := ⟨_, rfl⟩
  rw [hmm] at hM hm ⊢
  have HM := Lib.hid hM
  have hb : (m != 0) = true := by rwa [bne_iff_ne]
  obtain ⟨k, pr, ll, it, fi, da⟩ := s
  simp only at *
  clear hM HP hmm
  go_enter Tryd.func23, Tryd.ntmps23
  go_wp2_with (go_at_call 25; refine (HM.out _ (below_alloc (Below.refl _ _) _)).mono ?_; rintro e w1 ⟨rfl, hb1⟩)
  go_ret2
  exact ⟨_, rfl, World.ownsRow_nil _ _ _ _, below_then (below_alloc (Below.refl _ _) _) hb1⟩

theorem parts_len (s : SeqD) (h : mayL s = 0) : (partsL s).length ≤ 4 ∧ (Lib.join (partsL s) []).length ≤ 1000000 := by
  obtain ⟨h1, h2, h3, h4⟩ := may_ok s h
  have hb := body_len s h2 h3 h4
  have hp : (partsL s).length ≤ 4 := by unfold partsL; (repeat' split) <;> simp
  refine ⟨hp, ?_⟩
  have := join_len 4096 (partsL s) [] (fun t ht => by
    unfold partsL at ht
    (repeat' split at ht) <;> simp at ht
    · rcases ht with rfl | rfl <;> (try simp) <;> omega
    · rcases ht with rfl | rfl <;> simp
    · rcases ht with rfl | rfl | rfl | rfl <;> (try simp) <;> omega
    · rcases ht with rfl | rfl | rfl <;> (try simp) <;> omega
    · subst ht; omega)
  simp only [List.length_nil, Nat.add_zero] at this
  omega

set_option maxRecDepth 100000 in
set_option maxHeartbeats 2000000 in
theorem wire_Put_1 (v : Value) (s : SeqD) (w : World) (h : SeqIs w v s) (hm : mayL s = 0) (htab : TabOk w) (hk : s.kind = 1) :
    Calls Tryd.prog 23 #[v] w (PutIs w s) := by
  have hM := fun W (h1 : Below w.heap.size w W) => wire_May v s W (h.later h1)
  obtain ⟨m1, m2, m3, m4⟩ := may_ok s hm
  obtain ⟨l1, l2⟩ := parts_len s hm
  have hB := fun W (h1 : Below w.heap.size w W) => wire_body v s W (h.later h1) m3 m4 (htab.later h1) (by omega)
  obtain ⟨pv, rfl, _, _, _, _, _, hf0, hf1, _⟩ := h
  have hP : PutIs w s = fun e w' => ∃ v, e = .returned (.tuple #[v, .int .i64 0]) ∧ w'.ownsRow w.heap.size 5 1 v (27 :: Lib.join (partsL s) []).length (Lib.byteCells (27 :: Lib.join (partsL s) [])) ∧ Below w.heap.size w w' := by
    funext e w'
    unfold PutIs putS
    rw [if_pos hm, hm]
  rw [hP]
  rw [hm] at hM
  have hL : partsL s = [[91], bodyL s] := by unfold partsL; simp [*]
  rw [hL] at l1 l2 ⊢
  clear hP hL
  obtain ⟨B, hBe⟩ : ∃ B, bodyL s = B := ⟨_, rfl⟩
  (try rw [hBe] at hB)
  (try rw [hBe] at l1)
  (try rw [hBe] at l2)
  (try rw [hBe])
  clear hBe
  obtain ⟨k, pr, ll, it, fi, da⟩ := s
  simp only at *
  subst hk
  have HM := Lib.hid hM
  have HB := Lib.hid hB
  have HG := Lib.hid (fun W v n base (h : World.ownsRow W base 9 1 v n (strs [[91], B])) => wire_glue v n _ base W h l1 l2)
  obtain ⟨J, hJ⟩ : ∃ J, Lib.join [[91], B] [] = J := ⟨_, rfl⟩
  rw [hJ] at HG ⊢
  clear hM hB l1 l2 m1 m2 m3 m4 hm hJ
  go_enter Tryd.func23, Tryd.ntmps23
  go_wp2_with (first
    | (go_at_call 25; refine (HM.out _ (below_alloc (Below.refl _ _) _)).mono ?_; rintro e w1 ⟨rfl, hb1⟩; have hB := hb1; obtain ⟨e0, e1, e2, e3, e4, e5⟩ := box6 hB)
    | (go_at_call 53; refine (HB.out _ (below_then (below_alloc (Below.refl _ _) _) hB)).mono ?_; rintro e w2 ⟨rfl, hb2⟩; have hB := below_then hB hb2)
    | (go_at_call 52; refine (HG.out _ _ _ _ (own_new (base := 0) (strs [[91], B]) rfl (Nat.zero_le _) rfl (by simp [strs]))).mono ?_; rintro e w3 ⟨v, rfl, hown, hb3⟩; have hsz := hB.size; have hB := below_then (below_alloc hB _) hb3))
  go_ret2
  exact ⟨_, rfl, own_base hown (by simp at hsz ⊢; omega), below_then (below_alloc (Below.refl _ _) _) hB⟩

set_option maxRecDepth 100000 in
set_option maxHeartbeats 2000000 in
theorem wire_Put_2 (v : Value) (s : SeqD) (w : World) (h : SeqIs w v s) (hm : mayL s = 0) (htab : TabOk w) (hk : s.kind = 2) :
    Calls Tryd.prog 23 #[v] w (PutIs w s) := by
  have hM := fun W (h1 : Below w.heap.size w W) => wire_May v s W (h.later h1)
  obtain ⟨m1, m2, m3, m4⟩ := may_ok s hm
  obtain ⟨l1, l2⟩ := parts_len s hm
  have hB := fun W (h1 : Below w.heap.size w W) => wire_body v s W (h.later h1) m3 m4 (htab.later h1) (by omega)
  obtain ⟨pv, rfl, _, _, _, _, _, hf0, hf1, _⟩ := h
  have hP : PutIs w s = fun e w' => ∃ v, e = .returned (.tuple #[v, .int .i64 0]) ∧ w'.ownsRow w.heap.size 5 1 v (27 :: Lib.join (partsL s) []).length (Lib.byteCells (27 :: Lib.join (partsL s) [])) ∧ Below w.heap.size w w' := by
    funext e w'
    unfold PutIs putS
    rw [if_pos hm, hm]
  rw [hP]
  rw [hm] at hM
  have hL : partsL s = [[79], [UInt8.ofNat s.final.toNat]] := by unfold partsL; simp [*]
  rw [hL] at l1 l2 ⊢
  clear hP hL
  obtain ⟨B, hBe⟩ : ∃ B, bodyL s = B := ⟨_, rfl⟩
  (try rw [hBe] at hB)
  (try rw [hBe] at l1)
  (try rw [hBe] at l2)
  (try rw [hBe])
  clear hBe
  obtain ⟨k, pr, ll, it, fi, da⟩ := s
  simp only at *
  subst hk
  have hcf := fun W bl => conv_one W bl fi hf0 hf1
  obtain ⟨c8, hc8⟩ : ∃ c8, UInt8.ofNat fi.toNat = c8 := ⟨_, rfl⟩
  rw [hc8] at l1 l2 hcf ⊢
  clear hc8 hf0 hf1
  have HM := Lib.hid hM
  have HB := Lib.hid hB
  have HG := Lib.hid (fun W v n base (h : World.ownsRow W base 9 1 v n (strs [[79], [c8]])) => wire_glue v n _ base W h l1 l2)
  obtain ⟨J, hJ⟩ : ∃ J, Lib.join [[79], [c8]] [] = J := ⟨_, rfl⟩
  rw [hJ] at HG ⊢
  clear hM hB l1 l2 m1 m2 m3 m4 hm hJ
  go_enter Tryd.func23, Tryd.ntmps23
  go_wp2_with (first
    | (go_at_call 25; refine (HM.out _ (below_alloc (Below.refl _ _) _)).mono ?_; rintro e w1 ⟨rfl, hb1⟩; have hB := hb1; obtain ⟨e0, e1, e2, e3, e4, e5⟩ := box6 hB)
    | (go_at_call 53; refine (HB.out _ (below_then (below_alloc (Below.refl _ _) _) hB)).mono ?_; rintro e w2 ⟨rfl, hb2⟩; have hB := below_then hB hb2)
    | (go_at_call 52; refine (HG.out _ _ _ _ (own_new (base := 0) (strs [[79], [c8]]) (by simp) (Nat.zero_le _) rfl (by simp [strs]))).mono ?_; rintro e w3 ⟨v, rfl, hown, hb3⟩; have hsz := hB.size; have hB := below_then (below_alloc (below_alloc hB _) _) hb3))
  go_ret2
  exact ⟨_, rfl, own_base hown (by simp at hsz ⊢; omega), below_then (below_alloc (Below.refl _ _) _) hB⟩

set_option maxRecDepth 100000 in
set_option maxHeartbeats 2000000 in
theorem wire_Put_3 (v : Value) (s : SeqD) (w : World) (h : SeqIs w v s) (hm : mayL s = 0) (htab : TabOk w) (hk : s.kind = 3) :
    Calls Tryd.prog 23 #[v] w (PutIs w s) := by
  have hM := fun W (h1 : Below w.heap.size w W) => wire_May v s W (h.later h1)
  obtain ⟨m1, m2, m3, m4⟩ := may_ok s hm
  obtain ⟨l1, l2⟩ := parts_len s hm
  have hB := fun W (h1 : Below w.heap.size w W) => wire_body v s W (h.later h1) m3 m4 (htab.later h1) (by omega)
  obtain ⟨pv, rfl, _, _, _, _, _, hf0, hf1, _⟩ := h
  have hP : PutIs w s = fun e w' => ∃ v, e = .returned (.tuple #[v, .int .i64 0]) ∧ w'.ownsRow w.heap.size 5 1 v (27 :: Lib.join (partsL s) []).length (Lib.byteCells (27 :: Lib.join (partsL s) [])) ∧ Below w.heap.size w w' := by
    funext e w'
    unfold PutIs putS
    rw [if_pos hm, hm]
  rw [hP]
  rw [hm] at hM
  have hL : partsL s = [[80], bodyL s, s.data, [27, 92]] := by unfold partsL; simp [*]
  rw [hL] at l1 l2 ⊢
  clear hP hL
  obtain ⟨B, hBe⟩ : ∃ B, bodyL s = B := ⟨_, rfl⟩
  (try rw [hBe] at hB)
  (try rw [hBe] at l1)
  (try rw [hBe] at l2)
  (try rw [hBe])
  clear hBe
  obtain ⟨k, pr, ll, it, fi, da⟩ := s
  simp only at *
  subst hk
  have HM := Lib.hid hM
  have HB := Lib.hid hB
  have HG := Lib.hid (fun W v n base (h : World.ownsRow W base 9 1 v n (strs [[80], B, da, [27, 92]])) => wire_glue v n _ base W h l1 l2)
  obtain ⟨J, hJ⟩ : ∃ J, Lib.join [[80], B, da, [27, 92]] [] = J := ⟨_, rfl⟩
  rw [hJ] at HG ⊢
  clear hM hB l1 l2 m1 m2 m3 m4 hm hJ
  go_enter Tryd.func23, Tryd.ntmps23
  have hmx : Tryd.prog.follows .mixedOrders = true := by kernel_rfl
  go_wp2_with (go_at_call 25; refine (HM.out _ (below_alloc (Below.refl _ _) _)).mono ?_; rintro e w1 ⟨rfl, hb1⟩; have hB := hb1; obtain ⟨e0, e1, e2, e3, e4, e5⟩ := box6 hB)
  go_region_with (first
    | (go_at_call 53; refine (HB.out _ (below_then (below_alloc (Below.refl _ _) _) (below_drewN hB _))).mono ?_; rintro e w2 ⟨rfl, hb2⟩; have hB := below_then (below_drewN hB _) hb2; obtain ⟨f0, f1, f2, f3, f4, f5⟩ := box6 hB)
    | (go_at_call 52; refine (HG.out _ _ _ _ (own_new (base := 0) (strs [[80], B, da, [27, 92]]) rfl (Nat.zero_le _) rfl (by simp [strs]))).mono ?_; rintro e w3 ⟨v, rfl, hown, hb3⟩; have hsz := hB.size; have hB := below_then (below_alloc hB _) hb3))
  all_goals go_wp2
  all_goals go_ret2
  all_goals exact ⟨_, rfl, own_base hown (by simp at hsz ⊢; omega), below_then (below_alloc (Below.refl _ _) _) hB⟩

set_option maxRecDepth 100000 in
set_option maxHeartbeats 2000000 in
theorem wire_Put_4 (v : Value) (s : SeqD) (w : World) (h : SeqIs w v s) (hm : mayL s = 0) (htab : TabOk w) (hk : s.kind = 4) :
    Calls Tryd.prog 23 #[v] w (PutIs w s) := by
  have hM := fun W (h1 : Below w.heap.size w W) => wire_May v s W (h.later h1)
  obtain ⟨m1, m2, m3, m4⟩ := may_ok s hm
  obtain ⟨l1, l2⟩ := parts_len s hm
  have hB := fun W (h1 : Below w.heap.size w W) => wire_body v s W (h.later h1) m3 m4 (htab.later h1) (by omega)
  obtain ⟨pv, rfl, _, _, _, _, _, hf0, hf1, _⟩ := h
  have hP : PutIs w s = fun e w' => ∃ v, e = .returned (.tuple #[v, .int .i64 0]) ∧ w'.ownsRow w.heap.size 5 1 v (27 :: Lib.join (partsL s) []).length (Lib.byteCells (27 :: Lib.join (partsL s) [])) ∧ Below w.heap.size w w' := by
    funext e w'
    unfold PutIs putS
    rw [if_pos hm, hm]
  rw [hP]
  rw [hm] at hM
  have hL : partsL s = [[93], s.data, [27, 92]] := by unfold partsL; simp [*]
  rw [hL] at l1 l2 ⊢
  clear hP hL
  obtain ⟨B, hBe⟩ : ∃ B, bodyL s = B := ⟨_, rfl⟩
  (try rw [hBe] at hB)
  (try rw [hBe] at l1)
  (try rw [hBe] at l2)
  (try rw [hBe])
  clear hBe
  obtain ⟨k, pr, ll, it, fi, da⟩ := s
  simp only at *
  subst hk
  have HM := Lib.hid hM
  have HB := Lib.hid hB
  have HG := Lib.hid (fun W v n base (h : World.ownsRow W base 9 1 v n (strs [[93], da, [27, 92]])) => wire_glue v n _ base W h l1 l2)
  obtain ⟨J, hJ⟩ : ∃ J, Lib.join [[93], da, [27, 92]] [] = J := ⟨_, rfl⟩
  rw [hJ] at HG ⊢
  clear hM hB l1 l2 m1 m2 m3 m4 hm hJ
  go_enter Tryd.func23, Tryd.ntmps23
  go_wp2_with (first
    | (go_at_call 25; refine (HM.out _ (below_alloc (Below.refl _ _) _)).mono ?_; rintro e w1 ⟨rfl, hb1⟩; have hB := hb1; obtain ⟨e0, e1, e2, e3, e4, e5⟩ := box6 hB)
    | (go_at_call 53; refine (HB.out _ (below_then (below_alloc (Below.refl _ _) _) hB)).mono ?_; rintro e w2 ⟨rfl, hb2⟩; have hB := below_then hB hb2)
    | (go_at_call 52; refine (HG.out _ _ _ _ (own_new (base := 0) (strs [[93], da, [27, 92]]) rfl (Nat.zero_le _) rfl (by simp [strs]))).mono ?_; rintro e w3 ⟨v, rfl, hown, hb3⟩; have hsz := hB.size; have hB := below_then (below_alloc hB _) hb3))
  go_ret2
  exact ⟨_, rfl, own_base hown (by simp at hsz ⊢; omega), below_then (below_alloc (Below.refl _ _) _) hB⟩

set_option maxRecDepth 100000 in
set_option maxHeartbeats 2000000 in
theorem wire_Put_5 (v : Value) (s : SeqD) (w : World) (h : SeqIs w v s) (hm : mayL s = 0) (htab : TabOk w) (hk1 : s.kind ≠ 1) (hk2 : s.kind ≠ 2) (hk3 : s.kind ≠ 3) (hk4 : s.kind ≠ 4) :
    Calls Tryd.prog 23 #[v] w (PutIs w s) := by
  have hM := fun W (h1 : Below w.heap.size w W) => wire_May v s W (h.later h1)
  obtain ⟨m1, m2, m3, m4⟩ := may_ok s hm
  obtain ⟨l1, l2⟩ := parts_len s hm
  have hB := fun W (h1 : Below w.heap.size w W) => wire_body v s W (h.later h1) m3 m4 (htab.later h1) (by omega)
  obtain ⟨pv, rfl, _, _, _, _, _, hf0, hf1, _⟩ := h
  have hP : PutIs w s = fun e w' => ∃ v, e = .returned (.tuple #[v, .int .i64 0]) ∧ w'.ownsRow w.heap.size 5 1 v (27 :: Lib.join (partsL s) []).length (Lib.byteCells (27 :: Lib.join (partsL s) [])) ∧ Below w.heap.size w w' := by
    funext e w'
    unfold PutIs putS
    rw [if_pos hm, hm]
  rw [hP]
  rw [hm] at hM
  have hL : partsL s = [bodyL s] := by unfold partsL; simp [*]
  rw [hL] at l1 l2 ⊢
  clear hP hL
  obtain ⟨B, hBe⟩ : ∃ B, bodyL s = B := ⟨_, rfl⟩
  (try rw [hBe] at hB)
  (try rw [hBe] at l1)
  (try rw [hBe] at l2)
  (try rw [hBe])
  clear hBe
  obtain ⟨k, pr, ll, it, fi, da⟩ := s
  simp only at *
  have q1 : (k == 1) = false := by simpa using hk1
  have q2 : (k == 2) = false := by simpa using hk2
  have q3 : (k == 3) = false := by simpa using hk3
  have q4 : (k == 4) = false := by simpa using hk4
  have HM := Lib.hid hM
  have HB := Lib.hid hB
  have HG := Lib.hid (fun W v n base (h : World.ownsRow W base 9 1 v n (strs [B])) => wire_glue v n _ base W h l1 l2)
  obtain ⟨J, hJ⟩ : ∃ J, Lib.join [B] [] = J := ⟨_, rfl⟩
  rw [hJ] at HG ⊢
  clear hM hB l1 l2 m1 m2 m3 m4 hm hJ
  go_enter Tryd.func23, Tryd.ntmps23
  go_wp2_with (first
    | (go_at_call 25; refine (HM.out _ (below_alloc (Below.refl _ _) _)).mono ?_; rintro e w1 ⟨rfl, hb1⟩; have hB := hb1; obtain ⟨e0, e1, e2, e3, e4, e5⟩ := box6 hB)
    | (go_at_call 53; refine (HB.out _ (below_then (below_alloc (Below.refl _ _) _) hB)).mono ?_; rintro e w2 ⟨rfl, hb2⟩; have hB := below_then hB hb2)
    | (go_at_call 52; refine (HG.out _ _ _ _ (own_new (base := 0) (strs [B]) rfl (Nat.zero_le _) rfl (by simp [strs]))).mono ?_; rintro e w3 ⟨v, rfl, hown, hb3⟩; have hsz := hB.size; have hB := below_then (below_alloc hB _) hb3))
  go_ret2
  exact ⟨_, rfl, own_base hown (by simp at hsz ⊢; omega), below_then (below_alloc (Below.refl _ _) _) hB⟩

/-- wire.Put: a sequence's bytes, or an error's number. -/
theorem wire_Put (v : Value) (s : SeqD) (w : World) (h : SeqIs w v s) (htab : TabOk w) : Calls Tryd.prog 23 #[v] w (PutIs w s) := by
  by_cases hm : mayL s = 0
  · by_cases h1 : s.kind = 1
    · exact wire_Put_1 v s w h hm htab h1
    by_cases h2 : s.kind = 2
    · exact wire_Put_2 v s w h hm htab h2
    by_cases h3 : s.kind = 3
    · exact wire_Put_3 v s w h hm htab h3
    by_cases h4 : s.kind = 4
    · exact wire_Put_4 v s w h hm htab h4
    exact wire_Put_5 v s w h hm htab h1 h2 h3 h4
  · exact wire_Put_bad v s w h hm
end Go.Proofs.YtieppcjpbjefkaaDoor
