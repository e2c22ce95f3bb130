/- LegacyText: a key's text is sent as it is, without Ctrl; with it the control character that its character folds to, or the character.    Conditions: what the call reads is of bulk at most 1048576; the listed tables hold what their initialisers lay. -/
import Derived.Test.YtieppcjpbjefkaaDoorA6
set_option linter.all false

/- The law of texts, in plain words. -/
namespace Go.Proofs.YtieppcjpbjefkaaDoor
open Go.RowKit Go.Proofs

def tModes : ModesD := ⟨false, false, false, false, false, false, false, 0, 0, 0⟩
def tKey (k : KeyD) (m : Int) (t : List UInt8) : KeyD := { k with typ := 1, mods := m, text := t }
theorem two_bits (m : Int) (h0 : 0 ≤ m) (h1 : m ≤ 255) : hasB (m % 2) 2 = false ∧ hasB (m % 2) 4 = false ∧ hasB (m % 2 + 4) 2 = false ∧ hasB (m % 2 + 4) 4 = true ∧ max (m % 2 + 4) 0 % 2 = max (m % 2) 0 % 2 ∧ 0 ≤ m % 2 ∧ m % 2 ≤ 1 := by
  have h : ∀ k : Fin 256, hasB ((k.val : Int) % 2) 2 = false ∧ hasB ((k.val : Int) % 2) 4 = false ∧ hasB ((k.val : Int) % 2 + 4) 2 = false ∧ hasB ((k.val : Int) % 2 + 4) 4 = true ∧ max ((k.val : Int) % 2 + 4) 0 % 2 = max ((k.val : Int) % 2) 0 % 2 ∧ 0 ≤ (k.val : Int) % 2 ∧ (k.val : Int) % 2 ≤ 1 := by decide +kernel
  have := h ⟨m.toNat, by omega⟩
  simpa only [Int.toNat_of_nonneg h0] using this
theorem mayK_t (k : KeyD) (m : Int) (h : mayK k = true) (h0 : 0 ≤ m) (h1 : m ≤ 255) : mayK (tKey k m k.text) = true := by
  unfold mayK tKey at *
  simp only [Bool.and_eq_true, decide_eq_true_eq] at *
  obtain ⟨a, b, c, d, e, f⟩ := h
  exact ⟨a, b, c, ⟨h0, h1⟩, ⟨by omega, by omega⟩, f⟩
theorem mayK_nil (k : KeyD) (m : Int) (h : mayK k = true) (h0 : 0 ≤ m) (h1 : m ≤ 255) : mayK (tKey k m []) = true := by
  unfold mayK tKey at *
  simp only [Bool.and_eq_true, decide_eq_true_eq] at *
  obtain ⟨a, b, c, d, e, f⟩ := h
  exact ⟨⟨by decide +kernel, by decide +kernel⟩, b, c, ⟨h0, h1⟩, ⟨by omega, by omega⟩, f⟩
theorem legacyL_t (k : KeyD) (m : Int) (t : List UInt8) (h : mayK (tKey k m t) = true) (hk : (lookD k.code).kind = 1) (h2 : hasB m 2 = false) : legacyL tModes (tKey k m t) = textRaw (tKey k m t) := by
  unfold legacyL
  have hc : (tKey k m t).code = k.code ∧ (tKey k m t).typ = 1 ∧ (tKey k m t).mods = m := ⟨rfl, rfl, rfl⟩
  rw [if_pos ⟨h, by rw [hc.2.1]; decide⟩, hc.1]
  simp only [hk, if_true]
  unfold textL2 aheadL
  rw [hc.2.2, h2]
  simp
/-- what the law compares -/
theorem text_law (k : KeyD) (h : mayK k = true) (hk : (lookD k.code).kind = 1) :
    (k.text = [] ∨ legacyL tModes (tKey k (k.mods % 2) k.text) = k.text) ∧
    ((foldL (shownL (tKey k (k.mods % 2 + 4) k.text))).2 = true → legacyL tModes (tKey k (k.mods % 2 + 4) k.text) = [UInt8.ofNat (foldL (shownL (tKey k (k.mods % 2 + 4) k.text))).1.toNat]) ∧
    ((foldL (shownL (tKey k (k.mods % 2 + 4) k.text))).2 = false → legacyL tModes (tKey k (k.mods % 2 + 4) k.text) = legacyL tModes (tKey k (k.mods % 2) [])) := by
  have hm : 0 ≤ k.mods ∧ k.mods ≤ 255 := by
    have h' := h
    unfold mayK at h'
    simp only [Bool.and_eq_true, decide_eq_true_eq] at h'
    exact h'.2.2.2.1
  obtain ⟨b1, b2, b3, b4, b5, b6, b7⟩ := two_bits k.mods hm.1 hm.2
  rw [legacyL_t k _ _ (mayK_t k _ h b6 (by omega)) hk b1, legacyL_t k _ _ (mayK_t k _ h (by omega) (by omega)) hk b3, legacyL_t k _ _ (mayK_nil k _ h b6 (by omega)) hk b1]
  have hs : shownL (tKey k (k.mods % 2) []) = shownL (tKey k (k.mods % 2 + 4) k.text) := by
    unfold shownL tKey
    simp only [b5]
  have e : ∀ x t, (tKey k x t).mods = x ∧ (tKey k x t).text = t := fun _ _ => ⟨rfl, rfl⟩
  refine ⟨?_, fun hf => ?_, fun hf => ?_⟩
  · by_cases ht : k.text = []
    · exact .inl ht
    · refine .inr ?_
      unfold textRaw
      rw [(e _ _).1, (e _ _).2, if_pos ⟨b2, ht⟩]
  · unfold textRaw
    rw [(e _ _).1, (e _ _).2, if_neg (by rw [b4]; simp), hf, b4]
    simp
  · unfold textRaw
    rw [(e _ _).1, (e _ _).2, if_neg (by rw [b4]; simp), hf, (e _ _).1, (e _ _).2, if_neg (by simp), hs, b2]
    simp
theorem text_lens (k : KeyD) (m : Int) (t : List UInt8) (hk : (lookD k.code).kind = 1) : (legacyL tModes (tKey k m t)).length ≤ t.length + 5 := by
  unfold legacyL
  split
  · have hc : (tKey k m t).code = k.code := rfl
    rw [hc]
    simp only [hk, if_true]
    unfold textL2 aheadL textRaw
    have h4 := putL_length (shownL (tKey k m t))
    have h5 : (toU8 (putL (shownL (tKey k m t)))).length ≤ 4 := by unfold toU8; rw [List.length_map]; exact h4
    have h6 : (tKey k m t).text = t := rfl
    rw [h6]
    (repeat' split) <;> simp <;> omega
  · simp
end Go.Proofs.YtieppcjpbjefkaaDoor

/- The laws of package 11: LegacyText. -/
namespace Go.Proofs.YtieppcjpbjefkaaDoor
open Go.RowKit Go.Proofs Go.Shelf

set_option maxRecDepth 100000 in
set_option maxHeartbeats 4000000 in
theorem legacyText_not (k : KeyD) (w : World) (hk : k.wf) (ht : k.text.length ≤ 1000000000000) (htab : TabOk w) (h : mayK k = false ∨ (lookD k.code).kind ≠ 1) :
    Calls Tryd.prog 4 #[k.v] w (BoolIs w true) := by
  obtain ⟨W0, hW0⟩ : ∃ W0, w.alloc (.cells #[.int .i64 k.code, .int .i64 k.mods, .int .i64 k.typ, .int .i64 k.shifted, .int .i64 k.base, .string ⟨k.text.toArray⟩] 25) = W0 := ⟨_, rfl⟩
  have hB0 : Below w.heap.size w W0 := by rw [← hW0]; go_grown
  have kb : KBoxed W0 w.heap.size k := by rw [← hW0]; exact KBoxed.new w k
  have HA := Lib.hid (law11_awake W0 (htab.later hB0))
  have HM := Lib.hid (fun W => ref_May k W hk ht)
  have HL := Lib.hid (fun W => show Calls Tryd.prog 17 #[.int .i64 k.code] W _ from keys_Look k.code W)
  unfold EntryIsD EntryIs at HL
  have KB := Lib.hid kb
  have HB0 := Lib.hid hB0
  have HTY := Lib.hid h
  have hfk := field_kind
  obtain ⟨code, mods, typ, sh, base, text⟩ := k
  unfold KeyD.v at *
  unfold BoolIs at HA HM
  simp only at HA HM HL HTY
  obtain ⟨b, hb⟩ : ∃ b, mayK ⟨code, mods, typ, sh, base, text⟩ = b := ⟨_, rfl⟩
  rw [hb] at HM HTY
  clear hb h kb hB0 htab hk ht
  cases b
  · subst hW0
    go_enter Tryd.func4, Tryd.ntmps4
    go_wp2_with (first
      | (go_at_call 15; refine HA.out.mono ?_; rintro e w1 ⟨rfl, hb1⟩; have KB1 := Lib.hid (KB.out.later hb1); have hB := below_then HB0.out hb1; obtain ⟨⟨e0, e1, e2, e3, e4, e5⟩, ef⟩ := KB1.out.facts)
      | (go_at_call 16; refine (HM.out _).mono ?_; rintro e w2 ⟨rfl, hb2⟩; have KB2 := Lib.hid (KB1.out.later hb2); have hB := below_then hB hb2; obtain ⟨⟨e0, e1, e2, e3, e4, e5⟩, ef⟩ := KB2.out.facts))
    go_ret
    exact ⟨rfl, hB⟩
  have n1 : (lookD code).kind ≠ 1 := by rcases HTY.out with h | h; cases h; exact h
  obtain ⟨E, hE⟩ : ∃ E, lookD code = E := ⟨_, rfl⟩
  rw [hE] at HL n1
  obtain ⟨kd, fin, num, chr, pad⟩ := E
  simp only at HL n1
  have d1 : (kd != 1) = true := by simpa using n1
  clear HTY hE n1
  subst hW0
  go_enter Tryd.func4, Tryd.ntmps4
  go_wp2_with (first
    | (go_at_call 15; refine HA.out.mono ?_; rintro e w1 ⟨rfl, hb1⟩; have KB1 := Lib.hid (KB.out.later hb1); have hB := below_then HB0.out hb1; obtain ⟨⟨e0, e1, e2, e3, e4, e5⟩, ef⟩ := KB1.out.facts)
    | (go_at_call 16; refine (HM.out _).mono ?_; rintro e w2 ⟨rfl, hb2⟩; have KB2 := Lib.hid (KB1.out.later hb2); have hB := below_then hB hb2; obtain ⟨⟨e0, e1, e2, e3, e4, e5⟩, ef⟩ := KB2.out.facts)
    | (go_at_call 17; refine (HL.out _).mono ?_; rintro e w3 ⟨rfl, hb3⟩; have hB := below_then hB hb3))
  go_ret
  exact ⟨rfl, hB⟩

set_option maxRecDepth 100000 in
set_option maxHeartbeats 4000000 in
theorem legacyText_main (k : KeyD) (w : World) (hk : k.wf) (ht : k.text.length ≤ 1000000000000) (htab : TabOk w) (h : mayK k = true) (hkd : (lookD k.code).kind = 1) :
    Calls Tryd.prog 4 #[k.v] w (BoolIs w true) := by
  obtain ⟨W0, hW0⟩ : ∃ W0, w.alloc (.cells #[.int .i64 k.code, .int .i64 k.mods, .int .i64 k.typ, .int .i64 k.shifted, .int .i64 k.base, .string ⟨k.text.toArray⟩] 25) = W0 := ⟨_, rfl⟩
  have hB0 : Below w.heap.size w W0 := by rw [← hW0]; go_grown
  have kb : KBoxed W0 w.heap.size k := by rw [← hW0]; exact KBoxed.new w k
  have hm : 0 ≤ k.mods ∧ k.mods ≤ 255 := by
    have h' := h
    unfold mayK at h'
    simp only [Bool.and_eq_true, decide_eq_true_eq] at h'
    exact h'.2.2.2.1
  obtain ⟨b1, b2, b3, b4, b5, b6, b7⟩ := two_bits k.mods hm.1 hm.2
  obtain ⟨hT1, hT2, hT3⟩ := text_law k h hkd
  have hwf : ∀ y t, 0 ≤ y → y ≤ 255 → (tKey k y t).wf := fun y t h0 h1 => ⟨hk.code, by unfold i64r tKey; simp only; omega, by unfold i64r tKey; simp only; omega, hk.shifted, hk.base⟩
  have hK1 := fun W hW => legacy_Key tModes (tKey k (k.mods % 2) k.text) W (hwf _ _ b6 (by omega)) ht (htab.later hW)
  have hK2 := fun W hW => legacy_Key tModes (tKey k (k.mods % 2 + 4) k.text) W (hwf _ _ (by omega) (by omega)) ht (htab.later hW)
  have hK3 := fun W hW => legacy_Key tModes (tKey k (k.mods % 2) []) W (hwf _ _ b6 (by omega)) (by simp [tKey]) (htab.later hW)
  have hSh := fun W => ref_Shown (tKey k (k.mods % 2 + 4) k.text) W (hwf _ _ (by omega) (by omega))
  have hl2 := text_lens k (k.mods % 2 + 4) k.text hkd
  have hsr : i64r (shownL (tKey k (k.mods % 2 + 4) k.text)) := by
    have hw := hwf (k.mods % 2 + 4) k.text (by omega) (by omega)
    obtain ⟨c0, c1⟩ := hw.code
    obtain ⟨s0, s1⟩ := hw.shifted
    unfold shownL i64r
    (repeat' split) <;> omega
  have hFo := fun W => ref_Fold (shownL (tKey k (k.mods % 2 + 4) k.text)) W hsr
  obtain ⟨s, hs⟩ : ∃ s, shownL (tKey k (k.mods % 2 + 4) k.text) = s := ⟨_, rfl⟩
  rw [hs] at hT2 hT3 hSh hFo
  have hfr := foldL_range s
  obtain ⟨f, is, hfi⟩ : ∃ f is, foldL s = (f, is) := ⟨_, _, rfl⟩
  rw [hfi] at hT2 hT3 hFo hfr
  simp only at hT2 hT3 hfr
  obtain ⟨l1, hl1⟩ : ∃ l, legacyL tModes (tKey k (k.mods % 2) k.text) = l := ⟨_, rfl⟩
  obtain ⟨l2, hll2⟩ : ∃ l, legacyL tModes (tKey k (k.mods % 2 + 4) k.text) = l := ⟨_, rfl⟩
  obtain ⟨l3, hl3⟩ : ∃ l, legacyL tModes (tKey k (k.mods % 2) []) = l := ⟨_, rfl⟩
  rw [hl1] at hT1 hK1
  rw [hll2] at hT2 hT3 hK2 hl2
  rw [hl3] at hT3 hK3
  have HA := Lib.hid (law11_awake W0 (htab.later hB0))
  have HM := Lib.hid (fun W => h ▸ ref_May k W hk ht)
  have HL := Lib.hid (fun W => hkd ▸ (show Calls Tryd.prog 17 #[.int .i64 k.code] W (EntryIs W (lookD k.code).kind _ _ _ _) from keys_Look k.code W))
  unfold EntryIs at HL
  have KB := Lib.hid kb
  have HB0 := Lib.hid hB0
  have hfk := field_kind
  have hmx : Tryd.prog.follows .mixedOrders = true := by kernel_rfl
  obtain ⟨code, mods, typ, sh, base, text⟩ := k
  unfold KeyD.v ModesD.v tKey tModes BytesRet IntIs FoldIs at *
  unfold BoolIs at HA HM
  simp only at HA HM HL hK1 hK2 hK3 hSh hFo hm b6 b7 hT1 hl2 ht
  have HK1 := Lib.hid hK1
  have HK2 := Lib.hid hK2
  have HK3 := Lib.hid hK3
  have HSh := Lib.hid hSh
  have HFo := Lib.hid hFo
  have hmd : mods % 2 = mods % 2 := rfl
  obtain ⟨x, hx⟩ : ∃ x, mods % 2 = x := ⟨_, rfl⟩
  rw [hx] at HK1 HK2 HK3 HSh b6 b7
  obtain ⟨m0, m1⟩ := hm
  have HT1 := Lib.hid hT1
  have HT2 := Lib.hid hT2
  have HT3 := Lib.hid hT3
  have HFR := Lib.hid hfr
  have HLL := Lib.hid (show l2.length ≤ 1000000000005 from by omega)
  clear hK1 hK2 hK3 hSh hFo kb hB0 htab hk h b1 b2 b3 b4 b5 hT1 hT2 hT3 hs hfi hl1 hll2 hl3 hl2 hsr hfr hmd ht hwf hkd
  subst hW0
  cases is
  case true =>
    obtain rfl := HT2.out rfl
    simp only [List.length_cons, List.length_nil, Nat.zero_add] at *
    have HWR : Hid (IntKind.i64.wrap f = f) := Lib.hid (by have := HFR.out; rw [IntKind.wrap_i64]; omega)
    have HU : Hid (((UInt8.ofNat f.toNat).toNat : Int) = f) := Lib.hid (by
      have := HFR.out
      rw [UInt8.toNat_ofNat']
      omega)
    by_cases htx : text = []
    · subst htx
      go_enter Tryd.func4, Tryd.ntmps4
      go_wp2_with (first
        | (go_at_call 15; refine HA.out.mono ?_; rintro e w1 ⟨rfl, hb1⟩; have KB1 := Lib.hid (KB.out.later hb1); have hB := below_then HB0.out hb1; obtain ⟨⟨e0, e1, e2, e3, e4, e5⟩, ef⟩ := KB1.out.facts)
        | (go_at_call 16; refine (HM.out _).mono ?_; rintro e w2 ⟨rfl, hb2⟩; have KB2 := Lib.hid (KB1.out.later hb2); have hB := below_then hB hb2; obtain ⟨⟨e0, e1, e2, e3, e4, e5⟩, ef⟩ := KB2.out.facts)
        | (go_at_call 17; refine (HL.out _).mono ?_; rintro e w3 ⟨rfl, hb3⟩; have KB3 := Lib.hid (KB2.out.later hb3); have hB := below_then hB hb3; obtain ⟨⟨e0, e1, e2, e3, e4, e5⟩, ef⟩ := KB3.out.facts; simp only at e0 e1 e2 e3 e4 e5)
        | ((with_reducible refine (HK1.out _ ((hB.setCell (p := ⟨w.heap.size, 2, none⟩) (by simp) _).setCell (p := ⟨w.heap.size, 1, none⟩) (by simp) _)).mono ?_); rintro e w4 ⟨v4, rfl, hv4, hb4⟩
           have KB4 := Lib.hid (((KB3.out.set_typ 1).set_mods x).later hb4); have hB := below_then ((hB.setCell (p := ⟨w.heap.size, 2, none⟩) (by simp) (.int .i64 1)).setCell (p := ⟨w.heap.size, 1, none⟩) (by simp) (.int .i64 x)) hb4
           obtain ⟨⟨e0, e1, e2, e3, e4, e5⟩, ef⟩ := KB4.out.facts; simp only at e0 e1 e2 e3 e4 e5
           have hs4 := str_of hv4)
        | ((with_reducible refine (HK2.out _ (hB.setCell (p := ⟨w.heap.size, 1, none⟩) (by simp) _)).mono ?_); rintro e w5 ⟨v5, rfl, hv5, hb5⟩
           have KB5 := Lib.hid ((KB4.out.set_mods (x + 4)).later hb5); have hB := below_then (hB.setCell (p := ⟨w.heap.size, 1, none⟩) (by simp) (.int .i64 (x + 4))) hb5
           obtain ⟨⟨e0, e1, e2, e3, e4, e5⟩, ef⟩ := KB5.out.facts; simp only at e0 e1 e2 e3 e4 e5
           have HV5 := Lib.hid hv5)
        | ((with_reducible refine (HSh.out _).mono ?_); rintro e w6 ⟨rfl, hb6⟩; have KB6 := Lib.hid (KB5.out.later hb6); have hB := below_then hB hb6; obtain ⟨⟨e0, e1, e2, e3, e4, e5⟩, ef⟩ := KB6.out.facts; simp only at e0 e1 e2 e3 e4 e5; have HV6 := Lib.hid (HV5.out.later hb6))
        | ((with_reducible refine (HFo.out _).mono ?_); rintro e w7 ⟨rfl, hb7⟩; have KB7 := Lib.hid (KB6.out.later hb7); have hB := below_then hB hb7; obtain ⟨⟨e0, e1, e2, e3, e4, e5⟩, ef⟩ := KB7.out.facts; simp only at e0 e1 e2 e3 e4 e5; have HV7 := Lib.hid (HV6.out.later hb7)))
      obtain ⟨p5, c5, rfl, hc5, hq5⟩ := HV7.out
      have KB8 := Lib.hid (show KBoxed ((w7.setCell ⟨w.heap.size, 5, none⟩ (.string ⟨#[]⟩)).setCell ⟨w.heap.size, 1, none⟩ (.int .i64 x)) w.heap.size ⟨code, x, 1, sh, base, []⟩ from (KB7.out.set_text []).set_mods x)
      have HB8 := Lib.hid ((hB.setCell (p := ⟨w.heap.size, 5, none⟩) (by simp) (.string ⟨#[]⟩)).setCell (p := ⟨w.heap.size, 1, none⟩) (by simp) (.int .i64 x))
      have HV8 := Lib.hid (show BytesR ((w7.setCell ⟨w.heap.size, 5, none⟩ (.string ⟨#[]⟩)).setCell ⟨w.heap.size, 1, none⟩ (.int .i64 x)) (.slice p5 1 c5) [UInt8.ofNat f.toNat] from BytesR.set_int (BytesR.set_at (show BytesR w7 (.slice p5 1 c5) [UInt8.ofNat f.toNat] from ⟨p5, c5, rfl, hc5, hq5⟩) e5 (fun _ h => by cases h) _) (KB7.out.set_text []).facts.1.2.1 _)
      refine wp_region_noPanic ?_
      refine wp_region_held_drew (S := fun W => Below ((w7.setCell ⟨w.heap.size, 5, none⟩ (.string ⟨#[]⟩)).setCell ⟨w.heap.size, 1, none⟩ (.int .i64 x)).heap.size ((w7.setCell ⟨w.heap.size, 5, none⟩ (.string ⟨#[]⟩)).setCell ⟨w.heap.size, 1, none⟩ (.int .i64 x)) W) hmx (below_drewN (Below.refl _ _) 1) (fun hHeld => ?_)
      obtain ⟨g, o, rfl, hload⟩ : ∃ g o, p5 = some ⟨g, o, none⟩ ∧ ∀ W, Below ((w7.setCell ⟨w.heap.size, 5, none⟩ (.string ⟨#[]⟩)).setCell ⟨w.heap.size, 1, none⟩ (.int .i64 x)).heap.size ((w7.setCell ⟨w.heap.size, 5, none⟩ (.string ⟨#[]⟩)).setCell ⟨w.heap.size, 1, none⟩ (.int .i64 x)) W → W.cell? ⟨g, o, none⟩ = some (.int .u8 f) := by
        rcases hq5 with ⟨_, h, _⟩ | ⟨g, o, rfl, _⟩
        · cases h
        · refine ⟨g, o, rfl, fun W hW => ?_⟩
          obtain ⟨p', c', he, _, h9⟩ := HV8.out.later hW
          cases he
          rcases h9 with ⟨h, _⟩ | ⟨g', o', he, hcl⟩
          · cases h
          · cases he
            have h8 := hcl 0 _ rfl
            rw [Nat.add_zero] at h8
            rw [h8, HU.out]
      refine takeH 0 57 (.bool true) ⟨_, rfl, rfl, by rfl, fun W hW => by go_simp⟩ (by kernel_rfl) (by kernel_rfl) (by kernel_rfl) (fun _ _ _ _ _ h => h) hHeld ?_
      simp only [List.setIfInBounds_toArray, List.set_cons_zero, List.set_cons_succ]
      refine takeH 1 58 (.bool true) ⟨_, rfl, rfl, by rfl, fun W hW => by go_simp⟩ (by kernel_rfl) (by kernel_rfl) (by kernel_rfl) (fun _ _ _ _ _ h => h) hHeld ?_
      simp only [List.setIfInBounds_toArray, List.set_cons_zero, List.set_cons_succ]
      refine takeH 2 59 (.bool true) ⟨_, rfl, rfl, by rfl, fun W hW => by go_simp⟩ (by kernel_rfl) (by kernel_rfl) (by kernel_rfl) (fun _ _ _ _ _ h => h) hHeld ?_
      simp only [List.setIfInBounds_toArray, List.set_cons_zero, List.set_cons_succ]
      refine takeH 3 60 (.bool true) ⟨_, rfl, rfl, by rfl, fun W hW => by go_simp⟩ (by kernel_rfl) (by kernel_rfl) (by kernel_rfl) (fun _ _ _ _ _ h => h) hHeld ?_
      simp only [List.setIfInBounds_toArray, List.set_cons_zero, List.set_cons_succ]
      refine takeH 4 61 (.bool true) ⟨_, rfl, rfl, by rfl, fun W hW => by go_simp⟩ (by kernel_rfl) (by kernel_rfl) (by kernel_rfl) (fun _ _ _ _ _ h => h) hHeld ?_
      simp only [List.setIfInBounds_toArray, List.set_cons_zero, List.set_cons_succ]
      refine takeH 5 62 (.bool true) ⟨_, rfl, rfl, by rfl, fun W hW => by go_simp⟩ (by kernel_rfl) (by kernel_rfl) (by kernel_rfl) (fun _ _ _ _ _ h => h) hHeld ?_
      simp only [List.setIfInBounds_toArray, List.set_cons_zero, List.set_cons_succ]
      refine takeH 6 63 (.bool true) ⟨_, rfl, rfl, by rfl, fun W hW => by go_simp⟩ (by kernel_rfl) (by kernel_rfl) (by kernel_rfl) (fun _ _ _ _ _ h => h) hHeld ?_
      simp only [List.setIfInBounds_toArray, List.set_cons_zero, List.set_cons_succ]
      refine takeH 7 64 (.slice (some ⟨g, o, none⟩) 1 c5) ⟨_, rfl, rfl, by rfl, fun W hW => by go_simp⟩ (by kernel_rfl) (by kernel_rfl) (by kernel_rfl) (fun _ _ _ _ _ h => h) hHeld ?_
      simp only [List.setIfInBounds_toArray, List.set_cons_zero, List.set_cons_succ]
      refine takeH 8 65 (.int .i64 1) ⟨_, rfl, rfl, by rfl, fun W hW => by go_simp⟩ (by kernel_rfl) (by kernel_rfl) (by kernel_rfl) (fun _ _ _ _ _ h => h) hHeld ?_
      simp only [List.setIfInBounds_toArray, List.set_cons_zero, List.set_cons_succ]
      refine takeH 9 66 (.bool true) ⟨_, rfl, rfl, by rfl, fun W hW => by go_simp⟩ (by kernel_rfl) (by kernel_rfl) (by kernel_rfl) (fun _ _ _ _ _ h => h) hHeld ?_
      simp only [List.setIfInBounds_toArray, List.set_cons_zero, List.set_cons_succ]
      refine takeH 10 67 (.bool true) ⟨_, rfl, rfl, by rfl, fun W hW => by go_simp⟩ (by kernel_rfl) (by kernel_rfl) (by kernel_rfl) (fun _ _ _ _ _ h => h) hHeld ?_
      simp only [List.setIfInBounds_toArray, List.set_cons_zero, List.set_cons_succ]
      refine takeH 11 68 (.bool true) ⟨_, rfl, rfl, by rfl, fun W hW => by go_simp⟩ (by kernel_rfl) (by kernel_rfl) (by kernel_rfl) (fun _ _ _ _ _ h => h) hHeld ?_
      simp only [List.setIfInBounds_toArray, List.set_cons_zero, List.set_cons_succ]
      refine takeH 12 69 (.slice (some ⟨g, o, none⟩) 1 c5) ⟨_, rfl, rfl, by rfl, fun W hW => by go_simp⟩ (by kernel_rfl) (by kernel_rfl) (by kernel_rfl) (fun _ _ _ _ _ h => h) hHeld ?_
      simp only [List.setIfInBounds_toArray, List.set_cons_zero, List.set_cons_succ]
      refine takeH 13 70 (.pointer (some ⟨g, o, none⟩)) ⟨_, rfl, rfl, by rfl, fun W hW => by go_simp⟩ (by kernel_rfl) (by kernel_rfl) (by kernel_rfl) (fun _ _ _ _ _ h => h) hHeld ?_
      simp only [List.setIfInBounds_toArray, List.set_cons_zero, List.set_cons_succ]
      refine takeH 14 71 (.int .u8 f) ⟨_, rfl, rfl, by rfl, fun W hW => by have hx := hload W hW; go_simp⟩ (by kernel_rfl) (by kernel_rfl) (by kernel_rfl) (fun _ _ _ _ _ h => h) hHeld ?_
      simp only [List.setIfInBounds_toArray, List.set_cons_zero, List.set_cons_succ]
      refine takeH 15 72 (.int .i64 f) ⟨_, rfl, rfl, by rfl, fun W hW => by have hwr := HWR.out; go_simp⟩ (by kernel_rfl) (by kernel_rfl) (by kernel_rfl) (fun _ _ _ _ _ h => h) hHeld ?_
      simp only [List.setIfInBounds_toArray, List.set_cons_zero, List.set_cons_succ]
      refine takeH 16 73 (.int .i64 f) ⟨_, rfl, rfl, by rfl, fun W hW => by go_simp⟩ (by kernel_rfl) (by kernel_rfl) (by kernel_rfl) (fun _ _ _ _ _ h => h) hHeld ?_
      simp only [List.setIfInBounds_toArray, List.set_cons_zero, List.set_cons_succ]
      refine takeH 17 74 (.bool true) ⟨_, rfl, rfl, by rfl, fun W hW => by go_simp⟩ (by kernel_rfl) (by kernel_rfl) (by kernel_rfl) (fun _ _ _ _ _ h => h) hHeld ?_
      simp only [List.setIfInBounds_toArray, List.set_cons_zero, List.set_cons_succ]
      refine takeH 18 75 (.bool true) ⟨_, rfl, rfl, by rfl, fun W hW => by go_simp⟩ (by kernel_rfl) (by kernel_rfl) (by kernel_rfl) (fun _ _ _ _ _ h => h) hHeld ?_
      simp only [List.setIfInBounds_toArray, List.set_cons_zero, List.set_cons_succ]
      refine takeH 19 76 (.bool true) ⟨_, rfl, rfl, by rfl, fun W hW => by go_simp⟩ (by kernel_rfl) (by kernel_rfl) (by kernel_rfl) (fun _ _ _ _ _ h => h) hHeld ?_
      simp only [List.setIfInBounds_toArray, List.set_cons_zero, List.set_cons_succ]
      refine skipH 20 77 ⟨_, rfl, rfl, by rfl⟩ (by kernel_rfl) (by kernel_rfl) (by kernel_rfl) (fun _ _ _ _ _ h => h) hHeld ?_
      simp only [List.setIfInBounds_toArray, List.set_cons_zero, List.set_cons_succ]
      refine skipH 21 78 ⟨_, rfl, rfl, by rfl⟩ (by kernel_rfl) (by kernel_rfl) (by kernel_rfl) (fun _ _ _ _ _ h => h) hHeld ?_
      simp only [List.setIfInBounds_toArray, List.set_cons_zero, List.set_cons_succ]
      refine skipH 22 79 ⟨_, rfl, rfl, by rfl⟩ (by kernel_rfl) (by kernel_rfl) (by kernel_rfl) (fun _ _ _ _ _ h => h) hHeld ?_
      simp only [List.setIfInBounds_toArray, List.set_cons_zero, List.set_cons_succ]
      refine skipH 23 80 ⟨_, rfl, rfl, by rfl⟩ (by kernel_rfl) (by kernel_rfl) (by kernel_rfl) (fun _ _ _ _ _ h => h) hHeld ?_
      simp only [List.setIfInBounds_toArray, List.set_cons_zero, List.set_cons_succ]
      refine skipH 24 81 ⟨_, rfl, rfl, by rfl⟩ (by kernel_rfl) (by kernel_rfl) (by kernel_rfl) (fun _ _ _ _ _ h => h) hHeld ?_
      simp only [List.setIfInBounds_toArray, List.set_cons_zero, List.set_cons_succ]
      refine skipH 25 82 ⟨_, rfl, rfl, by rfl⟩ (by kernel_rfl) (by kernel_rfl) (by kernel_rfl) (fun _ _ _ _ _ h => h) hHeld ?_
      simp only [List.setIfInBounds_toArray, List.set_cons_zero, List.set_cons_succ]
      refine skipH 26 83 ⟨_, rfl, rfl, by rfl⟩ (by kernel_rfl) (by kernel_rfl) (by kernel_rfl) (fun _ _ _ _ _ h => h) hHeld ?_
      simp only [List.setIfInBounds_toArray, List.set_cons_zero, List.set_cons_succ]
      refine skipH 27 84 ⟨_, rfl, rfl, by rfl⟩ (by kernel_rfl) (by kernel_rfl) (by kernel_rfl) (fun _ _ _ _ _ h => h) hHeld ?_
      simp only [List.setIfInBounds_toArray, List.set_cons_zero, List.set_cons_succ]
      refine skipH 28 85 ⟨_, rfl, rfl, by rfl⟩ (by kernel_rfl) (by kernel_rfl) (by kernel_rfl) (fun _ _ _ _ _ h => h) hHeld ?_
      simp only [List.setIfInBounds_toArray, List.set_cons_zero, List.set_cons_succ]
      refine skipH 29 86 ⟨_, rfl, rfl, by rfl⟩ (by kernel_rfl) (by kernel_rfl) (by kernel_rfl) (fun _ _ _ _ _ h => h) hHeld ?_
      simp only [List.setIfInBounds_toArray, List.set_cons_zero, List.set_cons_succ]
      refine skipH 30 87 ⟨_, rfl, rfl, by rfl⟩ (by kernel_rfl) (by kernel_rfl) (by kernel_rfl) (fun _ _ _ _ _ h => h) hHeld ?_
      simp only [List.setIfInBounds_toArray, List.set_cons_zero, List.set_cons_succ]
      refine takeH 31 88 (.bool true) ⟨_, rfl, rfl, by rfl, fun W hW => by go_simp⟩ (by kernel_rfl) (by kernel_rfl) (by kernel_rfl) (fun _ _ _ _ _ h => h) hHeld ?_
      simp only [List.setIfInBounds_toArray, List.set_cons_zero, List.set_cons_succ]
      refine takeH 32 89 (.bool true) ⟨_, rfl, rfl, by rfl, fun W hW => by go_simp⟩ (by kernel_rfl) (by kernel_rfl) (by kernel_rfl) (fun _ _ _ _ _ h => h) hHeld ?_
      simp only [List.setIfInBounds_toArray, List.set_cons_zero, List.set_cons_succ]
      refine takeH 33 2 (.bool true) ⟨_, rfl, rfl, by rfl, fun W hW => by go_simp⟩ (by kernel_rfl) (by kernel_rfl) (by kernel_rfl) (fun _ _ _ _ _ h => h) hHeld ?_
      simp only [List.setIfInBounds_toArray, List.set_cons_zero, List.set_cons_succ]
      refine wpAnyH_done (by kernel_rfl) ?_ _
      refine NoPanic.normal ?_
      go_wp2
      go_ret
      exact ⟨rfl, below_then HB8.out hHeld⟩
    · obtain rfl := HT1.out.resolve_left htx
      go_enter Tryd.func4, Tryd.ntmps4
      go_wp2_with (first
        | (go_at_call 15; refine HA.out.mono ?_; rintro e w1 ⟨rfl, hb1⟩; have KB1 := Lib.hid (KB.out.later hb1); have hB := below_then HB0.out hb1; obtain ⟨⟨e0, e1, e2, e3, e4, e5⟩, ef⟩ := KB1.out.facts)
        | (go_at_call 16; refine (HM.out _).mono ?_; rintro e w2 ⟨rfl, hb2⟩; have KB2 := Lib.hid (KB1.out.later hb2); have hB := below_then hB hb2; obtain ⟨⟨e0, e1, e2, e3, e4, e5⟩, ef⟩ := KB2.out.facts)
        | (go_at_call 17; refine (HL.out _).mono ?_; rintro e w3 ⟨rfl, hb3⟩; have KB3 := Lib.hid (KB2.out.later hb3); have hB := below_then hB hb3; obtain ⟨⟨e0, e1, e2, e3, e4, e5⟩, ef⟩ := KB3.out.facts; simp only at e0 e1 e2 e3 e4 e5)
        | ((with_reducible refine (HK1.out _ ((hB.setCell (p := ⟨w.heap.size, 2, none⟩) (by simp) _).setCell (p := ⟨w.heap.size, 1, none⟩) (by simp) _)).mono ?_); rintro e w4 ⟨v4, rfl, hv4, hb4⟩
           have KB4 := Lib.hid (((KB3.out.set_typ 1).set_mods x).later hb4); have hB := below_then ((hB.setCell (p := ⟨w.heap.size, 2, none⟩) (by simp) (.int .i64 1)).setCell (p := ⟨w.heap.size, 1, none⟩) (by simp) (.int .i64 x)) hb4
           obtain ⟨⟨e0, e1, e2, e3, e4, e5⟩, ef⟩ := KB4.out.facts; simp only at e0 e1 e2 e3 e4 e5
           have hs4 := str_of hv4)
        | ((with_reducible refine (HK2.out _ (hB.setCell (p := ⟨w.heap.size, 1, none⟩) (by simp) _)).mono ?_); rintro e w5 ⟨v5, rfl, hv5, hb5⟩
           have KB5 := Lib.hid ((KB4.out.set_mods (x + 4)).later hb5); have hB := below_then (hB.setCell (p := ⟨w.heap.size, 1, none⟩) (by simp) (.int .i64 (x + 4))) hb5
           obtain ⟨⟨e0, e1, e2, e3, e4, e5⟩, ef⟩ := KB5.out.facts; simp only at e0 e1 e2 e3 e4 e5
           have HV5 := Lib.hid hv5)
        | ((with_reducible refine (HSh.out _).mono ?_); rintro e w6 ⟨rfl, hb6⟩; have KB6 := Lib.hid (KB5.out.later hb6); have hB := below_then hB hb6; obtain ⟨⟨e0, e1, e2, e3, e4, e5⟩, ef⟩ := KB6.out.facts; simp only at e0 e1 e2 e3 e4 e5; have HV6 := Lib.hid (HV5.out.later hb6))
        | ((with_reducible refine (HFo.out _).mono ?_); rintro e w7 ⟨rfl, hb7⟩; have KB7 := Lib.hid (KB6.out.later hb7); have hB := below_then hB hb7; obtain ⟨⟨e0, e1, e2, e3, e4, e5⟩, ef⟩ := KB7.out.facts; simp only at e0 e1 e2 e3 e4 e5; have HV7 := Lib.hid (HV6.out.later hb7)))
      obtain ⟨p5, c5, rfl, hc5, hq5⟩ := HV7.out
      have KB8 := Lib.hid (show KBoxed ((w7.setCell ⟨w.heap.size, 5, none⟩ (.string ⟨#[]⟩)).setCell ⟨w.heap.size, 1, none⟩ (.int .i64 x)) w.heap.size ⟨code, x, 1, sh, base, []⟩ from (KB7.out.set_text []).set_mods x)
      have HB8 := Lib.hid ((hB.setCell (p := ⟨w.heap.size, 5, none⟩) (by simp) (.string ⟨#[]⟩)).setCell (p := ⟨w.heap.size, 1, none⟩) (by simp) (.int .i64 x))
      have HV8 := Lib.hid (show BytesR ((w7.setCell ⟨w.heap.size, 5, none⟩ (.string ⟨#[]⟩)).setCell ⟨w.heap.size, 1, none⟩ (.int .i64 x)) (.slice p5 1 c5) [UInt8.ofNat f.toNat] from BytesR.set_int (BytesR.set_at (show BytesR w7 (.slice p5 1 c5) [UInt8.ofNat f.toNat] from ⟨p5, c5, rfl, hc5, hq5⟩) e5 (fun _ h => by cases h) _) (KB7.out.set_text []).facts.1.2.1 _)
      refine wp_region_noPanic ?_
      refine wp_region_held_drew (S := fun W => Below ((w7.setCell ⟨w.heap.size, 5, none⟩ (.string ⟨#[]⟩)).setCell ⟨w.heap.size, 1, none⟩ (.int .i64 x)).heap.size ((w7.setCell ⟨w.heap.size, 5, none⟩ (.string ⟨#[]⟩)).setCell ⟨w.heap.size, 1, none⟩ (.int .i64 x)) W) hmx (below_drewN (Below.refl _ _) 1) (fun hHeld => ?_)
      obtain ⟨g, o, rfl, hload⟩ : ∃ g o, p5 = some ⟨g, o, none⟩ ∧ ∀ W, Below ((w7.setCell ⟨w.heap.size, 5, none⟩ (.string ⟨#[]⟩)).setCell ⟨w.heap.size, 1, none⟩ (.int .i64 x)).heap.size ((w7.setCell ⟨w.heap.size, 5, none⟩ (.string ⟨#[]⟩)).setCell ⟨w.heap.size, 1, none⟩ (.int .i64 x)) W → W.cell? ⟨g, o, none⟩ = some (.int .u8 f) := by
        rcases hq5 with ⟨_, h, _⟩ | ⟨g, o, rfl, _⟩
        · cases h
        · refine ⟨g, o, rfl, fun W hW => ?_⟩
          obtain ⟨p', c', he, _, h9⟩ := HV8.out.later hW
          cases he
          rcases h9 with ⟨h, _⟩ | ⟨g', o', he, hcl⟩
          · cases h
          · cases he
            have h8 := hcl 0 _ rfl
            rw [Nat.add_zero] at h8
            rw [h8, HU.out]
      refine takeH 0 57 (.bool true) ⟨_, rfl, rfl, by rfl, fun W hW => by go_simp⟩ (by kernel_rfl) (by kernel_rfl) (by kernel_rfl) (fun _ _ _ _ _ h => h) hHeld ?_
      simp only [List.setIfInBounds_toArray, List.set_cons_zero, List.set_cons_succ]
      refine takeH 1 58 (.bool true) ⟨_, rfl, rfl, by rfl, fun W hW => by go_simp⟩ (by kernel_rfl) (by kernel_rfl) (by kernel_rfl) (fun _ _ _ _ _ h => h) hHeld ?_
      simp only [List.setIfInBounds_toArray, List.set_cons_zero, List.set_cons_succ]
      refine takeH 2 59 (.bool true) ⟨_, rfl, rfl, by rfl, fun W hW => by go_simp⟩ (by kernel_rfl) (by kernel_rfl) (by kernel_rfl) (fun _ _ _ _ _ h => h) hHeld ?_
      simp only [List.setIfInBounds_toArray, List.set_cons_zero, List.set_cons_succ]
      refine takeH 3 60 (.bool true) ⟨_, rfl, rfl, by rfl, fun W hW => by go_simp⟩ (by kernel_rfl) (by kernel_rfl) (by kernel_rfl) (fun _ _ _ _ _ h => h) hHeld ?_
      simp only [List.setIfInBounds_toArray, List.set_cons_zero, List.set_cons_succ]
      refine takeH 4 61 (.bool true) ⟨_, rfl, rfl, by rfl, fun W hW => by go_simp⟩ (by kernel_rfl) (by kernel_rfl) (by kernel_rfl) (fun _ _ _ _ _ h => h) hHeld ?_
      simp only [List.setIfInBounds_toArray, List.set_cons_zero, List.set_cons_succ]
      refine takeH 5 62 (.bool true) ⟨_, rfl, rfl, by rfl, fun W hW => by go_simp⟩ (by kernel_rfl) (by kernel_rfl) (by kernel_rfl) (fun _ _ _ _ _ h => h) hHeld ?_
      simp only [List.setIfInBounds_toArray, List.set_cons_zero, List.set_cons_succ]
      refine takeH 6 63 (.bool true) ⟨_, rfl, rfl, by rfl, fun W hW => by go_simp⟩ (by kernel_rfl) (by kernel_rfl) (by kernel_rfl) (fun _ _ _ _ _ h => h) hHeld ?_
      simp only [List.setIfInBounds_toArray, List.set_cons_zero, List.set_cons_succ]
      refine takeH 7 64 (.slice (some ⟨g, o, none⟩) 1 c5) ⟨_, rfl, rfl, by rfl, fun W hW => by go_simp⟩ (by kernel_rfl) (by kernel_rfl) (by kernel_rfl) (fun _ _ _ _ _ h => h) hHeld ?_
      simp only [List.setIfInBounds_toArray, List.set_cons_zero, List.set_cons_succ]
      refine takeH 8 65 (.int .i64 1) ⟨_, rfl, rfl, by rfl, fun W hW => by go_simp⟩ (by kernel_rfl) (by kernel_rfl) (by kernel_rfl) (fun _ _ _ _ _ h => h) hHeld ?_
      simp only [List.setIfInBounds_toArray, List.set_cons_zero, List.set_cons_succ]
      refine takeH 9 66 (.bool true) ⟨_, rfl, rfl, by rfl, fun W hW => by go_simp⟩ (by kernel_rfl) (by kernel_rfl) (by kernel_rfl) (fun _ _ _ _ _ h => h) hHeld ?_
      simp only [List.setIfInBounds_toArray, List.set_cons_zero, List.set_cons_succ]
      refine takeH 10 67 (.bool true) ⟨_, rfl, rfl, by rfl, fun W hW => by go_simp⟩ (by kernel_rfl) (by kernel_rfl) (by kernel_rfl) (fun _ _ _ _ _ h => h) hHeld ?_
      simp only [List.setIfInBounds_toArray, List.set_cons_zero, List.set_cons_succ]
      refine takeH 11 68 (.bool true) ⟨_, rfl, rfl, by rfl, fun W hW => by go_simp⟩ (by kernel_rfl) (by kernel_rfl) (by kernel_rfl) (fun _ _ _ _ _ h => h) hHeld ?_
      simp only [List.setIfInBounds_toArray, List.set_cons_zero, List.set_cons_succ]
      refine takeH 12 69 (.slice (some ⟨g, o, none⟩) 1 c5) ⟨_, rfl, rfl, by rfl, fun W hW => by go_simp⟩ (by kernel_rfl) (by kernel_rfl) (by kernel_rfl) (fun _ _ _ _ _ h => h) hHeld ?_
      simp only [List.setIfInBounds_toArray, List.set_cons_zero, List.set_cons_succ]
      refine takeH 13 70 (.pointer (some ⟨g, o, none⟩)) ⟨_, rfl, rfl, by rfl, fun W hW => by go_simp⟩ (by kernel_rfl) (by kernel_rfl) (by kernel_rfl) (fun _ _ _ _ _ h => h) hHeld ?_
      simp only [List.setIfInBounds_toArray, List.set_cons_zero, List.set_cons_succ]
      refine takeH 14 71 (.int .u8 f) ⟨_, rfl, rfl, by rfl, fun W hW => by have hx := hload W hW; go_simp⟩ (by kernel_rfl) (by kernel_rfl) (by kernel_rfl) (fun _ _ _ _ _ h => h) hHeld ?_
      simp only [List.setIfInBounds_toArray, List.set_cons_zero, List.set_cons_succ]
      refine takeH 15 72 (.int .i64 f) ⟨_, rfl, rfl, by rfl, fun W hW => by have hwr := HWR.out; go_simp⟩ (by kernel_rfl) (by kernel_rfl) (by kernel_rfl) (fun _ _ _ _ _ h => h) hHeld ?_
      simp only [List.setIfInBounds_toArray, List.set_cons_zero, List.set_cons_succ]
      refine takeH 16 73 (.int .i64 f) ⟨_, rfl, rfl, by rfl, fun W hW => by go_simp⟩ (by kernel_rfl) (by kernel_rfl) (by kernel_rfl) (fun _ _ _ _ _ h => h) hHeld ?_
      simp only [List.setIfInBounds_toArray, List.set_cons_zero, List.set_cons_succ]
      refine takeH 17 74 (.bool true) ⟨_, rfl, rfl, by rfl, fun W hW => by go_simp⟩ (by kernel_rfl) (by kernel_rfl) (by kernel_rfl) (fun _ _ _ _ _ h => h) hHeld ?_
      simp only [List.setIfInBounds_toArray, List.set_cons_zero, List.set_cons_succ]
      refine takeH 18 75 (.bool true) ⟨_, rfl, rfl, by rfl, fun W hW => by go_simp⟩ (by kernel_rfl) (by kernel_rfl) (by kernel_rfl) (fun _ _ _ _ _ h => h) hHeld ?_
      simp only [List.setIfInBounds_toArray, List.set_cons_zero, List.set_cons_succ]
      refine takeH 19 76 (.bool true) ⟨_, rfl, rfl, by rfl, fun W hW => by go_simp⟩ (by kernel_rfl) (by kernel_rfl) (by kernel_rfl) (fun _ _ _ _ _ h => h) hHeld ?_
      simp only [List.setIfInBounds_toArray, List.set_cons_zero, List.set_cons_succ]
      refine skipH 20 77 ⟨_, rfl, rfl, by rfl⟩ (by kernel_rfl) (by kernel_rfl) (by kernel_rfl) (fun _ _ _ _ _ h => h) hHeld ?_
      simp only [List.setIfInBounds_toArray, List.set_cons_zero, List.set_cons_succ]
      refine skipH 21 78 ⟨_, rfl, rfl, by rfl⟩ (by kernel_rfl) (by kernel_rfl) (by kernel_rfl) (fun _ _ _ _ _ h => h) hHeld ?_
      simp only [List.setIfInBounds_toArray, List.set_cons_zero, List.set_cons_succ]
      refine skipH 22 79 ⟨_, rfl, rfl, by rfl⟩ (by kernel_rfl) (by kernel_rfl) (by kernel_rfl) (fun _ _ _ _ _ h => h) hHeld ?_
      simp only [List.setIfInBounds_toArray, List.set_cons_zero, List.set_cons_succ]
      refine skipH 23 80 ⟨_, rfl, rfl, by rfl⟩ (by kernel_rfl) (by kernel_rfl) (by kernel_rfl) (fun _ _ _ _ _ h => h) hHeld ?_
      simp only [List.setIfInBounds_toArray, List.set_cons_zero, List.set_cons_succ]
      refine skipH 24 81 ⟨_, rfl, rfl, by rfl⟩ (by kernel_rfl) (by kernel_rfl) (by kernel_rfl) (fun _ _ _ _ _ h => h) hHeld ?_
      simp only [List.setIfInBounds_toArray, List.set_cons_zero, List.set_cons_succ]
      refine skipH 25 82 ⟨_, rfl, rfl, by rfl⟩ (by kernel_rfl) (by kernel_rfl) (by kernel_rfl) (fun _ _ _ _ _ h => h) hHeld ?_
      simp only [List.setIfInBounds_toArray, List.set_cons_zero, List.set_cons_succ]
      refine skipH 26 83 ⟨_, rfl, rfl, by rfl⟩ (by kernel_rfl) (by kernel_rfl) (by kernel_rfl) (fun _ _ _ _ _ h => h) hHeld ?_
      simp only [List.setIfInBounds_toArray, List.set_cons_zero, List.set_cons_succ]
      refine skipH 27 84 ⟨_, rfl, rfl, by rfl⟩ (by kernel_rfl) (by kernel_rfl) (by kernel_rfl) (fun _ _ _ _ _ h => h) hHeld ?_
      simp only [List.setIfInBounds_toArray, List.set_cons_zero, List.set_cons_succ]
      refine skipH 28 85 ⟨_, rfl, rfl, by rfl⟩ (by kernel_rfl) (by kernel_rfl) (by kernel_rfl) (fun _ _ _ _ _ h => h) hHeld ?_
      simp only [List.setIfInBounds_toArray, List.set_cons_zero, List.set_cons_succ]
      refine skipH 29 86 ⟨_, rfl, rfl, by rfl⟩ (by kernel_rfl) (by kernel_rfl) (by kernel_rfl) (fun _ _ _ _ _ h => h) hHeld ?_
      simp only [List.setIfInBounds_toArray, List.set_cons_zero, List.set_cons_succ]
      refine skipH 30 87 ⟨_, rfl, rfl, by rfl⟩ (by kernel_rfl) (by kernel_rfl) (by kernel_rfl) (fun _ _ _ _ _ h => h) hHeld ?_
      simp only [List.setIfInBounds_toArray, List.set_cons_zero, List.set_cons_succ]
      refine takeH 31 88 (.bool true) ⟨_, rfl, rfl, by rfl, fun W hW => by go_simp⟩ (by kernel_rfl) (by kernel_rfl) (by kernel_rfl) (fun _ _ _ _ _ h => h) hHeld ?_
      simp only [List.setIfInBounds_toArray, List.set_cons_zero, List.set_cons_succ]
      refine takeH 32 89 (.bool true) ⟨_, rfl, rfl, by rfl, fun W hW => by go_simp⟩ (by kernel_rfl) (by kernel_rfl) (by kernel_rfl) (fun _ _ _ _ _ h => h) hHeld ?_
      simp only [List.setIfInBounds_toArray, List.set_cons_zero, List.set_cons_succ]
      refine takeH 33 2 (.bool true) ⟨_, rfl, rfl, by rfl, fun W hW => by go_simp⟩ (by kernel_rfl) (by kernel_rfl) (by kernel_rfl) (fun _ _ _ _ _ h => h) hHeld ?_
      simp only [List.setIfInBounds_toArray, List.set_cons_zero, List.set_cons_succ]
      refine wpAnyH_done (by kernel_rfl) ?_ _
      refine NoPanic.normal ?_
      go_wp2
      go_ret
      exact ⟨rfl, below_then HB8.out hHeld⟩
  case false =>
    obtain rfl := HT3.out rfl
    have hl2 := HLL.out
    by_cases htx : text = []
    · subst htx
      go_enter Tryd.func4, Tryd.ntmps4
      go_wp2_with (first
        | (go_at_call 15; refine HA.out.mono ?_; rintro e w1 ⟨rfl, hb1⟩; have KB1 := Lib.hid (KB.out.later hb1); have hB := below_then HB0.out hb1; obtain ⟨⟨e0, e1, e2, e3, e4, e5⟩, ef⟩ := KB1.out.facts)
        | (go_at_call 16; refine (HM.out _).mono ?_; rintro e w2 ⟨rfl, hb2⟩; have KB2 := Lib.hid (KB1.out.later hb2); have hB := below_then hB hb2; obtain ⟨⟨e0, e1, e2, e3, e4, e5⟩, ef⟩ := KB2.out.facts)
        | (go_at_call 17; refine (HL.out _).mono ?_; rintro e w3 ⟨rfl, hb3⟩; have KB3 := Lib.hid (KB2.out.later hb3); have hB := below_then hB hb3; obtain ⟨⟨e0, e1, e2, e3, e4, e5⟩, ef⟩ := KB3.out.facts; simp only at e0 e1 e2 e3 e4 e5)
        | ((with_reducible refine (HK1.out _ ((hB.setCell (p := ⟨w.heap.size, 2, none⟩) (by simp) _).setCell (p := ⟨w.heap.size, 1, none⟩) (by simp) _)).mono ?_); rintro e w4 ⟨v4, rfl, hv4, hb4⟩
           have KB4 := Lib.hid (((KB3.out.set_typ 1).set_mods x).later hb4); have hB := below_then ((hB.setCell (p := ⟨w.heap.size, 2, none⟩) (by simp) (.int .i64 1)).setCell (p := ⟨w.heap.size, 1, none⟩) (by simp) (.int .i64 x)) hb4
           obtain ⟨⟨e0, e1, e2, e3, e4, e5⟩, ef⟩ := KB4.out.facts; simp only at e0 e1 e2 e3 e4 e5
           have hs4 := str_of hv4)
        | ((with_reducible refine (HK2.out _ (hB.setCell (p := ⟨w.heap.size, 1, none⟩) (by simp) _)).mono ?_); rintro e w5 ⟨v5, rfl, hv5, hb5⟩
           have KB5 := Lib.hid ((KB4.out.set_mods (x + 4)).later hb5); have hB := below_then (hB.setCell (p := ⟨w.heap.size, 1, none⟩) (by simp) (.int .i64 (x + 4))) hb5
           obtain ⟨⟨e0, e1, e2, e3, e4, e5⟩, ef⟩ := KB5.out.facts; simp only at e0 e1 e2 e3 e4 e5
           have HV5 := Lib.hid hv5)
        | ((with_reducible refine (HSh.out _).mono ?_); rintro e w6 ⟨rfl, hb6⟩; have KB6 := Lib.hid (KB5.out.later hb6); have hB := below_then hB hb6; obtain ⟨⟨e0, e1, e2, e3, e4, e5⟩, ef⟩ := KB6.out.facts; simp only at e0 e1 e2 e3 e4 e5; have HV6 := Lib.hid (HV5.out.later hb6))
        | ((with_reducible refine (HFo.out _).mono ?_); rintro e w7 ⟨rfl, hb7⟩; have KB7 := Lib.hid (KB6.out.later hb7); have hB := below_then hB hb7; obtain ⟨⟨e0, e1, e2, e3, e4, e5⟩, ef⟩ := KB7.out.facts; simp only at e0 e1 e2 e3 e4 e5; have HV7 := Lib.hid (HV6.out.later hb7)))
      obtain ⟨p5, c5, rfl, hc5, hq5⟩ := HV7.out
      have KB8 := Lib.hid (show KBoxed ((w7.setCell ⟨w.heap.size, 5, none⟩ (.string ⟨#[]⟩)).setCell ⟨w.heap.size, 1, none⟩ (.int .i64 x)) w.heap.size ⟨code, x, 1, sh, base, []⟩ from (KB7.out.set_text []).set_mods x)
      have HB8 := Lib.hid ((hB.setCell (p := ⟨w.heap.size, 5, none⟩) (by simp) (.string ⟨#[]⟩)).setCell (p := ⟨w.heap.size, 1, none⟩) (by simp) (.int .i64 x))
      have HV8 := Lib.hid (show BytesR ((w7.setCell ⟨w.heap.size, 5, none⟩ (.string ⟨#[]⟩)).setCell ⟨w.heap.size, 1, none⟩ (.int .i64 x)) (.slice p5 l2.length c5) l2 from BytesR.set_int (BytesR.set_at (show BytesR w7 (.slice p5 l2.length c5) l2 from ⟨p5, c5, rfl, hc5, hq5⟩) e5 (fun _ h => by cases h) _) (KB7.out.set_text []).facts.1.2.1 _)
      refine wp_region_noPanic ?_
      refine wp_region_held_drew (S := fun W => Below ((w7.setCell ⟨w.heap.size, 5, none⟩ (.string ⟨#[]⟩)).setCell ⟨w.heap.size, 1, none⟩ (.int .i64 x)).heap.size ((w7.setCell ⟨w.heap.size, 5, none⟩ (.string ⟨#[]⟩)).setCell ⟨w.heap.size, 1, none⟩ (.int .i64 x)) W) hmx (below_drewN (Below.refl _ _) 1) (fun hHeld => ?_)
      refine takeH 0 57 (.bool true) ⟨_, rfl, rfl, by rfl, fun W hW => by go_simp⟩ (by kernel_rfl) (by kernel_rfl) (by kernel_rfl) (fun _ _ _ _ _ h => h) hHeld ?_
      simp only [List.setIfInBounds_toArray, List.set_cons_zero, List.set_cons_succ]
      refine takeH 1 58 (.bool true) ⟨_, rfl, rfl, by rfl, fun W hW => by go_simp⟩ (by kernel_rfl) (by kernel_rfl) (by kernel_rfl) (fun _ _ _ _ _ h => h) hHeld ?_
      simp only [List.setIfInBounds_toArray, List.set_cons_zero, List.set_cons_succ]
      refine takeH 2 59 (.bool true) ⟨_, rfl, rfl, by rfl, fun W hW => by go_simp⟩ (by kernel_rfl) (by kernel_rfl) (by kernel_rfl) (fun _ _ _ _ _ h => h) hHeld ?_
      simp only [List.setIfInBounds_toArray, List.set_cons_zero, List.set_cons_succ]
      refine takeH 3 60 (.bool true) ⟨_, rfl, rfl, by rfl, fun W hW => by go_simp⟩ (by kernel_rfl) (by kernel_rfl) (by kernel_rfl) (fun _ _ _ _ _ h => h) hHeld ?_
      simp only [List.setIfInBounds_toArray, List.set_cons_zero, List.set_cons_succ]
      refine takeH 4 61 (.bool true) ⟨_, rfl, rfl, by rfl, fun W hW => by go_simp⟩ (by kernel_rfl) (by kernel_rfl) (by kernel_rfl) (fun _ _ _ _ _ h => h) hHeld ?_
      simp only [List.setIfInBounds_toArray, List.set_cons_zero, List.set_cons_succ]
      refine takeH 5 62 (.bool false) ⟨_, rfl, rfl, by rfl, fun W hW => by go_simp⟩ (by kernel_rfl) (by kernel_rfl) (by kernel_rfl) (fun _ _ _ _ _ h => h) hHeld ?_
      simp only [List.setIfInBounds_toArray, List.set_cons_zero, List.set_cons_succ]
      refine takeH 6 63 (.bool false) ⟨_, rfl, rfl, by rfl, fun W hW => by go_simp⟩ (by kernel_rfl) (by kernel_rfl) (by kernel_rfl) (fun _ _ _ _ _ h => h) hHeld ?_
      simp only [List.setIfInBounds_toArray, List.set_cons_zero, List.set_cons_succ]
      refine skipH 7 64 ⟨_, rfl, rfl, by rfl⟩ (by kernel_rfl) (by kernel_rfl) (by kernel_rfl) (fun _ _ _ _ _ h => h) hHeld ?_
      simp only [List.setIfInBounds_toArray, List.set_cons_zero, List.set_cons_succ]
      refine skipH 8 65 ⟨_, rfl, rfl, by rfl⟩ (by kernel_rfl) (by kernel_rfl) (by kernel_rfl) (fun _ _ _ _ _ h => h) hHeld ?_
      simp only [List.setIfInBounds_toArray, List.set_cons_zero, List.set_cons_succ]
      refine skipH 9 66 ⟨_, rfl, rfl, by rfl⟩ (by kernel_rfl) (by kernel_rfl) (by kernel_rfl) (fun _ _ _ _ _ h => h) hHeld ?_
      simp only [List.setIfInBounds_toArray, List.set_cons_zero, List.set_cons_succ]
      refine takeH 10 67 (.bool false) ⟨_, rfl, rfl, by rfl, fun W hW => by go_simp⟩ (by kernel_rfl) (by kernel_rfl) (by kernel_rfl) (fun _ _ _ _ _ h => h) hHeld ?_
      simp only [List.setIfInBounds_toArray, List.set_cons_zero, List.set_cons_succ]
      refine takeH 11 68 (.bool false) ⟨_, rfl, rfl, by rfl, fun W hW => by go_simp⟩ (by kernel_rfl) (by kernel_rfl) (by kernel_rfl) (fun _ _ _ _ _ h => h) hHeld ?_
      simp only [List.setIfInBounds_toArray, List.set_cons_zero, List.set_cons_succ]
      refine skipH 12 69 ⟨_, rfl, rfl, by rfl⟩ (by kernel_rfl) (by kernel_rfl) (by kernel_rfl) (fun _ _ _ _ _ h => h) hHeld ?_
      simp only [List.setIfInBounds_toArray, List.set_cons_zero, List.set_cons_succ]
      refine skipH 13 70 ⟨_, rfl, rfl, by rfl⟩ (by kernel_rfl) (by kernel_rfl) (by kernel_rfl) (fun _ _ _ _ _ h => h) hHeld ?_
      simp only [List.setIfInBounds_toArray, List.set_cons_zero, List.set_cons_succ]
      refine skipH 14 71 ⟨_, rfl, rfl, by rfl⟩ (by kernel_rfl) (by kernel_rfl) (by kernel_rfl) (fun _ _ _ _ _ h => h) hHeld ?_
      simp only [List.setIfInBounds_toArray, List.set_cons_zero, List.set_cons_succ]
      refine skipH 15 72 ⟨_, rfl, rfl, by rfl⟩ (by kernel_rfl) (by kernel_rfl) (by kernel_rfl) (fun _ _ _ _ _ h => h) hHeld ?_
      simp only [List.setIfInBounds_toArray, List.set_cons_zero, List.set_cons_succ]
      refine skipH 16 73 ⟨_, rfl, rfl, by rfl⟩ (by kernel_rfl) (by kernel_rfl) (by kernel_rfl) (fun _ _ _ _ _ h => h) hHeld ?_
      simp only [List.setIfInBounds_toArray, List.set_cons_zero, List.set_cons_succ]
      refine skipH 17 74 ⟨_, rfl, rfl, by rfl⟩ (by kernel_rfl) (by kernel_rfl) (by kernel_rfl) (fun _ _ _ _ _ h => h) hHeld ?_
      simp only [List.setIfInBounds_toArray, List.set_cons_zero, List.set_cons_succ]
      refine takeH 18 75 (.bool false) ⟨_, rfl, rfl, by rfl, fun W hW => by go_simp⟩ (by kernel_rfl) (by kernel_rfl) (by kernel_rfl) (fun _ _ _ _ _ h => h) hHeld ?_
      simp only [List.setIfInBounds_toArray, List.set_cons_zero, List.set_cons_succ]
      refine takeH 19 76 (.bool false) ⟨_, rfl, rfl, by rfl, fun W hW => by go_simp⟩ (by kernel_rfl) (by kernel_rfl) (by kernel_rfl) (fun _ _ _ _ _ h => h) hHeld ?_
      simp only [List.setIfInBounds_toArray, List.set_cons_zero, List.set_cons_succ]
      refine takeH 20 77 (.bool false) ⟨_, rfl, rfl, by rfl, fun W hW => by go_simp⟩ (by kernel_rfl) (by kernel_rfl) (by kernel_rfl) (fun _ _ _ _ _ h => h) hHeld ?_
      simp only [List.setIfInBounds_toArray, List.set_cons_zero, List.set_cons_succ]
      refine takeH 21 78 (.bool true) ⟨_, rfl, rfl, by rfl, fun W hW => by go_simp⟩ (by kernel_rfl) (by kernel_rfl) (by kernel_rfl) (fun _ _ _ _ _ h => h) hHeld ?_
      simp only [List.setIfInBounds_toArray, List.set_cons_zero, List.set_cons_succ]
      refine takeH 22 79 (.bool true) ⟨_, rfl, rfl, by rfl, fun W hW => by go_simp⟩ (by kernel_rfl) (by kernel_rfl) (by kernel_rfl) (fun _ _ _ _ _ h => h) hHeld ?_
      simp only [List.setIfInBounds_toArray, List.set_cons_zero, List.set_cons_succ]
      refine takeH 23 80 (.slice p5 l2.length c5) ⟨_, rfl, rfl, by rfl, fun W hW => by go_simp⟩ (by kernel_rfl) (by kernel_rfl) (by kernel_rfl) (fun _ _ _ _ _ h => h) hHeld ?_
      simp only [List.setIfInBounds_toArray, List.set_cons_zero, List.set_cons_succ]
      refine takeH 24 81 (.string ⟨l2.toArray⟩) ⟨_, rfl, rfl, by rfl, fun W hW => by have hx := str_of (HV8.out.later hW); go_simp⟩ (by kernel_rfl) (by kernel_rfl) (by kernel_rfl) (fun _ _ _ _ _ h => h) hHeld ?_
      simp only [List.setIfInBounds_toArray, List.set_cons_zero, List.set_cons_succ]
      refine takeH 25 82 (.agg #[.bool false, .bool false, .bool false, .bool false, .bool false, .bool false, .bool false, .int .i64 0, .int .i64 0, .int .i64 0]) ⟨_, rfl, rfl, by rfl, fun W hW => by go_simp⟩ (by kernel_rfl) (by kernel_rfl) (by kernel_rfl) (fun _ _ _ _ _ h => h) hHeld ?_
      simp only [List.setIfInBounds_toArray, List.set_cons_zero, List.set_cons_succ]
      refine takeH 26 83 (.agg #[.int .i64 code, .int .i64 x, .int .i64 1, .int .i64 sh, .int .i64 base, .string ⟨#[]⟩]) ⟨_, rfl, rfl, by rfl, fun W hW => by obtain ⟨⟨e0, e1, e2, e3, e4, e5⟩, ef⟩ := (KB8.out.later hW).facts; simp only at e0 e1 e2 e3 e4 e5; go_simp⟩ (by kernel_rfl) (by kernel_rfl) (by kernel_rfl) (fun _ _ _ _ _ h => h) hHeld ?_
      simp only [List.setIfInBounds_toArray, List.set_cons_zero, List.set_cons_succ]
      refine callH 27 84 18 #[.agg #[.bool false, .bool false, .bool false, .bool false, .bool false, .bool false, .bool false, .int .i64 0, .int .i64 0, .int .i64 0], .agg #[.int .i64 code, .int .i64 x, .int .i64 1, .int .i64 sh, .int .i64 base, .string ⟨#[]⟩]] ⟨_, rfl, rfl, by rfl, by go_simp⟩ (by kernel_rfl) (HK3.out _ (below_then HB8.out hHeld)) ?_
      rintro e w9 ⟨v9, rfl, hv9, hb9⟩
      refine ⟨_, rfl, below_then hHeld hb9, fun hHeld2 => ?_⟩
      simp only [List.setIfInBounds_toArray, List.set_cons_zero, List.set_cons_succ]
      refine stepH 28 85 (.string ⟨l2.toArray⟩) w9 ⟨_, rfl, rfl, by rfl, by have hx := str_of hv9; go_simp⟩ (by kernel_rfl) hHeld2 ?_
      simp only [List.setIfInBounds_toArray, List.set_cons_zero, List.set_cons_succ]
      refine takeH 29 86 (.bool true) ⟨_, rfl, rfl, by rfl, fun W hW => by go_simp⟩ (by kernel_rfl) (by kernel_rfl) (by kernel_rfl) (fun _ _ _ _ _ h => h) hHeld2 ?_
      simp only [List.setIfInBounds_toArray, List.set_cons_zero, List.set_cons_succ]
      refine takeH 30 87 (.bool true) ⟨_, rfl, rfl, by rfl, fun W hW => by go_simp⟩ (by kernel_rfl) (by kernel_rfl) (by kernel_rfl) (fun _ _ _ _ _ h => h) hHeld2 ?_
      simp only [List.setIfInBounds_toArray, List.set_cons_zero, List.set_cons_succ]
      refine takeH 31 88 (.bool true) ⟨_, rfl, rfl, by rfl, fun W hW => by go_simp⟩ (by kernel_rfl) (by kernel_rfl) (by kernel_rfl) (fun _ _ _ _ _ h => h) hHeld2 ?_
      simp only [List.setIfInBounds_toArray, List.set_cons_zero, List.set_cons_succ]
      refine takeH 32 89 (.bool true) ⟨_, rfl, rfl, by rfl, fun W hW => by go_simp⟩ (by kernel_rfl) (by kernel_rfl) (by kernel_rfl) (fun _ _ _ _ _ h => h) hHeld2 ?_
      simp only [List.setIfInBounds_toArray, List.set_cons_zero, List.set_cons_succ]
      refine takeH 33 2 (.bool true) ⟨_, rfl, rfl, by rfl, fun W hW => by go_simp⟩ (by kernel_rfl) (by kernel_rfl) (by kernel_rfl) (fun _ _ _ _ _ h => h) hHeld2 ?_
      simp only [List.setIfInBounds_toArray, List.set_cons_zero, List.set_cons_succ]
      refine wpAnyH_done (by kernel_rfl) ?_ _
      refine NoPanic.normal ?_
      go_wp2
      go_ret
      exact ⟨rfl, below_then HB8.out hHeld2⟩
    · obtain rfl := HT1.out.resolve_left htx
      go_enter Tryd.func4, Tryd.ntmps4
      go_wp2_with (first
        | (go_at_call 15; refine HA.out.mono ?_; rintro e w1 ⟨rfl, hb1⟩; have KB1 := Lib.hid (KB.out.later hb1); have hB := below_then HB0.out hb1; obtain ⟨⟨e0, e1, e2, e3, e4, e5⟩, ef⟩ := KB1.out.facts)
        | (go_at_call 16; refine (HM.out _).mono ?_; rintro e w2 ⟨rfl, hb2⟩; have KB2 := Lib.hid (KB1.out.later hb2); have hB := below_then hB hb2; obtain ⟨⟨e0, e1, e2, e3, e4, e5⟩, ef⟩ := KB2.out.facts)
        | (go_at_call 17; refine (HL.out _).mono ?_; rintro e w3 ⟨rfl, hb3⟩; have KB3 := Lib.hid (KB2.out.later hb3); have hB := below_then hB hb3; obtain ⟨⟨e0, e1, e2, e3, e4, e5⟩, ef⟩ := KB3.out.facts; simp only at e0 e1 e2 e3 e4 e5)
        | ((with_reducible refine (HK1.out _ ((hB.setCell (p := ⟨w.heap.size, 2, none⟩) (by simp) _).setCell (p := ⟨w.heap.size, 1, none⟩) (by simp) _)).mono ?_); rintro e w4 ⟨v4, rfl, hv4, hb4⟩
           have KB4 := Lib.hid (((KB3.out.set_typ 1).set_mods x).later hb4); have hB := below_then ((hB.setCell (p := ⟨w.heap.size, 2, none⟩) (by simp) (.int .i64 1)).setCell (p := ⟨w.heap.size, 1, none⟩) (by simp) (.int .i64 x)) hb4
           obtain ⟨⟨e0, e1, e2, e3, e4, e5⟩, ef⟩ := KB4.out.facts; simp only at e0 e1 e2 e3 e4 e5
           have hs4 := str_of hv4)
        | ((with_reducible refine (HK2.out _ (hB.setCell (p := ⟨w.heap.size, 1, none⟩) (by simp) _)).mono ?_); rintro e w5 ⟨v5, rfl, hv5, hb5⟩
           have KB5 := Lib.hid ((KB4.out.set_mods (x + 4)).later hb5); have hB := below_then (hB.setCell (p := ⟨w.heap.size, 1, none⟩) (by simp) (.int .i64 (x + 4))) hb5
           obtain ⟨⟨e0, e1, e2, e3, e4, e5⟩, ef⟩ := KB5.out.facts; simp only at e0 e1 e2 e3 e4 e5
           have HV5 := Lib.hid hv5)
        | ((with_reducible refine (HSh.out _).mono ?_); rintro e w6 ⟨rfl, hb6⟩; have KB6 := Lib.hid (KB5.out.later hb6); have hB := below_then hB hb6; obtain ⟨⟨e0, e1, e2, e3, e4, e5⟩, ef⟩ := KB6.out.facts; simp only at e0 e1 e2 e3 e4 e5; have HV6 := Lib.hid (HV5.out.later hb6))
        | ((with_reducible refine (HFo.out _).mono ?_); rintro e w7 ⟨rfl, hb7⟩; have KB7 := Lib.hid (KB6.out.later hb7); have hB := below_then hB hb7; obtain ⟨⟨e0, e1, e2, e3, e4, e5⟩, ef⟩ := KB7.out.facts; simp only at e0 e1 e2 e3 e4 e5; have HV7 := Lib.hid (HV6.out.later hb7)))
      obtain ⟨p5, c5, rfl, hc5, hq5⟩ := HV7.out
      have KB8 := Lib.hid (show KBoxed ((w7.setCell ⟨w.heap.size, 5, none⟩ (.string ⟨#[]⟩)).setCell ⟨w.heap.size, 1, none⟩ (.int .i64 x)) w.heap.size ⟨code, x, 1, sh, base, []⟩ from (KB7.out.set_text []).set_mods x)
      have HB8 := Lib.hid ((hB.setCell (p := ⟨w.heap.size, 5, none⟩) (by simp) (.string ⟨#[]⟩)).setCell (p := ⟨w.heap.size, 1, none⟩) (by simp) (.int .i64 x))
      have HV8 := Lib.hid (show BytesR ((w7.setCell ⟨w.heap.size, 5, none⟩ (.string ⟨#[]⟩)).setCell ⟨w.heap.size, 1, none⟩ (.int .i64 x)) (.slice p5 l2.length c5) l2 from BytesR.set_int (BytesR.set_at (show BytesR w7 (.slice p5 l2.length c5) l2 from ⟨p5, c5, rfl, hc5, hq5⟩) e5 (fun _ h => by cases h) _) (KB7.out.set_text []).facts.1.2.1 _)
      refine wp_region_noPanic ?_
      refine wp_region_held_drew (S := fun W => Below ((w7.setCell ⟨w.heap.size, 5, none⟩ (.string ⟨#[]⟩)).setCell ⟨w.heap.size, 1, none⟩ (.int .i64 x)).heap.size ((w7.setCell ⟨w.heap.size, 5, none⟩ (.string ⟨#[]⟩)).setCell ⟨w.heap.size, 1, none⟩ (.int .i64 x)) W) hmx (below_drewN (Below.refl _ _) 1) (fun hHeld => ?_)
      refine takeH 0 57 (.bool true) ⟨_, rfl, rfl, by rfl, fun W hW => by go_simp⟩ (by kernel_rfl) (by kernel_rfl) (by kernel_rfl) (fun _ _ _ _ _ h => h) hHeld ?_
      simp only [List.setIfInBounds_toArray, List.set_cons_zero, List.set_cons_succ]
      refine takeH 1 58 (.bool true) ⟨_, rfl, rfl, by rfl, fun W hW => by go_simp⟩ (by kernel_rfl) (by kernel_rfl) (by kernel_rfl) (fun _ _ _ _ _ h => h) hHeld ?_
      simp only [List.setIfInBounds_toArray, List.set_cons_zero, List.set_cons_succ]
      refine takeH 2 59 (.bool true) ⟨_, rfl, rfl, by rfl, fun W hW => by go_simp⟩ (by kernel_rfl) (by kernel_rfl) (by kernel_rfl) (fun _ _ _ _ _ h => h) hHeld ?_
      simp only [List.setIfInBounds_toArray, List.set_cons_zero, List.set_cons_succ]
      refine takeH 3 60 (.bool true) ⟨_, rfl, rfl, by rfl, fun W hW => by go_simp⟩ (by kernel_rfl) (by kernel_rfl) (by kernel_rfl) (fun _ _ _ _ _ h => h) hHeld ?_
      simp only [List.setIfInBounds_toArray, List.set_cons_zero, List.set_cons_succ]
      refine takeH 4 61 (.bool true) ⟨_, rfl, rfl, by rfl, fun W hW => by go_simp⟩ (by kernel_rfl) (by kernel_rfl) (by kernel_rfl) (fun _ _ _ _ _ h => h) hHeld ?_
      simp only [List.setIfInBounds_toArray, List.set_cons_zero, List.set_cons_succ]
      refine takeH 5 62 (.bool false) ⟨_, rfl, rfl, by rfl, fun W hW => by go_simp⟩ (by kernel_rfl) (by kernel_rfl) (by kernel_rfl) (fun _ _ _ _ _ h => h) hHeld ?_
      simp only [List.setIfInBounds_toArray, List.set_cons_zero, List.set_cons_succ]
      refine takeH 6 63 (.bool false) ⟨_, rfl, rfl, by rfl, fun W hW => by go_simp⟩ (by kernel_rfl) (by kernel_rfl) (by kernel_rfl) (fun _ _ _ _ _ h => h) hHeld ?_
      simp only [List.setIfInBounds_toArray, List.set_cons_zero, List.set_cons_succ]
      refine skipH 7 64 ⟨_, rfl, rfl, by rfl⟩ (by kernel_rfl) (by kernel_rfl) (by kernel_rfl) (fun _ _ _ _ _ h => h) hHeld ?_
      simp only [List.setIfInBounds_toArray, List.set_cons_zero, List.set_cons_succ]
      refine skipH 8 65 ⟨_, rfl, rfl, by rfl⟩ (by kernel_rfl) (by kernel_rfl) (by kernel_rfl) (fun _ _ _ _ _ h => h) hHeld ?_
      simp only [List.setIfInBounds_toArray, List.set_cons_zero, List.set_cons_succ]
      refine skipH 9 66 ⟨_, rfl, rfl, by rfl⟩ (by kernel_rfl) (by kernel_rfl) (by kernel_rfl) (fun _ _ _ _ _ h => h) hHeld ?_
      simp only [List.setIfInBounds_toArray, List.set_cons_zero, List.set_cons_succ]
      refine takeH 10 67 (.bool false) ⟨_, rfl, rfl, by rfl, fun W hW => by go_simp⟩ (by kernel_rfl) (by kernel_rfl) (by kernel_rfl) (fun _ _ _ _ _ h => h) hHeld ?_
      simp only [List.setIfInBounds_toArray, List.set_cons_zero, List.set_cons_succ]
      refine takeH 11 68 (.bool false) ⟨_, rfl, rfl, by rfl, fun W hW => by go_simp⟩ (by kernel_rfl) (by kernel_rfl) (by kernel_rfl) (fun _ _ _ _ _ h => h) hHeld ?_
      simp only [List.setIfInBounds_toArray, List.set_cons_zero, List.set_cons_succ]
      refine skipH 12 69 ⟨_, rfl, rfl, by rfl⟩ (by kernel_rfl) (by kernel_rfl) (by kernel_rfl) (fun _ _ _ _ _ h => h) hHeld ?_
      simp only [List.setIfInBounds_toArray, List.set_cons_zero, List.set_cons_succ]
      refine skipH 13 70 ⟨_, rfl, rfl, by rfl⟩ (by kernel_rfl) (by kernel_rfl) (by kernel_rfl) (fun _ _ _ _ _ h => h) hHeld ?_
      simp only [List.setIfInBounds_toArray, List.set_cons_zero, List.set_cons_succ]
      refine skipH 14 71 ⟨_, rfl, rfl, by rfl⟩ (by kernel_rfl) (by kernel_rfl) (by kernel_rfl) (fun _ _ _ _ _ h => h) hHeld ?_
      simp only [List.setIfInBounds_toArray, List.set_cons_zero, List.set_cons_succ]
      refine skipH 15 72 ⟨_, rfl, rfl, by rfl⟩ (by kernel_rfl) (by kernel_rfl) (by kernel_rfl) (fun _ _ _ _ _ h => h) hHeld ?_
      simp only [List.setIfInBounds_toArray, List.set_cons_zero, List.set_cons_succ]
      refine skipH 16 73 ⟨_, rfl, rfl, by rfl⟩ (by kernel_rfl) (by kernel_rfl) (by kernel_rfl) (fun _ _ _ _ _ h => h) hHeld ?_
      simp only [List.setIfInBounds_toArray, List.set_cons_zero, List.set_cons_succ]
      refine skipH 17 74 ⟨_, rfl, rfl, by rfl⟩ (by kernel_rfl) (by kernel_rfl) (by kernel_rfl) (fun _ _ _ _ _ h => h) hHeld ?_
      simp only [List.setIfInBounds_toArray, List.set_cons_zero, List.set_cons_succ]
      refine takeH 18 75 (.bool false) ⟨_, rfl, rfl, by rfl, fun W hW => by go_simp⟩ (by kernel_rfl) (by kernel_rfl) (by kernel_rfl) (fun _ _ _ _ _ h => h) hHeld ?_
      simp only [List.setIfInBounds_toArray, List.set_cons_zero, List.set_cons_succ]
      refine takeH 19 76 (.bool false) ⟨_, rfl, rfl, by rfl, fun W hW => by go_simp⟩ (by kernel_rfl) (by kernel_rfl) (by kernel_rfl) (fun _ _ _ _ _ h => h) hHeld ?_
      simp only [List.setIfInBounds_toArray, List.set_cons_zero, List.set_cons_succ]
      refine takeH 20 77 (.bool false) ⟨_, rfl, rfl, by rfl, fun W hW => by go_simp⟩ (by kernel_rfl) (by kernel_rfl) (by kernel_rfl) (fun _ _ _ _ _ h => h) hHeld ?_
      simp only [List.setIfInBounds_toArray, List.set_cons_zero, List.set_cons_succ]
      refine takeH 21 78 (.bool true) ⟨_, rfl, rfl, by rfl, fun W hW => by go_simp⟩ (by kernel_rfl) (by kernel_rfl) (by kernel_rfl) (fun _ _ _ _ _ h => h) hHeld ?_
      simp only [List.setIfInBounds_toArray, List.set_cons_zero, List.set_cons_succ]
      refine takeH 22 79 (.bool true) ⟨_, rfl, rfl, by rfl, fun W hW => by go_simp⟩ (by kernel_rfl) (by kernel_rfl) (by kernel_rfl) (fun _ _ _ _ _ h => h) hHeld ?_
      simp only [List.setIfInBounds_toArray, List.set_cons_zero, List.set_cons_succ]
      refine takeH 23 80 (.slice p5 l2.length c5) ⟨_, rfl, rfl, by rfl, fun W hW => by go_simp⟩ (by kernel_rfl) (by kernel_rfl) (by kernel_rfl) (fun _ _ _ _ _ h => h) hHeld ?_
      simp only [List.setIfInBounds_toArray, List.set_cons_zero, List.set_cons_succ]
      refine takeH 24 81 (.string ⟨l2.toArray⟩) ⟨_, rfl, rfl, by rfl, fun W hW => by have hx := str_of (HV8.out.later hW); go_simp⟩ (by kernel_rfl) (by kernel_rfl) (by kernel_rfl) (fun _ _ _ _ _ h => h) hHeld ?_
      simp only [List.setIfInBounds_toArray, List.set_cons_zero, List.set_cons_succ]
      refine takeH 25 82 (.agg #[.bool false, .bool false, .bool false, .bool false, .bool false, .bool false, .bool false, .int .i64 0, .int .i64 0, .int .i64 0]) ⟨_, rfl, rfl, by rfl, fun W hW => by go_simp⟩ (by kernel_rfl) (by kernel_rfl) (by kernel_rfl) (fun _ _ _ _ _ h => h) hHeld ?_
      simp only [List.setIfInBounds_toArray, List.set_cons_zero, List.set_cons_succ]
      refine takeH 26 83 (.agg #[.int .i64 code, .int .i64 x, .int .i64 1, .int .i64 sh, .int .i64 base, .string ⟨#[]⟩]) ⟨_, rfl, rfl, by rfl, fun W hW => by obtain ⟨⟨e0, e1, e2, e3, e4, e5⟩, ef⟩ := (KB8.out.later hW).facts; simp only at e0 e1 e2 e3 e4 e5; go_simp⟩ (by kernel_rfl) (by kernel_rfl) (by kernel_rfl) (fun _ _ _ _ _ h => h) hHeld ?_
      simp only [List.setIfInBounds_toArray, List.set_cons_zero, List.set_cons_succ]
      refine callH 27 84 18 #[.agg #[.bool false, .bool false, .bool false, .bool false, .bool false, .bool false, .bool false, .int .i64 0, .int .i64 0, .int .i64 0], .agg #[.int .i64 code, .int .i64 x, .int .i64 1, .int .i64 sh, .int .i64 base, .string ⟨#[]⟩]] ⟨_, rfl, rfl, by rfl, by go_simp⟩ (by kernel_rfl) (HK3.out _ (below_then HB8.out hHeld)) ?_
      rintro e w9 ⟨v9, rfl, hv9, hb9⟩
      refine ⟨_, rfl, below_then hHeld hb9, fun hHeld2 => ?_⟩
      simp only [List.setIfInBounds_toArray, List.set_cons_zero, List.set_cons_succ]
      refine stepH 28 85 (.string ⟨l2.toArray⟩) w9 ⟨_, rfl, rfl, by rfl, by have hx := str_of hv9; go_simp⟩ (by kernel_rfl) hHeld2 ?_
      simp only [List.setIfInBounds_toArray, List.set_cons_zero, List.set_cons_succ]
      refine takeH 29 86 (.bool true) ⟨_, rfl, rfl, by rfl, fun W hW => by go_simp⟩ (by kernel_rfl) (by kernel_rfl) (by kernel_rfl) (fun _ _ _ _ _ h => h) hHeld2 ?_
      simp only [List.setIfInBounds_toArray, List.set_cons_zero, List.set_cons_succ]
      refine takeH 30 87 (.bool true) ⟨_, rfl, rfl, by rfl, fun W hW => by go_simp⟩ (by kernel_rfl) (by kernel_rfl) (by kernel_rfl) (fun _ _ _ _ _ h => h) hHeld2 ?_
      simp only [List.setIfInBounds_toArray, List.set_cons_zero, List.set_cons_succ]
      refine takeH 31 88 (.bool true) ⟨_, rfl, rfl, by rfl, fun W hW => by go_simp⟩ (by kernel_rfl) (by kernel_rfl) (by kernel_rfl) (fun _ _ _ _ _ h => h) hHeld2 ?_
      simp only [List.setIfInBounds_toArray, List.set_cons_zero, List.set_cons_succ]
      refine takeH 32 89 (.bool true) ⟨_, rfl, rfl, by rfl, fun W hW => by go_simp⟩ (by kernel_rfl) (by kernel_rfl) (by kernel_rfl) (fun _ _ _ _ _ h => h) hHeld2 ?_
      simp only [List.setIfInBounds_toArray, List.set_cons_zero, List.set_cons_succ]
      refine takeH 33 2 (.bool true) ⟨_, rfl, rfl, by rfl, fun W hW => by go_simp⟩ (by kernel_rfl) (by kernel_rfl) (by kernel_rfl) (fun _ _ _ _ _ h => h) hHeld2 ?_
      simp only [List.setIfInBounds_toArray, List.set_cons_zero, List.set_cons_succ]
      refine wpAnyH_done (by kernel_rfl) ?_ _
      refine NoPanic.normal ?_
      go_wp2
      go_ret
      exact ⟨rfl, below_then HB8.out hHeld2⟩

theorem legacyText (k : KeyD) (w : World) (hk : k.wf) (ht : k.text.length ≤ 1000000000000) (htab : TabOk w) : Calls Tryd.prog 4 #[k.v] w (BoolIs w true) := by
  by_cases h1 : mayK k = true
  · by_cases h3 : (lookD k.code).kind = 1
    · exact legacyText_main k w hk ht htab h1 h3
    · exact legacyText_not k w hk ht htab (.inr h3)
  · exact legacyText_not k w hk ht htab (.inl (by simpa using h1))
end Go.Proofs.YtieppcjpbjefkaaDoor

/- LegacyText: a key's text is sent as it is, without Ctrl; with it the control character that its character folds to, or the character.
   Conditions: what the call reads is of bulk at most 1048576; the listed tables hold what their initialisers lay. -/
namespace Go.Proofs.YtieppcjpbjefkaaDoor.legacyText
open Go.ChangeShapes Go.WideShapes Go.ChangeAt Go.RowKit
open Go.ChangeMaps (open_string shut_string)

set_option maxRecDepth 100000 in
theorem contract (H : Type) (enc : TypeId × Value → H) (W : World) (base : Nat) (args : Array Value) (ds gs : List (DataW H)) (before : List MemPlace)
    (hval : ∀ (j : Nat) t v, Tryd.f4.params[j]? = some t → args[j]? = some v → Value.okWide Tryd.prog W .any base t v)
    (hW : DataW.Whole enc Tryd.prog Tryd.f4.params.toList Rows.legacyTextSpec.vars false W args.toList ds gs before) (hL : laidMetH Tryd.prog Rows.legacyTextUptoRow.laid W) (hk : Rows.uptoSmall H (ds ++ gs) = true) :
    Calls Tryd.prog 4 args W fun e W' => ∃ v, e = .returned v ∧ Rows.legacyTextSpec.post enc Tryd.prog Tryd.f4 false true false false W args v W' := by
  have hW' := hW
  obtain ⟨p, q, hA0, hV, rfl, hfz, hnd⟩ := hW
  have hA : DataW.TrodAll enc Tryd.prog W 0 (fun _ => true) true Tryd.f4.params.toList args.toList ds p := hA0
  rw [Tryd.params4] at hA hval
  obtain ⟨v0, vs0, d0, ds0, p0, q0, hargs, rfl, rfl, h0, r0⟩ := trodAll_cons hA
  obtain ⟨rfl, rfl, rfl⟩ := trodAll_nil r0
  obtain rfl : args = #[v0] := by cases args; simp_all
  obtain ⟨rfl, rfl⟩ := trodVars_none hV
  obtain ⟨k, rfl, rfl, rfl, wk, tk⟩ := open_key (hval 0 25 v0 rfl rfl) h0
  clear hA0
  simp only [List.append_nil] at hW' hk
  have hbulk : Rows.uptoBulkAll (H := H) [k.dat] ≤ 1048576 := of_decide_eq_true hk
  simp only [Rows.uptoBulkAll, KeyD.dat, ModesD.dat, Rows.uptoBulk] at hbulk
  refine (legacyText k W wk (by omega) (tabOk_of hL)).mono fun e W' ⟨he, hb⟩ => ?_
  subst he
  exact ⟨_, rfl, post_of_below (pa := []) (pv := []) hW' (fun _ _ _ => trodAll_cons_mk (shut_bool Tryd.underlying4 _) trodAll_mk0) (fun _ => trodAll_cons_mk (shut_key wk tk) trodAll_mk0) (fun _ => rfl) rfl
    hb (ok_one (by kernel_rfl) rfl (okWide_bool_mk Tryd.underlying4 _))⟩

theorem laid_met (os : Os) : laidMet Tryd.prog Rows.legacyTextUptoRow.laid ((laidWorld os).forCall (fun _ _ => 0) ⟨#[], #[.agg #[.int .i64 0, .int .i64 0, .int .i64 0, .int .i64 0, .int .i64 0, .string .empty]], []⟩).memory :=
  laidMet_of_run' 8 (by kernel_rfl) (by kernel_rfl)
theorem reads (os : Os) {H : Type} (enc : TypeId × Value → H) : ∃ places, DataW.whole enc Tryd.prog ((laidWorld os).forCall (fun _ _ => 0) ⟨#[], #[.agg #[.int .i64 0, .int .i64 0, .int .i64 0, .int .i64 0, .int .i64 0, .string .empty]], []⟩).memory Tryd.f4.params.toList Rows.legacyTextSpec.vars false (#[.agg #[.int .i64 0, .int .i64 0, .int .i64 0, .int .i64 0, .int .i64 0, .string .empty]] : Array Value).toList 8 = some ([.agg [.lit (.int .i64 0), .lit (.int .i64 0), .lit (.int .i64 0), .lit (.int .i64 0), .lit (.int .i64 0), .lit (.string [])]], [], places) :=
  ⟨[], by kernel_rfl⟩

set_option maxRecDepth 100000 in
theorem liftedUpto (os : Os) (started : os.Started) (H : Type) (enc : TypeId × Value → H) (F : Stop.Interp) :
    ReturnsInHanded {} Tryd.checked os 4 .any ((Rows.OpenSpec.upto Rows.legacyTextSpec).preRow enc Tryd.prog Tryd.f4 Rows.legacyTextUptoRow.domain false Rows.legacyTextUptoRow.laid) (((Rows.OpenSpec.upto Rows.legacyTextSpec).at F).post enc Tryd.prog Tryd.f4 false true false false) := by
  obtain ⟨places, hx⟩ := reads os enc
  refine returnsInHanded_of_row (C := Tryd.checked) (s := Rows.OpenSpec.upto Rows.legacyTextSpec) own started (by kernel_rfl) Tryd.func4
    (witness_row_at (enc := enc) (C := Tryd.checked) false (laidWorld os) #[.agg #[.int .i64 0, .int .i64 0, .int .i64 0, .int .i64 0, .int .i64 0, .string .empty]] rfl (by kernel_rfl) (by kernel_rfl) (by kernel_rfl)
      (OpenSpec.preRow_of_cond 8 hx (by kernel_rfl) (fun k hk => by cases hk; kernel_rfl) (by kernel_rfl) (laid_met os))) ?_
  intro W base args ds gs before hval hW _ hcond _ hL _ _
  exact contract H enc W base args ds gs before hval hW hL (hcond _ rfl)

theorem saidUpto : Rows.LegacyTextUptoSaid :=
  OpenClaim.holds_of_cond 4 Tryd.f4 rfl rfl rfl rfl rfl rfl rfl ⟨rfl, rfl, rfl, rfl, rfl⟩ rfl rfl rfl rfl rfl (by kernel_rfl) Tryd.func4 (by kernel_rfl)
    (of_decide_eq_true (by kernel_rfl)) (by unfold Func.isWrapper; first | (rw [if_pos (by decide +kernel)]; kernel_rfl) | (rw [if_neg (by decide +kernel)]; exact ⟨rfl, rfl⟩))
    (fun os started H enc _ F => by rw [OpenClaim.pre_eq_preRow]; exact liftedUpto os started H enc F)

/-- No parameter wants a stand-in; the program's own looks are off: what the card asks. -/
theorem plain (f : FuncId) (fn : Func) (hf : Tryd.pinned.checked.prog.funcNamed "clavier/clavierlaw11.LegacyText" = some f) (hfn : Tryd.pinned.checked.prog.funcs[f]? = some fn) :
    false = Tryd.pinned.checked.prog.looks [] ∧ ∀ (j : Nat) t, fn.params[j]? = some t → Tryd.pinned.checked.prog.wantsStandIn t = false := by
  obtain rfl : f = 4 := Option.some.inj ((show Tryd.prog.funcNamed "clavier/clavierlaw11.LegacyText" = some 4 by kernel_rfl).symm.trans hf) |>.symm
  obtain rfl : fn = Tryd.f4 := (Option.some.inj (Tryd.func4.symm.trans hfn)).symm
  refine ⟨by kernel_rfl, fun j t ht => ?_⟩
  rw [Tryd.params4] at ht
  have h2 : t = 25 := by simpa using Array.mem_of_getElem? ht
  rcases h2 with rfl
  · exact (show Tryd.prog.wantsStandIn 25 = false by kernel_rfl)

/-- THE CARD -/
theorem cardUpto : Rows.LegacyTextUptoCardSaid :=
  Claim7.holds_tied_plain_at .later [] _ _ _ _ saidUpto (fun _ h => by cases h) (by kernel_rfl) (fun _ h => by cases h) legacyTextUpto_row_tie rfl ⟨rfl, rfl⟩ (by kernel_rfl) rfl plain (by kernel_rfl)
end Go.Proofs.YtieppcjpbjefkaaDoor.legacyText
