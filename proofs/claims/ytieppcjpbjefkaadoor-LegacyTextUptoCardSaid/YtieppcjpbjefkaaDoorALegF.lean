/- Contract of legacy.Key. -/
import Derived.Test.YtieppcjpbjefkaaDoorA5
set_option linter.all false
namespace Go.Proofs.YtieppcjpbjefkaaDoor
open Go.RowKit Go.Proofs

/-- a key's event in its old form -/
def legacyL (m : ModesD) (k : KeyD) : List UInt8 :=
  if mayK k = true ∧ k.typ ≠ 3 then
    (if (lookD k.code).kind = 1 then textL2 k else if (lookD k.code).kind = 2 then plainL2 m k else if (lookD k.code).kind = 3 then letterL m k (lookD k.code)
     else if (lookD k.code).kind = 4 then numberL2 k (lookD k.code) else if (lookD k.code).kind = 5 then padL m k (lookD k.code) else [])
  else []

theorem lookD_facts (c : Int) : (0 ≤ (lookD c).final ∧ (lookD c).final < 256) ∧ (0 ≤ (lookD c).char ∧ (lookD c).char ≤ 255) ∧ (0 ≤ (lookD c).num ∧ (lookD c).num ≤ 100) ∧ ((lookD c).kind = 2 → 0 ≤ c ∧ c ≤ 255) := by
  unfold lookD
  split
  · rename_i x h
    have h1 := List.mem_of_find?_eq_some h
    have h2 := List.find?_some h
    simp at h2
    have : ∀ x ∈ pairsD, (0 ≤ x.2.final ∧ x.2.final < 256) ∧ (0 ≤ x.2.char ∧ x.2.char ≤ 255) ∧ (0 ≤ x.2.num ∧ x.2.num ≤ 100) ∧ (x.2.kind = 2 → 0 ≤ x.1 ∧ x.1 ≤ 255) := by decide +kernel
    have h3 := this x h1
    rw [h2] at h3
    exact h3
  · split <;> simp [zeroE]

def formsV : List (Value × Value) := [(.int .i64 1, .func (.func 45) #[] #[]), (.int .i64 2, .func (.func 46) #[] #[]), (.int .i64 3, .func (.func 47) #[] #[]), (.int .i64 4, .func (.func 48) #[] #[]), (.int .i64 5, .func (.func 49) #[] #[])]

theorem bcell {W w1 : World} (hb : Below W.heap.size W w1) : (∀ b o, b < W.heap.size → w1.cell? ⟨b, o, none⟩ = W.cell? ⟨b, o, none⟩) ∧ (∀ b o, b < W.heap.size → w1.frozen? ⟨b, o, none⟩ = W.frozen? ⟨b, o, none⟩) :=
  ⟨fun b o h => hb.cell (p := ⟨b, o, none⟩) h, fun b o h => hb.frozen (p := ⟨b, o, none⟩) h⟩
theorem formK : Tryd.prog.underlying 3 = some (.int .i64) := Tryd.underlying3

set_option maxRecDepth 100000 in
set_option maxHeartbeats 2000000 in
theorem legacy_Key_1 (m : ModesD) (k : KeyD) (w : World) (hk : k.wf) (ht : k.text.length ≤ 1000000000000) (htab : TabOk w) (hkd : (lookD k.code).kind = 1) :
    Calls Tryd.prog 18 #[m.v, k.v] w (BytesRet w (if mayK k = true ∧ k.typ ≠ 3 then textL2 k else [])) := by
  have hL := fun W => keys_Look k.code W
  unfold EntryIsD EntryIs at hL
  have hM := fun W => mods_May k W hk ht
  have hfa := lookD_facts k.code
  have hT := fun (hm : mayK k = true) W (hW : Below w.heap.size w W) => have h0 : 0 ≤ k.mods := (by simp [mayK] at hm; omega); have h1 : k.mods ≤ 255 := (by simp [mayK] at hm; omega); legacy_text m k (lookD k.code) W hk h0 h1 ht
  obtain ⟨R, hRe⟩ : ∃ R, textL2 k = R := ⟨_, rfl⟩
  rw [hRe] at hT ⊢
  have hX := Lib.hid (show (if mayK k = true ∧ k.typ ≠ 3 then R else []) = if mayK k = true ∧ k.typ ≠ 3 then R else [] from rfl)
  obtain ⟨X, hXe⟩ : ∃ X, (if mayK k = true ∧ k.typ ≠ 3 then R else []) = X := ⟨_, rfl⟩
  rw [hXe]
  have HX := Lib.hid hXe
  clear hRe hX hXe hfa
  obtain ⟨mb, hmb⟩ : ∃ mb, mayK k = mb := ⟨_, rfl⟩
  rw [hmb] at hT hM HX
  clear hmb
  have hmm : ∀ o1 o2, (Instr.makeMap 84 none).run Tryd.prog ((w.alloc o1).alloc o2) = .ok (.map (some (w.heap.size + 1 + 1))) (((w.alloc o1).alloc o2).alloc (.map (litEs formsV 0) 0)) := fun o1 o2 => by
    rw [run_makeMap]
    simp
    rfl
  have i0 := fun o1 o2 => run_lit (P := Tryd.prog) (T := 84) (d := .int .i64) formsV 0 _ _ rfl Tryd.underlying84 Tryd.underlying3 rfl rfl ((w.alloc o1).alloc o2) (w.heap.size + 1 + 1) (by simp)
  have i1 := fun o1 o2 => run_lit (P := Tryd.prog) (T := 84) (d := .int .i64) formsV 1 _ _ rfl Tryd.underlying84 Tryd.underlying3 rfl rfl ((w.alloc o1).alloc o2) (w.heap.size + 1 + 1) (by simp)
  have i2 := fun o1 o2 => run_lit (P := Tryd.prog) (T := 84) (d := .int .i64) formsV 2 _ _ rfl Tryd.underlying84 Tryd.underlying3 rfl rfl ((w.alloc o1).alloc o2) (w.heap.size + 1 + 1) (by simp)
  have i3 := fun o1 o2 => run_lit (P := Tryd.prog) (T := 84) (d := .int .i64) formsV 3 _ _ rfl Tryd.underlying84 Tryd.underlying3 rfl rfl ((w.alloc o1).alloc o2) (w.heap.size + 1 + 1) (by simp)
  have i4 := fun o1 o2 => run_lit (P := Tryd.prog) (T := 84) (d := .int .i64) formsV 4 _ _ rfl Tryd.underlying84 Tryd.underlying3 rfl rfl ((w.alloc o1).alloc o2) (w.heap.size + 1 + 1) (by simp)
  obtain ⟨code, mods, typ, sh, base, text⟩ := k
  obtain ⟨m1, m2, m3, m4, m5, m6, m7, m8, m9, m10⟩ := m
  unfold KeyD.v ModesD.v EntryD.v at *
  simp only at *
  obtain ⟨E, hE⟩ : ∃ E, lookD code = E := ⟨_, rfl⟩
  rw [hE] at hL hkd hT
  clear hE
  rw [hkd] at hL hT
  obtain ⟨x1, x2, x3, x4, x5⟩ := E
  simp only at *
  have HL := Lib.hid hL
  have HM := Lib.hid hM
  have hfn : ∀ W, (binOp .eql 85 (.func (.func 45) #[] #[]) .nilFunc).run Tryd.prog W = .ok (.bool false) W := fun W => by kernel_rfl
  clear hL hM hkd hk htab
  cases mb
  · clear hT
    have HR := Lib.hid (show X = [] from by rw [← HX.out, if_neg (by simp)])
    go_enter Tryd.func18, Tryd.ntmps18
    go_wp2_with (first
      | (go_at_call 17; refine (HL.out _).mono ?_; rintro e w1 ⟨rfl, hb1⟩; obtain ⟨hc1, hf1⟩ := bcell hb1; have hz1 : w.heap.size + 1 + 1 + 1 ≤ w1.heap.size := (by simpa using hb1.size); have l0 : w.heap.size < w1.heap.size := (by omega); have l1 : w.heap.size + 1 < w1.heap.size := (by omega); have l2 : w.heap.size + 1 + 1 < w1.heap.size := (by omega)
         have hlk := fun o => run_look (P := Tryd.prog) (T := 84) (d := .int .i64) (k := .int .i64 1) (b := w.heap.size + 1 + 1) (W := w1.alloc o) false Tryd.underlying84 Tryd.underlying3 rfl ((heap_past _ _ _ l2).trans ((hb1.block _ (by simp)).trans (heap_at _ _ _ (by simp)))) rfl (i := 0) rfl
         simp only [Bool.false_eq_true, if_false] at hlk)
      | (go_at_call 50; refine (HM.out _).mono ?_; rintro e w2 ⟨rfl, hb2⟩; obtain ⟨hc2, hf2⟩ := bcell hb2; have hz2 : w1.heap.size + 1 ≤ w2.heap.size := (by simpa using hb2.size); have r0 : w.heap.size < w2.heap.size := (by omega); have r1 : w.heap.size + 1 < w2.heap.size := (by omega); have r2 : w1.heap.size < w2.heap.size := (by omega)))
    go_ret
    rw [HR.out]
    exact ⟨_, rfl, BytesR.of_own (World.ownsRow_nil _ 0 5 1), (below_then (below_alloc (below_then (below_alloc (below_alloc (below_alloc (Below.refl _ _) _) _) _) hb1) _) hb2)⟩
  have hT := hT rfl
  have HT := Lib.hid hT
  clear hT
  by_cases h3 : typ = 3
  · have HR := Lib.hid (show X = [] from by rw [← HX.out, if_neg (by simp [h3])])
    have d3 : (typ == 3) = true := by simpa using h3
    clear h3
    go_enter Tryd.func18, Tryd.ntmps18
    go_wp2_with (first
      | (go_at_call 17; refine (HL.out _).mono ?_; rintro e w1 ⟨rfl, hb1⟩; obtain ⟨hc1, hf1⟩ := bcell hb1; have hz1 : w.heap.size + 1 + 1 + 1 ≤ w1.heap.size := (by simpa using hb1.size); have l0 : w.heap.size < w1.heap.size := (by omega); have l1 : w.heap.size + 1 < w1.heap.size := (by omega); have l2 : w.heap.size + 1 + 1 < w1.heap.size := (by omega)
         have hlk := fun o => run_look (P := Tryd.prog) (T := 84) (d := .int .i64) (k := .int .i64 1) (b := w.heap.size + 1 + 1) (W := w1.alloc o) false Tryd.underlying84 Tryd.underlying3 rfl ((heap_past _ _ _ l2).trans ((hb1.block _ (by simp)).trans (heap_at _ _ _ (by simp)))) rfl (i := 0) rfl
         simp only [Bool.false_eq_true, if_false] at hlk)
      | (go_at_call 50; refine (HM.out _).mono ?_; rintro e w2 ⟨rfl, hb2⟩; obtain ⟨hc2, hf2⟩ := bcell hb2; have hz2 : w1.heap.size + 1 ≤ w2.heap.size := (by simpa using hb2.size); have r0 : w.heap.size < w2.heap.size := (by omega); have r1 : w.heap.size + 1 < w2.heap.size := (by omega); have r2 : w1.heap.size < w2.heap.size := (by omega)))
    go_ret
    rw [HR.out]
    exact ⟨_, rfl, BytesR.of_own (World.ownsRow_nil _ 0 5 1), (below_then (below_alloc (below_then (below_alloc (below_alloc (below_alloc (Below.refl _ _) _) _) _) hb1) _) hb2)⟩
  · have HR := Lib.hid (show X = R from by rw [← HX.out, if_pos (by simp [h3])])
    have d3 : (typ == 3) = false := by simpa using h3
    clear h3
    go_enter Tryd.func18, Tryd.ntmps18
    go_wp2_with (first
      | (go_at_call 17; refine (HL.out _).mono ?_; rintro e w1 ⟨rfl, hb1⟩; obtain ⟨hc1, hf1⟩ := bcell hb1; have hz1 : w.heap.size + 1 + 1 + 1 ≤ w1.heap.size := (by simpa using hb1.size); have l0 : w.heap.size < w1.heap.size := (by omega); have l1 : w.heap.size + 1 < w1.heap.size := (by omega); have l2 : w.heap.size + 1 + 1 < w1.heap.size := (by omega)
         have hlk := fun o => run_look (P := Tryd.prog) (T := 84) (d := .int .i64) (k := .int .i64 1) (b := w.heap.size + 1 + 1) (W := w1.alloc o) false Tryd.underlying84 Tryd.underlying3 rfl ((heap_past _ _ _ l2).trans ((hb1.block _ (by simp)).trans (heap_at _ _ _ (by simp)))) rfl (i := 0) rfl
         simp only [Bool.false_eq_true, if_false] at hlk)
      | (go_at_call 50; refine (HM.out _).mono ?_; rintro e w2 ⟨rfl, hb2⟩; obtain ⟨hc2, hf2⟩ := bcell hb2; have hz2 : w1.heap.size + 1 ≤ w2.heap.size := (by simpa using hb2.size); have r0 : w.heap.size < w2.heap.size := (by omega); have r1 : w.heap.size + 1 < w2.heap.size := (by omega); have r2 : w1.heap.size < w2.heap.size := (by omega))
      | (go_at_call 45; refine (HT.out _ ?hh).mono ?_; (case hh => exact (below_then (below_alloc (below_then (below_alloc (below_alloc (below_alloc (Below.refl _ _) _) _) _) hb1) _) hb2)); rintro e w3 ⟨v, rfl, hv, hb3⟩))
    go_ret
    rw [HR.out]
    exact ⟨_, rfl, hv, below_then (below_then (below_alloc (below_then (below_alloc (below_alloc (below_alloc (Below.refl _ _) _) _) _) hb1) _) hb2) hb3⟩

set_option maxRecDepth 100000 in
set_option maxHeartbeats 2000000 in
theorem legacy_Key_2 (m : ModesD) (k : KeyD) (w : World) (hk : k.wf) (ht : k.text.length ≤ 1000000000000) (htab : TabOk w) (hkd : (lookD k.code).kind = 2) :
    Calls Tryd.prog 18 #[m.v, k.v] w (BytesRet w (if mayK k = true ∧ k.typ ≠ 3 then plainL2 m k else [])) := by
  have hL := fun W => keys_Look k.code W
  unfold EntryIsD EntryIs at hL
  have hM := fun W => mods_May k W hk ht
  have hfa := lookD_facts k.code
  have hT := fun (hm : mayK k = true) W (hW : Below w.heap.size w W) => have h0 : 0 ≤ k.mods := (by simp [mayK] at hm; omega); have h1 : k.mods ≤ 255 := (by simp [mayK] at hm; omega); legacy_plain m k (lookD k.code) W (hfa.2.2.2 hkd).1 (hfa.2.2.2 hkd).2 h0 h1 (htab.later hW)
  obtain ⟨R, hRe⟩ : ∃ R, plainL2 m k = R := ⟨_, rfl⟩
  rw [hRe] at hT ⊢
  have hX := Lib.hid (show (if mayK k = true ∧ k.typ ≠ 3 then R else []) = if mayK k = true ∧ k.typ ≠ 3 then R else [] from rfl)
  obtain ⟨X, hXe⟩ : ∃ X, (if mayK k = true ∧ k.typ ≠ 3 then R else []) = X := ⟨_, rfl⟩
  rw [hXe]
  have HX := Lib.hid hXe
  clear hRe hX hXe hfa
  obtain ⟨mb, hmb⟩ : ∃ mb, mayK k = mb := ⟨_, rfl⟩
  rw [hmb] at hT hM HX
  clear hmb
  have hmm : ∀ o1 o2, (Instr.makeMap 84 none).run Tryd.prog ((w.alloc o1).alloc o2) = .ok (.map (some (w.heap.size + 1 + 1))) (((w.alloc o1).alloc o2).alloc (.map (litEs formsV 0) 0)) := fun o1 o2 => by
    rw [run_makeMap]
    simp
    rfl
  have i0 := fun o1 o2 => run_lit (P := Tryd.prog) (T := 84) (d := .int .i64) formsV 0 _ _ rfl Tryd.underlying84 Tryd.underlying3 rfl rfl ((w.alloc o1).alloc o2) (w.heap.size + 1 + 1) (by simp)
  have i1 := fun o1 o2 => run_lit (P := Tryd.prog) (T := 84) (d := .int .i64) formsV 1 _ _ rfl Tryd.underlying84 Tryd.underlying3 rfl rfl ((w.alloc o1).alloc o2) (w.heap.size + 1 + 1) (by simp)
  have i2 := fun o1 o2 => run_lit (P := Tryd.prog) (T := 84) (d := .int .i64) formsV 2 _ _ rfl Tryd.underlying84 Tryd.underlying3 rfl rfl ((w.alloc o1).alloc o2) (w.heap.size + 1 + 1) (by simp)
  have i3 := fun o1 o2 => run_lit (P := Tryd.prog) (T := 84) (d := .int .i64) formsV 3 _ _ rfl Tryd.underlying84 Tryd.underlying3 rfl rfl ((w.alloc o1).alloc o2) (w.heap.size + 1 + 1) (by simp)
  have i4 := fun o1 o2 => run_lit (P := Tryd.prog) (T := 84) (d := .int .i64) formsV 4 _ _ rfl Tryd.underlying84 Tryd.underlying3 rfl rfl ((w.alloc o1).alloc o2) (w.heap.size + 1 + 1) (by simp)
  obtain ⟨code, mods, typ, sh, base, text⟩ := k
  obtain ⟨m1, m2, m3, m4, m5, m6, m7, m8, m9, m10⟩ := m
  unfold KeyD.v ModesD.v EntryD.v at *
  simp only at *
  obtain ⟨E, hE⟩ : ∃ E, lookD code = E := ⟨_, rfl⟩
  rw [hE] at hL hkd hT
  clear hE
  rw [hkd] at hL hT
  obtain ⟨x1, x2, x3, x4, x5⟩ := E
  simp only at *
  have HL := Lib.hid hL
  have HM := Lib.hid hM
  have hfn : ∀ W, (binOp .eql 85 (.func (.func 46) #[] #[]) .nilFunc).run Tryd.prog W = .ok (.bool false) W := fun W => by kernel_rfl
  clear hL hM hkd hk htab
  cases mb
  · clear hT
    have HR := Lib.hid (show X = [] from by rw [← HX.out, if_neg (by simp)])
    go_enter Tryd.func18, Tryd.ntmps18
    go_wp2_with (first
      | (go_at_call 17; refine (HL.out _).mono ?_; rintro e w1 ⟨rfl, hb1⟩; obtain ⟨hc1, hf1⟩ := bcell hb1; have hz1 : w.heap.size + 1 + 1 + 1 ≤ w1.heap.size := (by simpa using hb1.size); have l0 : w.heap.size < w1.heap.size := (by omega); have l1 : w.heap.size + 1 < w1.heap.size := (by omega); have l2 : w.heap.size + 1 + 1 < w1.heap.size := (by omega)
         have hlk := fun o => run_look (P := Tryd.prog) (T := 84) (d := .int .i64) (k := .int .i64 2) (b := w.heap.size + 1 + 1) (W := w1.alloc o) false Tryd.underlying84 Tryd.underlying3 rfl ((heap_past _ _ _ l2).trans ((hb1.block _ (by simp)).trans (heap_at _ _ _ (by simp)))) rfl (i := 1) rfl
         simp only [Bool.false_eq_true, if_false] at hlk)
      | (go_at_call 50; refine (HM.out _).mono ?_; rintro e w2 ⟨rfl, hb2⟩; obtain ⟨hc2, hf2⟩ := bcell hb2; have hz2 : w1.heap.size + 1 ≤ w2.heap.size := (by simpa using hb2.size); have r0 : w.heap.size < w2.heap.size := (by omega); have r1 : w.heap.size + 1 < w2.heap.size := (by omega); have r2 : w1.heap.size < w2.heap.size := (by omega)))
    go_ret
    rw [HR.out]
    exact ⟨_, rfl, BytesR.of_own (World.ownsRow_nil _ 0 5 1), (below_then (below_alloc (below_then (below_alloc (below_alloc (below_alloc (Below.refl _ _) _) _) _) hb1) _) hb2)⟩
  have hT := hT rfl
  have HT := Lib.hid hT
  clear hT
  by_cases h3 : typ = 3
  · have HR := Lib.hid (show X = [] from by rw [← HX.out, if_neg (by simp [h3])])
    have d3 : (typ == 3) = true := by simpa using h3
    clear h3
    go_enter Tryd.func18, Tryd.ntmps18
    go_wp2_with (first
      | (go_at_call 17; refine (HL.out _).mono ?_; rintro e w1 ⟨rfl, hb1⟩; obtain ⟨hc1, hf1⟩ := bcell hb1; have hz1 : w.heap.size + 1 + 1 + 1 ≤ w1.heap.size := (by simpa using hb1.size); have l0 : w.heap.size < w1.heap.size := (by omega); have l1 : w.heap.size + 1 < w1.heap.size := (by omega); have l2 : w.heap.size + 1 + 1 < w1.heap.size := (by omega)
         have hlk := fun o => run_look (P := Tryd.prog) (T := 84) (d := .int .i64) (k := .int .i64 2) (b := w.heap.size + 1 + 1) (W := w1.alloc o) false Tryd.underlying84 Tryd.underlying3 rfl ((heap_past _ _ _ l2).trans ((hb1.block _ (by simp)).trans (heap_at _ _ _ (by simp)))) rfl (i := 1) rfl
         simp only [Bool.false_eq_true, if_false] at hlk)
      | (go_at_call 50; refine (HM.out _).mono ?_; rintro e w2 ⟨rfl, hb2⟩; obtain ⟨hc2, hf2⟩ := bcell hb2; have hz2 : w1.heap.size + 1 ≤ w2.heap.size := (by simpa using hb2.size); have r0 : w.heap.size < w2.heap.size := (by omega); have r1 : w.heap.size + 1 < w2.heap.size := (by omega); have r2 : w1.heap.size < w2.heap.size := (by omega)))
    go_ret
    rw [HR.out]
    exact ⟨_, rfl, BytesR.of_own (World.ownsRow_nil _ 0 5 1), (below_then (below_alloc (below_then (below_alloc (below_alloc (below_alloc (Below.refl _ _) _) _) _) hb1) _) hb2)⟩
  · have HR := Lib.hid (show X = R from by rw [← HX.out, if_pos (by simp [h3])])
    have d3 : (typ == 3) = false := by simpa using h3
    clear h3
    go_enter Tryd.func18, Tryd.ntmps18
    go_wp2_with (first
      | (go_at_call 17; refine (HL.out _).mono ?_; rintro e w1 ⟨rfl, hb1⟩; obtain ⟨hc1, hf1⟩ := bcell hb1; have hz1 : w.heap.size + 1 + 1 + 1 ≤ w1.heap.size := (by simpa using hb1.size); have l0 : w.heap.size < w1.heap.size := (by omega); have l1 : w.heap.size + 1 < w1.heap.size := (by omega); have l2 : w.heap.size + 1 + 1 < w1.heap.size := (by omega)
         have hlk := fun o => run_look (P := Tryd.prog) (T := 84) (d := .int .i64) (k := .int .i64 2) (b := w.heap.size + 1 + 1) (W := w1.alloc o) false Tryd.underlying84 Tryd.underlying3 rfl ((heap_past _ _ _ l2).trans ((hb1.block _ (by simp)).trans (heap_at _ _ _ (by simp)))) rfl (i := 1) rfl
         simp only [Bool.false_eq_true, if_false] at hlk)
      | (go_at_call 50; refine (HM.out _).mono ?_; rintro e w2 ⟨rfl, hb2⟩; obtain ⟨hc2, hf2⟩ := bcell hb2; have hz2 : w1.heap.size + 1 ≤ w2.heap.size := (by simpa using hb2.size); have r0 : w.heap.size < w2.heap.size := (by omega); have r1 : w.heap.size + 1 < w2.heap.size := (by omega); have r2 : w1.heap.size < w2.heap.size := (by omega))
      | (go_at_call 46; refine (HT.out _ ?hh).mono ?_; (case hh => exact (below_then (below_alloc (below_then (below_alloc (below_alloc (below_alloc (Below.refl _ _) _) _) _) hb1) _) hb2)); rintro e w3 ⟨v, rfl, hv, hb3⟩))
    go_ret
    rw [HR.out]
    exact ⟨_, rfl, hv, below_then (below_then (below_alloc (below_then (below_alloc (below_alloc (below_alloc (Below.refl _ _) _) _) _) hb1) _) hb2) hb3⟩

set_option maxRecDepth 100000 in
set_option maxHeartbeats 2000000 in
theorem legacy_Key_3 (m : ModesD) (k : KeyD) (w : World) (hk : k.wf) (ht : k.text.length ≤ 1000000000000) (htab : TabOk w) (hkd : (lookD k.code).kind = 3) :
    Calls Tryd.prog 18 #[m.v, k.v] w (BytesRet w (if mayK k = true ∧ k.typ ≠ 3 then letterL m k (lookD k.code) else [])) := by
  have hL := fun W => keys_Look k.code W
  unfold EntryIsD EntryIs at hL
  have hM := fun W => mods_May k W hk ht
  have hfa := lookD_facts k.code
  have hT := fun (hm : mayK k = true) W (hW : Below w.heap.size w W) => have h0 : 0 ≤ k.mods := (by simp [mayK] at hm; omega); have h1 : k.mods ≤ 255 := (by simp [mayK] at hm; omega); legacy_letter m k (lookD k.code) W hk hfa.1.1 hfa.1.2 (htab.later hW)
  obtain ⟨R, hRe⟩ : ∃ R, letterL m k (lookD k.code) = R := ⟨_, rfl⟩
  rw [hRe] at hT ⊢
  have hX := Lib.hid (show (if mayK k = true ∧ k.typ ≠ 3 then R else []) = if mayK k = true ∧ k.typ ≠ 3 then R else [] from rfl)
  obtain ⟨X, hXe⟩ : ∃ X, (if mayK k = true ∧ k.typ ≠ 3 then R else []) = X := ⟨_, rfl⟩
  rw [hXe]
  have HX := Lib.hid hXe
  clear hRe hX hXe hfa
  obtain ⟨mb, hmb⟩ : ∃ mb, mayK k = mb := ⟨_, rfl⟩
  rw [hmb] at hT hM HX
  clear hmb
  have hmm : ∀ o1 o2, (Instr.makeMap 84 none).run Tryd.prog ((w.alloc o1).alloc o2) = .ok (.map (some (w.heap.size + 1 + 1))) (((w.alloc o1).alloc o2).alloc (.map (litEs formsV 0) 0)) := fun o1 o2 => by
    rw [run_makeMap]
    simp
    rfl
  have i0 := fun o1 o2 => run_lit (P := Tryd.prog) (T := 84) (d := .int .i64) formsV 0 _ _ rfl Tryd.underlying84 Tryd.underlying3 rfl rfl ((w.alloc o1).alloc o2) (w.heap.size + 1 + 1) (by simp)
  have i1 := fun o1 o2 => run_lit (P := Tryd.prog) (T := 84) (d := .int .i64) formsV 1 _ _ rfl Tryd.underlying84 Tryd.underlying3 rfl rfl ((w.alloc o1).alloc o2) (w.heap.size + 1 + 1) (by simp)
  have i2 := fun o1 o2 => run_lit (P := Tryd.prog) (T := 84) (d := .int .i64) formsV 2 _ _ rfl Tryd.underlying84 Tryd.underlying3 rfl rfl ((w.alloc o1).alloc o2) (w.heap.size + 1 + 1) (by simp)
  have i3 := fun o1 o2 => run_lit (P := Tryd.prog) (T := 84) (d := .int .i64) formsV 3 _ _ rfl Tryd.underlying84 Tryd.underlying3 rfl rfl ((w.alloc o1).alloc o2) (w.heap.size + 1 + 1) (by simp)
  have i4 := fun o1 o2 => run_lit (P := Tryd.prog) (T := 84) (d := .int .i64) formsV 4 _ _ rfl Tryd.underlying84 Tryd.underlying3 rfl rfl ((w.alloc o1).alloc o2) (w.heap.size + 1 + 1) (by simp)
  obtain ⟨code, mods, typ, sh, base, text⟩ := k
  obtain ⟨m1, m2, m3, m4, m5, m6, m7, m8, m9, m10⟩ := m
  unfold KeyD.v ModesD.v EntryD.v at *
  simp only at *
  obtain ⟨E, hE⟩ : ∃ E, lookD code = E := ⟨_, rfl⟩
  rw [hE] at hL hkd hT
  clear hE
  rw [hkd] at hL hT
  obtain ⟨x1, x2, x3, x4, x5⟩ := E
  simp only at *
  have HL := Lib.hid hL
  have HM := Lib.hid hM
  have hfn : ∀ W, (binOp .eql 85 (.func (.func 47) #[] #[]) .nilFunc).run Tryd.prog W = .ok (.bool false) W := fun W => by kernel_rfl
  clear hL hM hkd hk htab
  cases mb
  · clear hT
    have HR := Lib.hid (show X = [] from by rw [← HX.out, if_neg (by simp)])
    go_enter Tryd.func18, Tryd.ntmps18
    go_wp2_with (first
      | (go_at_call 17; refine (HL.out _).mono ?_; rintro e w1 ⟨rfl, hb1⟩; obtain ⟨hc1, hf1⟩ := bcell hb1; have hz1 : w.heap.size + 1 + 1 + 1 ≤ w1.heap.size := (by simpa using hb1.size); have l0 : w.heap.size < w1.heap.size := (by omega); have l1 : w.heap.size + 1 < w1.heap.size := (by omega); have l2 : w.heap.size + 1 + 1 < w1.heap.size := (by omega)
         have hlk := fun o => run_look (P := Tryd.prog) (T := 84) (d := .int .i64) (k := .int .i64 3) (b := w.heap.size + 1 + 1) (W := w1.alloc o) false Tryd.underlying84 Tryd.underlying3 rfl ((heap_past _ _ _ l2).trans ((hb1.block _ (by simp)).trans (heap_at _ _ _ (by simp)))) rfl (i := 2) rfl
         simp only [Bool.false_eq_true, if_false] at hlk)
      | (go_at_call 50; refine (HM.out _).mono ?_; rintro e w2 ⟨rfl, hb2⟩; obtain ⟨hc2, hf2⟩ := bcell hb2; have hz2 : w1.heap.size + 1 ≤ w2.heap.size := (by simpa using hb2.size); have r0 : w.heap.size < w2.heap.size := (by omega); have r1 : w.heap.size + 1 < w2.heap.size := (by omega); have r2 : w1.heap.size < w2.heap.size := (by omega)))
    go_ret
    rw [HR.out]
    exact ⟨_, rfl, BytesR.of_own (World.ownsRow_nil _ 0 5 1), (below_then (below_alloc (below_then (below_alloc (below_alloc (below_alloc (Below.refl _ _) _) _) _) hb1) _) hb2)⟩
  have hT := hT rfl
  have HT := Lib.hid hT
  clear hT
  by_cases h3 : typ = 3
  · have HR := Lib.hid (show X = [] from by rw [← HX.out, if_neg (by simp [h3])])
    have d3 : (typ == 3) = true := by simpa using h3
    clear h3
    go_enter Tryd.func18, Tryd.ntmps18
    go_wp2_with (first
      | (go_at_call 17; refine (HL.out _).mono ?_; rintro e w1 ⟨rfl, hb1⟩; obtain ⟨hc1, hf1⟩ := bcell hb1; have hz1 : w.heap.size + 1 + 1 + 1 ≤ w1.heap.size := (by simpa using hb1.size); have l0 : w.heap.size < w1.heap.size := (by omega); have l1 : w.heap.size + 1 < w1.heap.size := (by omega); have l2 : w.heap.size + 1 + 1 < w1.heap.size := (by omega)
         have hlk := fun o => run_look (P := Tryd.prog) (T := 84) (d := .int .i64) (k := .int .i64 3) (b := w.heap.size + 1 + 1) (W := w1.alloc o) false Tryd.underlying84 Tryd.underlying3 rfl ((heap_past _ _ _ l2).trans ((hb1.block _ (by simp)).trans (heap_at _ _ _ (by simp)))) rfl (i := 2) rfl
         simp only [Bool.false_eq_true, if_false] at hlk)
      | (go_at_call 50; refine (HM.out _).mono ?_; rintro e w2 ⟨rfl, hb2⟩; obtain ⟨hc2, hf2⟩ := bcell hb2; have hz2 : w1.heap.size + 1 ≤ w2.heap.size := (by simpa using hb2.size); have r0 : w.heap.size < w2.heap.size := (by omega); have r1 : w.heap.size + 1 < w2.heap.size := (by omega); have r2 : w1.heap.size < w2.heap.size := (by omega)))
    go_ret
    rw [HR.out]
    exact ⟨_, rfl, BytesR.of_own (World.ownsRow_nil _ 0 5 1), (below_then (below_alloc (below_then (below_alloc (below_alloc (below_alloc (Below.refl _ _) _) _) _) hb1) _) hb2)⟩
  · have HR := Lib.hid (show X = R from by rw [← HX.out, if_pos (by simp [h3])])
    have d3 : (typ == 3) = false := by simpa using h3
    clear h3
    go_enter Tryd.func18, Tryd.ntmps18
    go_wp2_with (first
      | (go_at_call 17; refine (HL.out _).mono ?_; rintro e w1 ⟨rfl, hb1⟩; obtain ⟨hc1, hf1⟩ := bcell hb1; have hz1 : w.heap.size + 1 + 1 + 1 ≤ w1.heap.size := (by simpa using hb1.size); have l0 : w.heap.size < w1.heap.size := (by omega); have l1 : w.heap.size + 1 < w1.heap.size := (by omega); have l2 : w.heap.size + 1 + 1 < w1.heap.size := (by omega)
         have hlk := fun o => run_look (P := Tryd.prog) (T := 84) (d := .int .i64) (k := .int .i64 3) (b := w.heap.size + 1 + 1) (W := w1.alloc o) false Tryd.underlying84 Tryd.underlying3 rfl ((heap_past _ _ _ l2).trans ((hb1.block _ (by simp)).trans (heap_at _ _ _ (by simp)))) rfl (i := 2) rfl
         simp only [Bool.false_eq_true, if_false] at hlk)
      | (go_at_call 50; refine (HM.out _).mono ?_; rintro e w2 ⟨rfl, hb2⟩; obtain ⟨hc2, hf2⟩ := bcell hb2; have hz2 : w1.heap.size + 1 ≤ w2.heap.size := (by simpa using hb2.size); have r0 : w.heap.size < w2.heap.size := (by omega); have r1 : w.heap.size + 1 < w2.heap.size := (by omega); have r2 : w1.heap.size < w2.heap.size := (by omega))
      | (go_at_call 47; refine (HT.out _ ?hh).mono ?_; (case hh => exact (below_then (below_alloc (below_then (below_alloc (below_alloc (below_alloc (Below.refl _ _) _) _) _) hb1) _) hb2)); rintro e w3 ⟨v, rfl, hv, hb3⟩))
    go_ret
    rw [HR.out]
    exact ⟨_, rfl, hv, below_then (below_then (below_alloc (below_then (below_alloc (below_alloc (below_alloc (Below.refl _ _) _) _) _) hb1) _) hb2) hb3⟩

set_option maxRecDepth 100000 in
set_option maxHeartbeats 2000000 in
theorem legacy_Key_4 (m : ModesD) (k : KeyD) (w : World) (hk : k.wf) (ht : k.text.length ≤ 1000000000000) (htab : TabOk w) (hkd : (lookD k.code).kind = 4) :
    Calls Tryd.prog 18 #[m.v, k.v] w (BytesRet w (if mayK k = true ∧ k.typ ≠ 3 then numberL2 k (lookD k.code) else [])) := by
  have hL := fun W => keys_Look k.code W
  unfold EntryIsD EntryIs at hL
  have hM := fun W => mods_May k W hk ht
  have hfa := lookD_facts k.code
  have hT := fun (hm : mayK k = true) W (hW : Below w.heap.size w W) => have h0 : 0 ≤ k.mods := (by simp [mayK] at hm; omega); have h1 : k.mods ≤ 255 := (by simp [mayK] at hm; omega); legacy_number m k (lookD k.code) W hk (by have := hfa.2.2.1; unfold i64r; omega) (htab.later hW)
  obtain ⟨R, hRe⟩ : ∃ R, numberL2 k (lookD k.code) = R := ⟨_, rfl⟩
  rw [hRe] at hT ⊢
  have hX := Lib.hid (show (if mayK k = true ∧ k.typ ≠ 3 then R else []) = if mayK k = true ∧ k.typ ≠ 3 then R else [] from rfl)
  obtain ⟨X, hXe⟩ : ∃ X, (if mayK k = true ∧ k.typ ≠ 3 then R else []) = X := ⟨_, rfl⟩
  rw [hXe]
  have HX := Lib.hid hXe
  clear hRe hX hXe hfa
  obtain ⟨mb, hmb⟩ : ∃ mb, mayK k = mb := ⟨_, rfl⟩
  rw [hmb] at hT hM HX
  clear hmb
  have hmm : ∀ o1 o2, (Instr.makeMap 84 none).run Tryd.prog ((w.alloc o1).alloc o2) = .ok (.map (some (w.heap.size + 1 + 1))) (((w.alloc o1).alloc o2).alloc (.map (litEs formsV 0) 0)) := fun o1 o2 => by
    rw [run_makeMap]
    simp
    rfl
  have i0 := fun o1 o2 => run_lit (P := Tryd.prog) (T := 84) (d := .int .i64) formsV 0 _ _ rfl Tryd.underlying84 Tryd.underlying3 rfl rfl ((w.alloc o1).alloc o2) (w.heap.size + 1 + 1) (by simp)
  have i1 := fun o1 o2 => run_lit (P := Tryd.prog) (T := 84) (d := .int .i64) formsV 1 _ _ rfl Tryd.underlying84 Tryd.underlying3 rfl rfl ((w.alloc o1).alloc o2) (w.heap.size + 1 + 1) (by simp)
  have i2 := fun o1 o2 => run_lit (P := Tryd.prog) (T := 84) (d := .int .i64) formsV 2 _ _ rfl Tryd.underlying84 Tryd.underlying3 rfl rfl ((w.alloc o1).alloc o2) (w.heap.size + 1 + 1) (by simp)
  have i3 := fun o1 o2 => run_lit (P := Tryd.prog) (T := 84) (d := .int .i64) formsV 3 _ _ rfl Tryd.underlying84 Tryd.underlying3 rfl rfl ((w.alloc o1).alloc o2) (w.heap.size + 1 + 1) (by simp)
  have i4 := fun o1 o2 => run_lit (P := Tryd.prog) (T := 84) (d := .int .i64) formsV 4 _ _ rfl Tryd.underlying84 Tryd.underlying3 rfl rfl ((w.alloc o1).alloc o2) (w.heap.size + 1 + 1) (by simp)
  obtain ⟨code, mods, typ, sh, base, text⟩ := k
  obtain ⟨m1, m2, m3, m4, m5, m6, m7, m8, m9, m10⟩ := m
  unfold KeyD.v ModesD.v EntryD.v at *
  simp only at *
  obtain ⟨E, hE⟩ : ∃ E, lookD code = E := ⟨_, rfl⟩
  rw [hE] at hL hkd hT
  clear hE
  rw [hkd] at hL hT
  obtain ⟨x1, x2, x3, x4, x5⟩ := E
  simp only at *
  have HL := Lib.hid hL
  have HM := Lib.hid hM
  have hfn : ∀ W, (binOp .eql 85 (.func (.func 48) #[] #[]) .nilFunc).run Tryd.prog W = .ok (.bool false) W := fun W => by kernel_rfl
  clear hL hM hkd hk htab
  cases mb
  · clear hT
    have HR := Lib.hid (show X = [] from by rw [← HX.out, if_neg (by simp)])
    go_enter Tryd.func18, Tryd.ntmps18
    go_wp2_with (first
      | (go_at_call 17; refine (HL.out _).mono ?_; rintro e w1 ⟨rfl, hb1⟩; obtain ⟨hc1, hf1⟩ := bcell hb1; have hz1 : w.heap.size + 1 + 1 + 1 ≤ w1.heap.size := (by simpa using hb1.size); have l0 : w.heap.size < w1.heap.size := (by omega); have l1 : w.heap.size + 1 < w1.heap.size := (by omega); have l2 : w.heap.size + 1 + 1 < w1.heap.size := (by omega)
         have hlk := fun o => run_look (P := Tryd.prog) (T := 84) (d := .int .i64) (k := .int .i64 4) (b := w.heap.size + 1 + 1) (W := w1.alloc o) false Tryd.underlying84 Tryd.underlying3 rfl ((heap_past _ _ _ l2).trans ((hb1.block _ (by simp)).trans (heap_at _ _ _ (by simp)))) rfl (i := 3) rfl
         simp only [Bool.false_eq_true, if_false] at hlk)
      | (go_at_call 50; refine (HM.out _).mono ?_; rintro e w2 ⟨rfl, hb2⟩; obtain ⟨hc2, hf2⟩ := bcell hb2; have hz2 : w1.heap.size + 1 ≤ w2.heap.size := (by simpa using hb2.size); have r0 : w.heap.size < w2.heap.size := (by omega); have r1 : w.heap.size + 1 < w2.heap.size := (by omega); have r2 : w1.heap.size < w2.heap.size := (by omega)))
    go_ret
    rw [HR.out]
    exact ⟨_, rfl, BytesR.of_own (World.ownsRow_nil _ 0 5 1), (below_then (below_alloc (below_then (below_alloc (below_alloc (below_alloc (Below.refl _ _) _) _) _) hb1) _) hb2)⟩
  have hT := hT rfl
  have HT := Lib.hid hT
  clear hT
  by_cases h3 : typ = 3
  · have HR := Lib.hid (show X = [] from by rw [← HX.out, if_neg (by simp [h3])])
    have d3 : (typ == 3) = true := by simpa using h3
    clear h3
    go_enter Tryd.func18, Tryd.ntmps18
    go_wp2_with (first
      | (go_at_call 17; refine (HL.out _).mono ?_; rintro e w1 ⟨rfl, hb1⟩; obtain ⟨hc1, hf1⟩ := bcell hb1; have hz1 : w.heap.size + 1 + 1 + 1 ≤ w1.heap.size := (by simpa using hb1.size); have l0 : w.heap.size < w1.heap.size := (by omega); have l1 : w.heap.size + 1 < w1.heap.size := (by omega); have l2 : w.heap.size + 1 + 1 < w1.heap.size := (by omega)
         have hlk := fun o => run_look (P := Tryd.prog) (T := 84) (d := .int .i64) (k := .int .i64 4) (b := w.heap.size + 1 + 1) (W := w1.alloc o) false Tryd.underlying84 Tryd.underlying3 rfl ((heap_past _ _ _ l2).trans ((hb1.block _ (by simp)).trans (heap_at _ _ _ (by simp)))) rfl (i := 3) rfl
         simp only [Bool.false_eq_true, if_false] at hlk)
      | (go_at_call 50; refine (HM.out _).mono ?_; rintro e w2 ⟨rfl, hb2⟩; obtain ⟨hc2, hf2⟩ := bcell hb2; have hz2 : w1.heap.size + 1 ≤ w2.heap.size := (by simpa using hb2.size); have r0 : w.heap.size < w2.heap.size := (by omega); have r1 : w.heap.size + 1 < w2.heap.size := (by omega); have r2 : w1.heap.size < w2.heap.size := (by omega)))
    go_ret
    rw [HR.out]
    exact ⟨_, rfl, BytesR.of_own (World.ownsRow_nil _ 0 5 1), (below_then (below_alloc (below_then (below_alloc (below_alloc (below_alloc (Below.refl _ _) _) _) _) hb1) _) hb2)⟩
  · have HR := Lib.hid (show X = R from by rw [← HX.out, if_pos (by simp [h3])])
    have d3 : (typ == 3) = false := by simpa using h3
    clear h3
    go_enter Tryd.func18, Tryd.ntmps18
    go_wp2_with (first
      | (go_at_call 17; refine (HL.out _).mono ?_; rintro e w1 ⟨rfl, hb1⟩; obtain ⟨hc1, hf1⟩ := bcell hb1; have hz1 : w.heap.size + 1 + 1 + 1 ≤ w1.heap.size := (by simpa using hb1.size); have l0 : w.heap.size < w1.heap.size := (by omega); have l1 : w.heap.size + 1 < w1.heap.size := (by omega); have l2 : w.heap.size + 1 + 1 < w1.heap.size := (by omega)
         have hlk := fun o => run_look (P := Tryd.prog) (T := 84) (d := .int .i64) (k := .int .i64 4) (b := w.heap.size + 1 + 1) (W := w1.alloc o) false Tryd.underlying84 Tryd.underlying3 rfl ((heap_past _ _ _ l2).trans ((hb1.block _ (by simp)).trans (heap_at _ _ _ (by simp)))) rfl (i := 3) rfl
         simp only [Bool.false_eq_true, if_false] at hlk)
      | (go_at_call 50; refine (HM.out _).mono ?_; rintro e w2 ⟨rfl, hb2⟩; obtain ⟨hc2, hf2⟩ := bcell hb2; have hz2 : w1.heap.size + 1 ≤ w2.heap.size := (by simpa using hb2.size); have r0 : w.heap.size < w2.heap.size := (by omega); have r1 : w.heap.size + 1 < w2.heap.size := (by omega); have r2 : w1.heap.size < w2.heap.size := (by omega))
      | (go_at_call 48; refine (HT.out _ ?hh).mono ?_; (case hh => exact (below_then (below_alloc (below_then (below_alloc (below_alloc (below_alloc (Below.refl _ _) _) _) _) hb1) _) hb2)); rintro e w3 ⟨v, rfl, hv, hb3⟩))
    go_ret
    rw [HR.out]
    exact ⟨_, rfl, hv, below_then (below_then (below_alloc (below_then (below_alloc (below_alloc (below_alloc (Below.refl _ _) _) _) _) hb1) _) hb2) hb3⟩

set_option maxRecDepth 100000 in
set_option maxHeartbeats 2000000 in
theorem legacy_Key_5 (m : ModesD) (k : KeyD) (w : World) (hk : k.wf) (ht : k.text.length ≤ 1000000000000) (htab : TabOk w) (hkd : (lookD k.code).kind = 5) :
    Calls Tryd.prog 18 #[m.v, k.v] w (BytesRet w (if mayK k = true ∧ k.typ ≠ 3 then padL m k (lookD k.code) else [])) := by
  have hL := fun W => keys_Look k.code W
  unfold EntryIsD EntryIs at hL
  have hM := fun W => mods_May k W hk ht
  have hfa := lookD_facts k.code
  have hT := fun (hm : mayK k = true) W (hW : Below w.heap.size w W) => have h0 : 0 ≤ k.mods := (by simp [mayK] at hm; omega); have h1 : k.mods ≤ 255 := (by simp [mayK] at hm; omega); legacy_pad m k (lookD k.code) W hk h0 h1 ht hfa.1.1 hfa.1.2 hfa.2.1.1 hfa.2.1.2 (htab.later hW)
  obtain ⟨R, hRe⟩ : ∃ R, padL m k (lookD k.code) = R := ⟨_, rfl⟩
  rw [hRe] at hT ⊢
  have hX := Lib.hid (show (if mayK k = true ∧ k.typ ≠ 3 then R else []) = if mayK k = true ∧ k.typ ≠ 3 then R else [] from rfl)
  obtain ⟨X, hXe⟩ : ∃ X, (if mayK k = true ∧ k.typ ≠ 3 then R else []) = X := ⟨_, rfl⟩
  rw [hXe]
  have HX := Lib.hid hXe
  clear hRe hX hXe hfa
  obtain ⟨mb, hmb⟩ : ∃ mb, mayK k = mb := ⟨_, rfl⟩
  rw [hmb] at hT hM HX
  clear hmb
  have hmm : ∀ o1 o2, (Instr.makeMap 84 none).run Tryd.prog ((w.alloc o1).alloc o2) = .ok (.map (some (w.heap.size + 1 + 1))) (((w.alloc o1).alloc o2).alloc (.map (litEs formsV 0) 0)) := fun o1 o2 => by
    rw [run_makeMap]
    simp
    rfl
  have i0 := fun o1 o2 => run_lit (P := Tryd.prog) (T := 84) (d := .int .i64) formsV 0 _ _ rfl Tryd.underlying84 Tryd.underlying3 rfl rfl ((w.alloc o1).alloc o2) (w.heap.size + 1 + 1) (by simp)
  have i1 := fun o1 o2 => run_lit (P := Tryd.prog) (T := 84) (d := .int .i64) formsV 1 _ _ rfl Tryd.underlying84 Tryd.underlying3 rfl rfl ((w.alloc o1).alloc o2) (w.heap.size + 1 + 1) (by simp)
  have i2 := fun o1 o2 => run_lit (P := Tryd.prog) (T := 84) (d := .int .i64) formsV 2 _ _ rfl Tryd.underlying84 Tryd.underlying3 rfl rfl ((w.alloc o1).alloc o2) (w.heap.size + 1 + 1) (by simp)
  have i3 := fun o1 o2 => run_lit (P := Tryd.prog) (T := 84) (d := .int .i64) formsV 3 _ _ rfl Tryd.underlying84 Tryd.underlying3 rfl rfl ((w.alloc o1).alloc o2) (w.heap.size + 1 + 1) (by simp)
  have i4 := fun o1 o2 => run_lit (P := Tryd.prog) (T := 84) (d := .int .i64) formsV 4 _ _ rfl Tryd.underlying84 Tryd.underlying3 rfl rfl ((w.alloc o1).alloc o2) (w.heap.size + 1 + 1) (by simp)
  obtain ⟨code, mods, typ, sh, base, text⟩ := k
  obtain ⟨m1, m2, m3, m4, m5, m6, m7, m8, m9, m10⟩ := m
  unfold KeyD.v ModesD.v EntryD.v at *
  simp only at *
  obtain ⟨E, hE⟩ : ∃ E, lookD code = E := ⟨_, rfl⟩
  rw [hE] at hL hkd hT
  clear hE
  rw [hkd] at hL hT
  obtain ⟨x1, x2, x3, x4, x5⟩ := E
  simp only at *
  have HL := Lib.hid hL
  have HM := Lib.hid hM
  have hfn : ∀ W, (binOp .eql 85 (.func (.func 49) #[] #[]) .nilFunc).run Tryd.prog W = .ok (.bool false) W := fun W => by kernel_rfl
  clear hL hM hkd hk htab
  cases mb
  · clear hT
    have HR := Lib.hid (show X = [] from by rw [← HX.out, if_neg (by simp)])
    go_enter Tryd.func18, Tryd.ntmps18
    go_wp2_with (first
      | (go_at_call 17; refine (HL.out _).mono ?_; rintro e w1 ⟨rfl, hb1⟩; obtain ⟨hc1, hf1⟩ := bcell hb1; have hz1 : w.heap.size + 1 + 1 + 1 ≤ w1.heap.size := (by simpa using hb1.size); have l0 : w.heap.size < w1.heap.size := (by omega); have l1 : w.heap.size + 1 < w1.heap.size := (by omega); have l2 : w.heap.size + 1 + 1 < w1.heap.size := (by omega)
         have hlk := fun o => run_look (P := Tryd.prog) (T := 84) (d := .int .i64) (k := .int .i64 5) (b := w.heap.size + 1 + 1) (W := w1.alloc o) false Tryd.underlying84 Tryd.underlying3 rfl ((heap_past _ _ _ l2).trans ((hb1.block _ (by simp)).trans (heap_at _ _ _ (by simp)))) rfl (i := 4) rfl
         simp only [Bool.false_eq_true, if_false] at hlk)
      | (go_at_call 50; refine (HM.out _).mono ?_; rintro e w2 ⟨rfl, hb2⟩; obtain ⟨hc2, hf2⟩ := bcell hb2; have hz2 : w1.heap.size + 1 ≤ w2.heap.size := (by simpa using hb2.size); have r0 : w.heap.size < w2.heap.size := (by omega); have r1 : w.heap.size + 1 < w2.heap.size := (by omega); have r2 : w1.heap.size < w2.heap.size := (by omega)))
    go_ret
    rw [HR.out]
    exact ⟨_, rfl, BytesR.of_own (World.ownsRow_nil _ 0 5 1), (below_then (below_alloc (below_then (below_alloc (below_alloc (below_alloc (Below.refl _ _) _) _) _) hb1) _) hb2)⟩
  have hT := hT rfl
  have HT := Lib.hid hT
  clear hT
  by_cases h3 : typ = 3
  · have HR := Lib.hid (show X = [] from by rw [← HX.out, if_neg (by simp [h3])])
    have d3 : (typ == 3) = true := by simpa using h3
    clear h3
    go_enter Tryd.func18, Tryd.ntmps18
    go_wp2_with (first
      | (go_at_call 17; refine (HL.out _).mono ?_; rintro e w1 ⟨rfl, hb1⟩; obtain ⟨hc1, hf1⟩ := bcell hb1; have hz1 : w.heap.size + 1 + 1 + 1 ≤ w1.heap.size := (by simpa using hb1.size); have l0 : w.heap.size < w1.heap.size := (by omega); have l1 : w.heap.size + 1 < w1.heap.size := (by omega); have l2 : w.heap.size + 1 + 1 < w1.heap.size := (by omega)
         have hlk := fun o => run_look (P := Tryd.prog) (T := 84) (d := .int .i64) (k := .int .i64 5) (b := w.heap.size + 1 + 1) (W := w1.alloc o) false Tryd.underlying84 Tryd.underlying3 rfl ((heap_past _ _ _ l2).trans ((hb1.block _ (by simp)).trans (heap_at _ _ _ (by simp)))) rfl (i := 4) rfl
         simp only [Bool.false_eq_true, if_false] at hlk)
      | (go_at_call 50; refine (HM.out _).mono ?_; rintro e w2 ⟨rfl, hb2⟩; obtain ⟨hc2, hf2⟩ := bcell hb2; have hz2 : w1.heap.size + 1 ≤ w2.heap.size := (by simpa using hb2.size); have r0 : w.heap.size < w2.heap.size := (by omega); have r1 : w.heap.size + 1 < w2.heap.size := (by omega); have r2 : w1.heap.size < w2.heap.size := (by omega)))
    go_ret
    rw [HR.out]
    exact ⟨_, rfl, BytesR.of_own (World.ownsRow_nil _ 0 5 1), (below_then (below_alloc (below_then (below_alloc (below_alloc (below_alloc (Below.refl _ _) _) _) _) hb1) _) hb2)⟩
  · have HR := Lib.hid (show X = R from by rw [← HX.out, if_pos (by simp [h3])])
    have d3 : (typ == 3) = false := by simpa using h3
    clear h3
    go_enter Tryd.func18, Tryd.ntmps18
    go_wp2_with (first
      | (go_at_call 17; refine (HL.out _).mono ?_; rintro e w1 ⟨rfl, hb1⟩; obtain ⟨hc1, hf1⟩ := bcell hb1; have hz1 : w.heap.size + 1 + 1 + 1 ≤ w1.heap.size := (by simpa using hb1.size); have l0 : w.heap.size < w1.heap.size := (by omega); have l1 : w.heap.size + 1 < w1.heap.size := (by omega); have l2 : w.heap.size + 1 + 1 < w1.heap.size := (by omega)
         have hlk := fun o => run_look (P := Tryd.prog) (T := 84) (d := .int .i64) (k := .int .i64 5) (b := w.heap.size + 1 + 1) (W := w1.alloc o) false Tryd.underlying84 Tryd.underlying3 rfl ((heap_past _ _ _ l2).trans ((hb1.block _ (by simp)).trans (heap_at _ _ _ (by simp)))) rfl (i := 4) rfl
         simp only [Bool.false_eq_true, if_false] at hlk)
      | (go_at_call 50; refine (HM.out _).mono ?_; rintro e w2 ⟨rfl, hb2⟩; obtain ⟨hc2, hf2⟩ := bcell hb2; have hz2 : w1.heap.size + 1 ≤ w2.heap.size := (by simpa using hb2.size); have r0 : w.heap.size < w2.heap.size := (by omega); have r1 : w.heap.size + 1 < w2.heap.size := (by omega); have r2 : w1.heap.size < w2.heap.size := (by omega))
      | (go_at_call 49; refine (HT.out _ ?hh).mono ?_; (case hh => exact (below_then (below_alloc (below_then (below_alloc (below_alloc (below_alloc (Below.refl _ _) _) _) _) hb1) _) hb2)); rintro e w3 ⟨v, rfl, hv, hb3⟩))
    go_ret
    rw [HR.out]
    exact ⟨_, rfl, hv, below_then (below_then (below_alloc (below_then (below_alloc (below_alloc (below_alloc (Below.refl _ _) _) _) _) hb1) _) hb2) hb3⟩

set_option maxRecDepth 100000 in
set_option maxHeartbeats 2000000 in
theorem legacy_Key_0 (m : ModesD) (k : KeyD) (w : World) (h1 : (lookD k.code).kind ≠ 1) (h2 : (lookD k.code).kind ≠ 2) (h3 : (lookD k.code).kind ≠ 3) (h4 : (lookD k.code).kind ≠ 4) (h5 : (lookD k.code).kind ≠ 5) :
    Calls Tryd.prog 18 #[m.v, k.v] w (BytesRet w []) := by
  have hL := fun W => keys_Look k.code W
  unfold EntryIsD EntryIs at hL
  have hmm : ∀ o1 o2, (Instr.makeMap 84 none).run Tryd.prog ((w.alloc o1).alloc o2) = .ok (.map (some (w.heap.size + 1 + 1))) (((w.alloc o1).alloc o2).alloc (.map (litEs formsV 0) 0)) := fun o1 o2 => by
    rw [run_makeMap]
    simp
    rfl
  have i0 := fun o1 o2 => run_lit (P := Tryd.prog) (T := 84) (d := .int .i64) formsV 0 _ _ rfl Tryd.underlying84 Tryd.underlying3 rfl rfl ((w.alloc o1).alloc o2) (w.heap.size + 1 + 1) (by simp)
  have i1 := fun o1 o2 => run_lit (P := Tryd.prog) (T := 84) (d := .int .i64) formsV 1 _ _ rfl Tryd.underlying84 Tryd.underlying3 rfl rfl ((w.alloc o1).alloc o2) (w.heap.size + 1 + 1) (by simp)
  have i2 := fun o1 o2 => run_lit (P := Tryd.prog) (T := 84) (d := .int .i64) formsV 2 _ _ rfl Tryd.underlying84 Tryd.underlying3 rfl rfl ((w.alloc o1).alloc o2) (w.heap.size + 1 + 1) (by simp)
  have i3 := fun o1 o2 => run_lit (P := Tryd.prog) (T := 84) (d := .int .i64) formsV 3 _ _ rfl Tryd.underlying84 Tryd.underlying3 rfl rfl ((w.alloc o1).alloc o2) (w.heap.size + 1 + 1) (by simp)
  have i4 := fun o1 o2 => run_lit (P := Tryd.prog) (T := 84) (d := .int .i64) formsV 4 _ _ rfl Tryd.underlying84 Tryd.underlying3 rfl rfl ((w.alloc o1).alloc o2) (w.heap.size + 1 + 1) (by simp)
  obtain ⟨code, mods, typ, sh, base, text⟩ := k
  obtain ⟨m1, m2, m3, m4, m5, m6, m7, m8, m9, m10⟩ := m
  unfold KeyD.v ModesD.v
  simp only at *
  obtain ⟨E, hE⟩ : ∃ E, lookD code = E := ⟨_, rfl⟩
  rw [hE] at hL h1 h2 h3 h4 h5
  clear hE
  obtain ⟨kd, x2, x3, x4, x5⟩ := E
  simp only at *
  have HL := Lib.hid hL
  have hzv : ∀ W, (zeroValue 85).run Tryd.prog W = .ok .nilFunc W := fun W => by kernel_rfl
  have hfn : ∀ W, (binOp .eql 85 .nilFunc .nilFunc).run Tryd.prog W = .ok (.bool true) W := fun W => by kernel_rfl
  have HF := Lib.hid (show Instr.findNow (.int .i64) (.int .i64 kd) (litEs formsV 5).toList 0 = some none from by
    have e1 : (kd == 1) = false := by simpa using h1
    have e2 : (kd == 2) = false := by simpa using h2
    have e3 : (kd == 3) = false := by simpa using h3
    have e4 : (kd == 4) = false := by simpa using h4
    have e5 : (kd == 5) = false := by simpa using h5
    simp only [litEs, formsV, Instr.findNow, Instr.sameNow, List.take_succ_cons, List.take_zero, List.zipIdx_cons, List.zipIdx_nil, List.map_cons, List.map_nil, if_true, e1, e2, e3, e4, e5])
  clear hL h1 h2 h3 h4 h5
  go_enter Tryd.func18, Tryd.ntmps18
  go_wp2_with (first
    | (go_at_call 17; refine (HL.out _).mono ?_; rintro e w1 ⟨rfl, hb1⟩; obtain ⟨hc1, hf1⟩ := bcell hb1; have hz1 : w.heap.size + 1 + 1 + 1 ≤ w1.heap.size := (by simpa using hb1.size); have l0 : w.heap.size < w1.heap.size := (by omega); have l1 : w.heap.size + 1 < w1.heap.size := (by omega); have l2 : w.heap.size + 1 + 1 < w1.heap.size := (by omega)
       have hlk := fun o => run_look_not (P := Tryd.prog) (T := 84) (d := .int .i64) (k := .int .i64 kd) (b := w.heap.size + 1 + 1) (W := w1.alloc o) false Tryd.underlying84 Tryd.underlying3 rfl ((heap_past _ _ _ l2).trans ((hb1.block _ (by simp)).trans (heap_at _ _ _ (by simp)))) rfl HF.out (hzv (w1.alloc o))
       simp only [Bool.false_eq_true, if_false] at hlk))
  go_ret
  exact ⟨_, rfl, BytesR.of_own (World.ownsRow_nil _ 0 5 1), (below_alloc (below_then (below_alloc (below_alloc (below_alloc (Below.refl _ _) _) _) _) hb1) _)⟩

theorem legacy_Key (m : ModesD) (k : KeyD) (w : World) (hk : k.wf) (ht : k.text.length ≤ 1000000000000) (htab : TabOk w) :
    Calls Tryd.prog 18 #[m.v, k.v] w (BytesRet w (legacyL m k)) := by
  by_cases h1 : (lookD k.code).kind = 1
  · have := legacy_Key_1 m k w hk ht htab h1
    unfold legacyL
    rwa [if_pos h1]
  by_cases h2 : (lookD k.code).kind = 2
  · have := legacy_Key_2 m k w hk ht htab h2
    unfold legacyL
    rwa [if_neg h1, if_pos h2]
  by_cases h3 : (lookD k.code).kind = 3
  · have := legacy_Key_3 m k w hk ht htab h3
    unfold legacyL
    rwa [if_neg h1, if_neg h2, if_pos h3]
  by_cases h4 : (lookD k.code).kind = 4
  · have := legacy_Key_4 m k w hk ht htab h4
    unfold legacyL
    rwa [if_neg h1, if_neg h2, if_neg h3, if_pos h4]
  by_cases h5 : (lookD k.code).kind = 5
  · have := legacy_Key_5 m k w hk ht htab h5
    unfold legacyL
    rwa [if_neg h1, if_neg h2, if_neg h3, if_neg h4, if_pos h5]
  · have := legacy_Key_0 m k w h1 h2 h3 h4 h5
    unfold legacyL
    rwa [if_neg h1, if_neg h2, if_neg h3, if_neg h4, if_neg h5, ite_self]
end Go.Proofs.YtieppcjpbjefkaaDoor
