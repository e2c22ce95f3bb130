/- Contracts of package utf: the iterator over code points. -/
import Derived.Test.YtieppcjpbjefkaaDoorA1
import Derived.Test.YtieppcjpbjefkaaDoorAUtfC
import Derived.Shelf.RegionOpen
import Derived.Lib.Hide
import Derived.Test.YtieppcjpbjefkaaDoorA2
set_option linter.all false

/- Contracts of package utf: the iterator over code points. -/
namespace Go.Proofs.YtieppcjpbjefkaaDoor
open Go.RowKit Go.Proofs Go.Shelf
attribute [local go_sem] Oper.semAt_some

/-- the code points of bytes, as far as they are some -/
def ptsF : Nat → List Int → List (Int × Bool)
  | 0, _ => []
  | f + 1, bs => if bs.length = 0 then [] else if (takeL bs).2 = 0 then [((takeL bs).1, false)] else ((takeL bs).1, true) :: ptsF f (bs.drop (takeL bs).2)
def ptsL (bs : List Int) : List (Int × Bool) := ptsF bs.length bs
theorem ptsF_more : ∀ (f : Nat) (bs : List Int), bs.length ≤ f → ptsF f bs = ptsF bs.length bs
  | 0, bs, h => by rw [Nat.le_zero.1 h]
  | f + 1, bs, h => by
    cases hb : bs.length with
    | zero => simp [ptsF, hb]
    | succ m =>
      simp only [ptsF, hb]
      have h1 : ∀ k, 0 < k → (bs.drop k).length ≤ m := fun k hk => by rw [List.length_drop]; omega
      by_cases h0 : (takeL bs).2 = 0
      · simp [h0]
      · have h2 := h1 (takeL bs).2 (by omega)
        rw [ptsF_more f _ (by omega), ptsF_more m _ h2]
termination_by f => f
theorem ptsL_nil (bs : List Int) (h : bs.length = 0) : ptsL bs = [] := by unfold ptsL; rw [h]; rfl
theorem ptsL_bad (bs : List Int) (h : bs.length ≠ 0) (h0 : (takeL bs).2 = 0) : ptsL bs = [((takeL bs).1, false)] := by
  unfold ptsL
  cases hb : bs.length with
  | zero => exact absurd hb h
  | succ m => simp [ptsF, hb, h0]
theorem ptsL_next (bs : List Int) (h : bs.length ≠ 0) (h0 : (takeL bs).2 ≠ 0) : ptsL bs = ((takeL bs).1, true) :: ptsL (bs.drop (takeL bs).2) := by
  unfold ptsL
  cases hb : bs.length with
  | zero => exact absurd hb h
  | succ m =>
    have h1 : (bs.drop (takeL bs).2).length ≤ m := by rw [List.length_drop]; omega
    rw [← ptsF_more m _ h1]
    simp [ptsF, hb, h0]
theorem takeL_le (bs : List Int) : (takeL bs).2 ≤ bs.length := by
  unfold takeL hitL
  split
  · rename_i h; simp at h; simp; omega
  split
  · rename_i h; simp at h; simp; omega
  split
  · rename_i h; simp at h; simp; omega
  split
  · rename_i h; simp at h; simp; omega
  · simp

def encPt (x : Int × Bool) : Array Value := #[.int .i64 x.1, .bool x.2]
/-- what a round of the caller's leaves: what lay below m, and the iterator's own variable -/
def keptPt (m b : Nat) (A B : World) : Prop := (∀ i, i < m → B.heap[i]? = A.heap[i]?) ∧ B.heap[b]? = A.heap[b]?
def slLen (w : World) (b : Nat) : Nat := match w.cell? ⟨b, 0, none⟩ with | some (.slice _ n _) => n | _ => 0
def PtPost (all : List (Int × Bool)) (J Jx : List (Int × Bool) → World → Prop) (e : Ending) (W' : World) : Prop := (∃ v, e = .returned v) ∧ ((∃ xs, xs = all ∧ J xs W') ∨ (∃ pre, pre <+: all ∧ Jx pre W'))
def PtOut (m b : Nat) (pre : List (Int × Bool)) (J Jx : List (Int × Bool) → World → Prop) (W1 : World) (bb : Bool) (W' : World) : Prop :=
  (bb = true ∧ J pre W' ∧ keptPt m b W1 W') ∨ (bb = false ∧ Jx pre W')
/-- bytes below m -/
def BytesAt (m : Nat) (w : World) (p : Option Addr) (n : Nat) (xs : List Int) : Prop := xs.length = n ∧ n ≤ 9223372036854775807 ∧ (∀ i, 0 ≤ xs.getD i 0 ∧ xs.getD i 0 < 256) ∧ (0 < n → ∃ b o, p = some ⟨b, o, none⟩ ∧ b < m ∧ ∀ i, i < n → w.cell? ⟨b, o + i, none⟩ = some (.int .u8 (xs.getD i 0)))
theorem BytesAt.inn {m : Nat} {w : World} {p : Option Addr} {n : Nat} {xs : List Int} (h : BytesAt m w p n xs) : Lib.BytesIn w p n xs := fun h0 => by
  obtain ⟨b, o, hp, _, hc⟩ := h.2.2.2 h0
  exact ⟨b, o, hp, hc⟩
theorem BytesAt.later {m : Nat} {w w' : World} {p : Option Addr} {n : Nat} {xs : List Int} (h : BytesAt m w p n xs) (hk : ∀ i, i < m → w'.heap[i]? = w.heap[i]?) : BytesAt m w' p n xs :=
  ⟨h.1, h.2.1, h.2.2.1, fun h0 => by
    obtain ⟨b, o, hp, hb, hc⟩ := h.2.2.2 h0
    refine ⟨b, o, hp, hb, fun i hi => ?_⟩
    rw [← hc i hi]
    exact World.cell?_of_block (hk b hb)⟩

theorem BytesAt.drop {m : Nat} {w : World} {p : Option Addr} {n : Nat} {xs : List Int} (h : BytesAt m w p n xs) (k : Nat) (hk : k < n) : BytesAt m w (p.map fun a => a.add k) (n - k) (xs.drop k) := by
  obtain ⟨h1, h2, h3, h4⟩ := h
  have e : ∀ i, (xs.drop k).getD i 0 = xs.getD (k + i) 0 := fun i => by simp [List.getD_eq_getElem?_getD]
  refine ⟨by rw [List.length_drop, h1], by omega, fun i => by rw [e]; exact h3 _, fun h0 => ?_⟩
  obtain ⟨b, o, rfl, hb, hc⟩ := h4 (by omega)
  refine ⟨b, o + k, by simp [Go.WideShapes.add_plain], hb, fun i hi => ?_⟩
  rw [e, Nat.add_assoc]
  exact hc _ (by omega)
theorem BytesAt.none {m : Nat} {w : World} {p : Option Addr} : BytesAt m w p 0 [] := ⟨rfl, by omega, fun i => by simp, fun h => absurd h (by omega)⟩
theorem slLen_at {w : World} {b : Nat} {q : Option Addr} {n d : Nat} {t : TypeId} {fr : Nat × Nat} (h : w.heap[b]? = some (.cells #[.slice q n d] t fr)) : slLen w b = n := by
  have := cell_of_heap h 0
  simp only [List.getElem?_toArray, List.getElem?_cons_zero] at this
  simp [slLen, this]

set_option maxRecDepth 100000 in
set_option maxHeartbeats 2000000 in
theorem points_it (n : Nat) (hn : 1 ≤ n) (l b m : Nat) (hbm : m ≤ b) (p : Option Addr) (N c : Nat) (bs : List Int) (J Jx : List (Int × Bool) → World → Prop) (W : World) (hJ : CalmIt (some b) J)
    (hb : W.heap[b]? = some (.cells #[.slice p N c] 31 (0, 0))) (hc : N ≤ c) (hB : BytesAt m W p N bs)
    (hY : ∀ pre x W1, pre ++ [x] <+: ptsL bs → J pre W1 → YieldAt Fence.wide (n - 1) Tryd.prog l (encPt x) W1 fun e W' =>
      (e = .returned (.bool true) ∧ J (pre ++ [x]) W' ∧ keptPt m b W1 W') ∨ (e = .returned (.bool false) ∧ Jx (pre ++ [x]) W')) (h0 : J [] W) :
    CallsIn Fence.wide n Tryd.prog 146 (#[.func (.yield l) #[] #[]] ++ #[.pointer (some ⟨b, 0, none⟩)]) W (PtPost (ptsL bs) J Jx) := by
  refine callsIn_of_wp Tryd.func146 rfl trivial ?_ rfl
  simp only [Tryd.ntmps146, List.size_toArray, List.length_cons, List.length_nil, Nat.reduceAdd, Nat.reduceSub, Array.replicate_succ, Array.replicate_zero, List.push_toArray, List.append_toArray, List.nil_append, List.cons_append]
  have HY := Lib.hid hY
  have HJ := Lib.hid hJ
  clear hY hJ
  gi_wp2
  gi_loopw [] (fun wr => ∃ (pre : List (Int × Bool)) (rem : List Int) (q : Option Addr) (M d : Nat), J pre wr ∧ Hid (pre ++ ptsL rem = ptsL bs) ∧ wr.heap[b]? = some (.cells #[.slice q M d] 31 (0, 0)) ∧ M ≤ d ∧ Hid (BytesAt m wr q M rem)) (fun wr => slLen wr b)
  case atStart => exact ⟨[], bs, p, N, c, h0, Lib.hid rfl, hb, hc, Lib.hid hB⟩
  case round =>
    obtain ⟨pre, rem, q, M, d, hJs, hE, hb1, hd, hBr⟩ := hrel
    clear hb hc hB h0
    have c0 := cell_of_heap hb1 0
    simp only [List.getElem?_toArray, List.getElem?_cons_zero] at c0
    by_cases hM : M = 0
    · subst hM
      have HL := Lib.hid (ptsL_nil rem hBr.out.1)
      gi_wp2
      go_end0
      refine ⟨⟨_, rfl⟩, .inl ⟨_, ?_, hJs⟩⟩
      rw [← hE.out, HL.out, List.append_nil]
    · have hM1 : 0 < M := by omega
      have hT := utf_Take q M d rem wr hBr.out.2.1 hd hBr.out.1 hBr.out.2.2.1 hBr.out.inn
      have hle := takeL_le rem
      have hlr := hBr.out.1
      obtain ⟨r, k, hrk⟩ : ∃ r k, takeL rem = (r, k) := ⟨_, _, rfl⟩
      have hl0 : rem.length ≠ 0 := by omega
      by_cases hk : k = 0
      · subst hk
        have HL := Lib.hid (ptsL_bad rem hl0 (by rw [hrk]))
        rw [hrk] at hT hle HL
        have HT := Lib.hid hT
        clear hT hle hlr hrk hl0
        gi_wp2_with (first
          | (refine ⟨trivial, ?_⟩; gi_at_call 147; refine (callsIn_wide.2 HT.out).mono ?_; rintro e w1 ⟨rfl, hb2⟩
             obtain ⟨fn, tmps, assign, body, hy, hR⟩ := HY.out _ (r, false) w1 (by rw [← hE.out, HL.out]; exact List.prefix_rfl) (HJ.out _ _ _ none hJs ⟨hb2.os, hb2.tape, hb2.output, hb2.size, fun i hi _ => hb2.block i hi⟩ (by simp))
             simp only [encPt] at hy
             have hR2 := hR.mono (R' := fun e W' => ∃ bb, e = .returned (.bool bb) ∧ PtOut m b _ J Jx w1 bb W') (fun e W' h => by
               rcases h with ⟨h1, h2, h3⟩ | ⟨h1, h2⟩
               · exact ⟨true, h1, .inl ⟨rfl, h2, h3⟩⟩
               · exact ⟨false, h1, .inr ⟨rfl, h2⟩⟩)
             clear hR)
          | (refine hR2.mono ?_; rintro e w3 ⟨bb, rfl, hout⟩))
        all_goals
          refine bodyPost_ret (results_none rfl _ _ _) rfl ?_
          rcases hout with ⟨hbb, hJ3, hk3⟩ | ⟨hbb, hx3⟩
          · refine ⟨⟨_, rfl⟩, .inl ⟨_, ?_, hJ3⟩⟩
            rw [← hE.out, HL.out]
          · refine ⟨⟨_, rfl⟩, .inr ⟨_, ?_, hx3⟩⟩
            rw [← hE.out, HL.out]
            exact List.prefix_rfl
      · have hk0 : 0 < k := by omega
        have HL := Lib.hid (ptsL_next rem hl0 (by rw [hrk]; exact hk))
        rw [hrk] at hT hle HL
        simp only at HL
        have HT := Lib.hid hT
        have HLR := Lib.hid hlr
        have hkM : k ≤ M := by rw [← hlr]; exact hle
        have hMx : M ≤ 9223372036854775807 := hBr.out.2.1
        have hkz : ((k : Int) == 0) = false := by simp; omega
        clear hT hle hlr hrk hl0 hk
        by_cases hkd : d = k
        · obtain rfl : d = k := hkd
          obtain rfl : M = d := by omega
          clear hd
          gi_wp2_with (first
            | (refine ⟨trivial, ?_⟩; gi_at_call 147; refine (callsIn_wide.2 HT.out).mono ?_; rintro e w1 ⟨rfl, hb2⟩
               obtain ⟨fn, tmps, assign, body, hy, hR⟩ := HY.out _ (r, true) w1 (by rw [← hE.out, HL.out]; exact (List.prefix_append_right_inj _).2 ⟨_, rfl⟩) (HJ.out _ _ _ none hJs ⟨hb2.os, hb2.tape, hb2.output, hb2.size, fun i hi _ => hb2.block i hi⟩ (by simp))
               simp only [encPt] at hy
               have hR2 := hR.mono (R' := fun e W' => ∃ bb, e = .returned (.bool bb) ∧ PtOut m b _ J Jx w1 bb W') (fun e W' h => by
                 rcases h with ⟨h1, h2, h3⟩ | ⟨h1, h2⟩
                 · exact ⟨true, h1, .inl ⟨rfl, h2, h3⟩⟩
                 · exact ⟨false, h1, .inr ⟨rfl, h2⟩⟩)
               clear hR)
            | (refine hR2.mono ?_; rintro e w3 ⟨bb, rfl, hout⟩
               have hb3 : bb = true → w3.heap[b]? = some (.cells #[.slice q M M] 31 (0, 0)) := fun e => by
                 rcases hout with ⟨_, _, hk⟩ | ⟨e2, _⟩
                 · exact hk.2.trans ((hb2.block b (Array.getElem?_eq_some_iff.1 hb1).1).trans hb1)
                 · rw [e] at e2; cases e2
               have c3 : bb = true → w3.cell? ⟨b, 0, none⟩ = some (.slice q M M) := fun e => cell_of_heap (hb3 e) 0
               have f3 : bb = true → w3.frozen? ⟨b, 0, none⟩ = false := fun e => by simp [World.frozen?, hb3 e]
               have HB3 := Lib.hid hb3
               clear hb3))
          · rename_i hbb
            rcases hout with ⟨_, hJ3, hk3⟩ | ⟨e2, _⟩
            · have hbx := blk_set (HB3.out hbb) 0 (.slice q 0 0)
              have hsz := (Array.getElem?_eq_some_iff.1 hb1).1
              refine ⟨⟨_, rem.drop M, _, _, _, HJ.out _ _ _ (some b) hJ3 (grownBy_setCell' _ _ _) (fun r e => e.symm), Lib.hid ?_, hbx, by omega, Lib.hid ?_⟩, ?_⟩
              · rw [List.append_assoc, List.singleton_append, ← HL.out]
                exact hE.out
              · refine BytesAt.later (w := wr) ?_ ?_
                · rw [List.drop_of_length_le (Nat.le_of_eq HLR.out)]; exact BytesAt.none
                · intro i hi
                  rw [← hb2.block i (by omega), ← hk3.1 i hi]
                  simp only [World.setCell, Array.getElem?_modify]; rw [if_neg (by omega)]
              · rw [slLen_at hbx, slLen_at hb1]
                omega
            · rw [hbb] at e2
              cases e2
          · refine bodyPost_ret (results_none rfl _ _ _) rfl ?_
            rename_i hbb
            rcases hout with ⟨e2, _⟩ | ⟨_, hx3⟩
            · exact absurd e2 hbb
            · refine ⟨⟨_, rfl⟩, .inr ⟨_, ?_, hx3⟩⟩
              rw [← hE.out, HL.out]
              exact (List.prefix_append_right_inj _).2 ⟨_, rfl⟩
        · gi_wp2_with (first
            | (refine ⟨trivial, ?_⟩; gi_at_call 147; refine (callsIn_wide.2 HT.out).mono ?_; rintro e w1 ⟨rfl, hb2⟩
               obtain ⟨fn, tmps, assign, body, hy, hR⟩ := HY.out _ (r, true) w1 (by rw [← hE.out, HL.out]; exact (List.prefix_append_right_inj _).2 ⟨_, rfl⟩) (HJ.out _ _ _ none hJs ⟨hb2.os, hb2.tape, hb2.output, hb2.size, fun i hi _ => hb2.block i hi⟩ (by simp))
               simp only [encPt] at hy
               have hR2 := hR.mono (R' := fun e W' => ∃ bb, e = .returned (.bool bb) ∧ PtOut m b _ J Jx w1 bb W') (fun e W' h => by
                 rcases h with ⟨h1, h2, h3⟩ | ⟨h1, h2⟩
                 · exact ⟨true, h1, .inl ⟨rfl, h2, h3⟩⟩
                 · exact ⟨false, h1, .inr ⟨rfl, h2⟩⟩)
               clear hR)
            | (refine hR2.mono ?_; rintro e w3 ⟨bb, rfl, hout⟩
               have hb3 : bb = true → w3.heap[b]? = some (.cells #[.slice q M d] 31 (0, 0)) := fun e => by
                 rcases hout with ⟨_, _, hk⟩ | ⟨e2, _⟩
                 · exact hk.2.trans ((hb2.block b (Array.getElem?_eq_some_iff.1 hb1).1).trans hb1)
                 · rw [e] at e2; cases e2
               have c3 : bb = true → w3.cell? ⟨b, 0, none⟩ = some (.slice q M d) := fun e => cell_of_heap (hb3 e) 0
               have f3 : bb = true → w3.frozen? ⟨b, 0, none⟩ = false := fun e => by simp [World.frozen?, hb3 e]
               have HB3 := Lib.hid hb3
               clear hb3))
          · rename_i hbb
            rcases hout with ⟨_, hJ3, hk3⟩ | ⟨e2, _⟩
            · have hbx := blk_set (HB3.out hbb) 0 (.slice (Option.map (fun x => x.add k) q) (M - k) (d - k))
              have hsz := (Array.getElem?_eq_some_iff.1 hb1).1
              refine ⟨⟨_, rem.drop k, _, _, _, HJ.out _ _ _ (some b) hJ3 (grownBy_setCell' _ _ _) (fun r e => e.symm), Lib.hid ?_, hbx, by omega, Lib.hid ?_⟩, ?_⟩
              · rw [List.append_assoc, List.singleton_append, ← HL.out]
                exact hE.out
              · refine BytesAt.later (w := wr) ?_ ?_
                · by_cases hkM2 : k < M
                  · exact hBr.out.drop k hkM2
                  · have : M - k = 0 := by omega
                    rw [this, List.drop_of_length_le (by rw [HLR.out]; omega)]; exact BytesAt.none
                · intro i hi
                  rw [← hb2.block i (by omega), ← hk3.1 i hi]
                  simp only [World.setCell, Array.getElem?_modify]; rw [if_neg (by omega)]
              · rw [slLen_at hbx, slLen_at hb1]
                omega
            · rw [hbb] at e2
              cases e2
          · refine bodyPost_ret (results_none rfl _ _ _) rfl ?_
            rename_i hbb
            rcases hout with ⟨e2, _⟩ | ⟨_, hx3⟩
            · exact absurd e2 hbb
            · refine ⟨⟨_, rfl⟩, .inr ⟨_, ?_, hx3⟩⟩
              rw [← hE.out, HL.out]
              exact (List.prefix_append_right_inj _).2 ⟨_, rfl⟩
end Go.Proofs.YtieppcjpbjefkaaDoor

/- Contract of utf.All: the code points of bytes. -/
namespace Go.Proofs.YtieppcjpbjefkaaDoor
open Go.RowKit Go.Proofs Go.Shelf
attribute [local go_sem] Oper.semAt_some

def allL (bs : List Int) : List Int × Bool := if (ptsL bs).all (·.2) then ((ptsL bs).map (·.1), true) else ([], false)
def AllIs (w : World) (x : List Int × Bool) (e : Ending) (w' : World) : Prop := ∃ v, e = .returned (.tuple #[v, .bool x.2]) ∧ w'.ownsRow w.heap.size 3 1 v x.1.length (nums .i64 x.1) ∧ Below w.heap.size w w'

theorem ptsF_len : ∀ (f : Nat) (bs : List Int), (ptsF f bs).length ≤ f
  | 0, bs => by simp [ptsF]
  | f + 1, bs => by
    unfold ptsF
    split
    · simp
    split
    · simp
    · simpa using ptsF_len f _
theorem ptsL_len (bs : List Int) : (ptsL bs).length ≤ bs.length := ptsF_len _ _

theorem keptPt_trans {m b : Nat} {A B C : World} (h : keptPt m b A B) (k : keptPt m b B C) : keptPt m b A C := ⟨fun i hi => (k.1 i hi).trans (h.1 i hi), k.2.trans h.2⟩
theorem keptPt_put (m b : Nat) (W : World) (l : Nat) (o' : Obj) (hm : m ≤ l) (hb : b ≠ l) : keptPt m b W (W.putObj l o') :=
  ⟨fun i hi => World.putObj_heap_other (by omega), World.putObj_heap_other (by omega)⟩

theorem points_seq (n : Nat) (hn : 1 ≤ n) (m b : Nat) (hbm : m ≤ b) (p : Option Addr) (N c : Nat) (bs : List Int) (w : World) (hb : w.heap[b]? = some (.cells #[.slice p N c] 31 (0, 0))) (hc : N ≤ c) (hB : BytesAt m w p N bs) (hmw : m ≤ w.heap.size) :
    SeqB Fence.wide n Tryd.prog 146 #[.pointer (some ⟨b, 0, none⟩)] encPt (some b) (keptPt m b) (fun xs => xs = ptsL bs) (fun pre => pre <+: ptsL bs) w (fun pre x => pre ++ [x] <+: ptsL bs) :=
  fun l J Jx W hW hJ _ hY h0 => points_it n hn l b m hbm p N c bs J Jx W hJ ((hW.block b (Array.getElem?_eq_some_iff.1 hb).1).trans hb) hc (hB.later fun i hi => hW.block i (by omega)) hY h0

/-- what the loop keeps: two results, the list, and what it owns -/
def AllI (w : World) (pre : List (Int × Bool)) (W : World) : Prop :=
  ((W.heap[w.heap.size]? = some (.cells #[.slice none 0 0] 57 (0, 0)) ∧ W.heap[w.heap.size + 1]? = some (.cells #[.bool false] 4 (0, 0)) ∧ ∀ x ∈ pre, x.2 = true) ∧ Below w.heap.size w W) ∧
  ∃ v, Boxed W (w.heap.size + 2) 57 v ∧ W.ownsRow (w.heap.size + 4) 3 1 v pre.length (nums .i64 (pre.map (·.1)))
def AllX (w : World) (c : Code) (pre : List (Int × Bool)) (W : World) : Prop :=
  (c = .ret ∧ (∃ x ∈ pre, x.2 = false) ∧ W.heap[w.heap.size]? = some (.cells #[.slice none 0 0] 57 (0, 0)) ∧ W.heap[w.heap.size + 1]? = some (.cells #[.bool false] 4 (0, 0))) ∧ Below w.heap.size w W

theorem allI_calm (w : World) (n₀ : Nat) (hn : w.heap.size + 4 ≤ n₀) : Calm (some (w.heap.size + 3)) n₀ (AllI w) :=
  ((((calm_block (by simp)).and ((calm_block (cs := fun _ => _) (by simp)).and (calm_pure _))).and (calm_below (by rintro b e; cases e; omega) (by omega) (Nat.le_refl _))).and (fun s W W' row hs hg hr => by
    obtain ⟨v, hv, ho⟩ := hs
    refine ⟨v, hv.kept hg (fun e => ?_), ho.kept hg ?_⟩
    · rcases hr _ e.symm with h | ⟨h, _⟩
      · simp at h
      · omega
    · rcases ho.2 with ⟨rfl, _⟩ | ⟨g, cap, cur, rfl, hbg, hgb, _⟩
      · exact .inl rfl
      · refine .inr fun e => ?_
        rcases hr g (by simpa [Value.ownBlock] using e.symm) with h | ⟨_, o, ho', hc⟩
        · simp at h; omega
        · rw [hgb] at ho'; cases ho'; cases hc))
theorem allX_calm (w : World) (n₀ : Nat) (hn : w.heap.size + 4 ≤ n₀) (c : Code) : Calm (some (w.heap.size + 3)) n₀ (AllX w c) :=
  ((calm_pure _).and ((calm_pure _).and ((calm_block (cs := fun _ => _) (by simp)).and (calm_block (cs := fun _ => _) (by simp))))).and (calm_below (by rintro b e; cases e; omega) (by omega) (Nat.le_refl _))

theorem all_fin (w W5 : World) (D : Nat) (tm : Array Value) (x : List Int × Bool) (v : Value) (hD : w.heap.size + 4 ≤ D) (hK : W5.heap[D]? = some (.deferred (some [])))
    (t2 : tm[2]? = some (.pointer (some ⟨w.heap.size, 0, none⟩))) (t3 : tm[3]? = some (.pointer (some ⟨w.heap.size + 1, 0, none⟩)))
    (hB1 : W5.heap[w.heap.size]? = some (.cells #[v] 57 (0, 0))) (hB2 : W5.heap[w.heap.size + 1]? = some (.cells #[.bool x.2] 4 (0, 0))) (ho : W5.ownsRow w.heap.size 3 1 v x.1.length (nums .i64 x.1)) (hb : Below w.heap.size w W5) :
    bodyPostM Fence.wide 6 Tryd.prog Tryd.f99 (AllIs w x) .ret { tmps := tm, defers := [{ target := .collected D, args := #[] }] } W5 := by
  refine ⟨by simp, .inl ⟨_, _, rfl, run_takeDeferred hK, ?_⟩⟩
  have h1 : (W5.putObj D (.deferred none)).heap[w.heap.size]? = some (.cells #[v] 57 (0, 0)) := (World.putObj_heap_other (by omega)).trans hB1
  have h2 : (W5.putObj D (.deferred none)).heap[w.heap.size + 1]? = some (.cells #[.bool x.2] 4 (0, 0)) := (World.putObj_heap_other (by omega)).trans hB2
  have r0 := cell_of_heap h1 0
  have r1 := cell_of_heap h2 0
  simp only [List.getElem?_toArray, List.getElem?_cons_zero] at r0 r1
  refine ⟨.tuple #[v, .bool x.2], ?_, v, rfl, ownsRow_putObj ho _ hK rfl, hb.trans ?_⟩
  · simp [results, Tryd.results99, go_sem, t2, t3, r0, r1]
  · exact (Below.refl _ _).grown (grownBy_putObj' _ D _) hb.size (fun k e => by cases e; omega)

theorem setCell_other (W : World) (b i : Nat) (v : Value) (h : b ≠ i) : (W.setCell ⟨b, 0, none⟩ v).heap[i]? = W.heap[i]? := by
  simp only [World.setCell, Array.getElem?_modify]
  rw [if_neg h]
/-- what an append to a slice of the call's own, stored back into a box, leaves as it was -/
theorem append_keeps {W w1 : World} {base B k size : Nat} {e : TypeId} {v v' : Value} {xs : List Value} {tmp : Obj} (ho : W.ownsRow base e size v k xs) (hgrow : (W.alloc tmp).grownBy w1 v.ownBlock) :
    KeepsOthers W (w1.setCell ⟨B, 0, none⟩ v') ∧ ∀ i, i < W.heap.size → i < base → i ≠ B → (w1.setCell ⟨B, 0, none⟩ v').heap[i]? = W.heap[i]? := by
  constructor
  · refine ((KeepsOthers.alloc W tmp).trans (KeepsOthers.of_grownBy hgrow fun j o ej hj => ?_)).trans (KeepsOthers.setCell _ _ _)
    rcases (ho.alloc tmp).2 with ⟨rfl, _⟩ | ⟨g, cap, cur, rfl, _, hgb, _⟩
    · simp [Value.ownBlock] at ej
    · obtain rfl : g = j := by simpa [Value.ownBlock] using ej
      rw [hgb] at hj; cases hj; rfl
  · intro i h1 h2 h3
    rw [setCell_other _ _ _ _ (fun e => h3 e.symm), hgrow.block i (by simp; omega) ?_, heap_past _ _ _ h1]
    intro e
    have := own_block ho i e.symm
    omega

theorem own_slice {w : World} {base n : Nat} {e : TypeId} {size : Nat} {v : Value} {xs : List Value} (h : w.ownsRow base e size v n xs) : ∃ p m c, v = .slice p m c := by
  rcases h.2 with ⟨rfl, _⟩ | ⟨g, cap, cur, rfl, _⟩
  · exact ⟨_, _, _, rfl⟩
  · exact ⟨_, _, _, rfl⟩
theorem own_less {w : World} {base base' n : Nat} {e : TypeId} {size : Nat} {v : Value} {xs : List Value} (h : w.ownsRow base e size v n xs) (hb : base' ≤ base) : w.ownsRow base' e size v n xs := by
  refine ⟨h.1, ?_⟩
  rcases h.2 with h | ⟨g, cap, cur, h1, h2, h3⟩
  · exact .inl h
  · exact .inr ⟨g, cap, cur, h1, by omega, h3⟩

theorem utf_points (v : Value) (hv : ∃ p n c, v = .slice p n c) (W : World) : Calls Tryd.prog 128 #[v] W fun e w' => e = .returned (.func (.func 146) #[] #[.pointer (some ⟨W.heap.size, 0, none⟩)]) ∧ W.alloc (.cells #[v] 31) = w' := by
  obtain ⟨p, n, c, rfl⟩ := hv
  have hmf : ∀ (fn : Fn) (first cap : Array Value) (w : World), (Instr.makeFunc fn first cap).run Tryd.prog w = .ok (.func fn first cap) w := fun _ _ _ _ => rfl
  go_enter Tryd.func128, Tryd.ntmps128
  go_wp2
  go_ret
  exact ⟨rfl, rfl⟩

set_option maxRecDepth 100000 in
set_option maxHeartbeats 2000000 in
theorem utf_All (p : Option Addr) (n c : Nat) (bs : List Int) (w : World) (hc : n ≤ c) (hB : BytesAt w.heap.size w p n bs) (hn : n ≤ 1000000000000) :
    Calls Tryd.prog 99 #[.slice p n c] w (AllIs w (allL bs)) := by
  refine (callsIn_wide (n := 6)).1 ?_
  have hnot : ∀ (x : Bool) (w : World), (Op.unary .not (.bool x)).run Tryd.prog w = .ok (.bool (!x)) w := fun _ _ => rfl
  obtain ⟨i0, hi, hz0, hz1, hz2⟩ := info_parts (show (Tryd.prog.info? 3).map (fun i => (i.zero, i.size, i.bytes)) = some (some (.int .i64 0), 1, 8) by kernel_rfl)
  refine callsIn_of_wp_marks Tryd.func99 rfl trivial ?_ rfl
  simp only [Tryd.ntmps99, List.size_toArray, List.length_cons, List.length_nil, Nat.reduceAdd, Nat.reduceSub, Array.replicate_succ, Array.replicate_zero, List.push_toArray, List.append_toArray, List.nil_append, List.cons_append]
  gi_wp2_with (refine ⟨trivial, ?_⟩; gi_at_call 128; refine (callsIn_wide.2 (utf_points _ ⟨_, _, _, rfl⟩ _)).mono ?_; rintro e w1 ⟨rfl, rfl⟩)
  have b2 := Boxed.new ((w.alloc (.cells #[.slice none 0 0] 57)).alloc (.cells #[.bool false] 4)) 57 (.slice none 0 0)
  have hB0 : Below w.heap.size w ((((w.alloc (.cells #[.slice none 0 0] 57)).alloc (.cells #[.bool false] 4)).alloc (.cells #[.slice none 0 0] 57)).alloc (.cells #[.slice p n c] 31)) := by go_grown
  have hsz : w.heap.size + 4 = ((((w.alloc (.cells #[.slice none 0 0] 57)).alloc (.cells #[.bool false] 4)).alloc (.cells #[.slice none 0 0] 57)).alloc (.cells #[.slice p n c] 31)).heap.size := by simp
  simp only [World.size_alloc] at b2
  refine range_outer rfl (by omega) (gf := 146) (lb := #[.pointer (some ⟨w.heap.size + 1 + 1 + 1, 0, none⟩)]) rfl trivial (enters_of Tryd.func146 (by kernel_rfl) rfl)
    (points_seq 5 (by omega) w.heap.size (w.heap.size + 3) (by omega) p n c bs _ (heap_at _ _ _ (by simp)) hc (hB.later fun i hi => hB0.block i hi) (by rw [← hsz]; omega)) (by rintro b e; cases e; rw [← hsz]; omega) (fun h k => keptPt_trans h k)
    (fun W l o o' hl _ _ => keptPt_put _ _ W l o' (by rw [← hsz] at hl; omega) (by rw [← hsz] at hl; omega)) (Below.refl _ _) (fun _ => rfl)
    (AllI w) (AllX w) (allI_calm w _ (Nat.le_of_eq hsz)) (allX_calm w _ (Nat.le_of_eq hsz)) ?start
    (fun x a' W => a' = { tmps := #[.slice p n c, undef, .pointer (some ⟨w.heap.size, 0, none⟩), .pointer (some ⟨w.heap.size + 1, 0, none⟩), .pointer (some ⟨w.heap.size + 1 + 1, 0, none⟩), .int .i64 x.1, .bool x.2, .slice p n c, .func (.func 146) #[] #[.pointer (some ⟨w.heap.size + 1 + 1 + 1, 0, none⟩)], .int .i64 x.1, .bool x.2,
        undef, undef, undef, undef, undef, undef, undef], defers := [] })
    ?ax ?assign ?body ?done ?stop
  case start =>
    refine ⟨⟨⟨?_, ?_, by simp⟩, hB0⟩, _, b2.alloc _, World.ownsRow_nil _ _ _ _⟩
    · exact (heap_past _ _ _ (by simp; omega)).trans ((heap_past _ _ _ (by simp; omega)).trans ((heap_past _ _ _ (by simp)).trans (heap_at _ _ _ rfl)))
    · exact (heap_past _ _ _ (by simp)).trans ((heap_past _ _ _ (by simp)).trans (heap_at _ _ _ (by simp)))
  case ax =>
    rintro x a' s W W' row h _ _
    exact h
  case assign =>
    rintro l pre x W K hi hK
    simp only [encPt]
    gi_wp2
    exact hK _ _ (KeepsFrom.refl _ _) ⟨fun _ _ => rfl, rfl⟩ hi rfl
  case body =>
    rintro l pre x a' W hsx hl hrec ⟨⟨⟨h1, h2, hp⟩, hBe⟩, v, hv, ho⟩ rfl
    have hlen := ptsL_len bs
    have hpl := hsx.length_le
    simp only [List.length_append, List.length_cons, List.length_nil] at hpl
    have hbl := hB.1
    have hsl := Nat.le_trans (Nat.le_of_eq hsz) hl
    have HSZ := Lib.hid hsz
    clear hsz hl hB0 b2
    have hv2 := hv.lt
    obtain ⟨r, ok⟩ := x
    cases ok <;> dsimp only
    · have c0 := cell_of_heap h1 0
      have c1 := cell_of_heap h2 0
      have f0 : W.frozen? ⟨w.heap.size, 0, none⟩ = false := by simp [World.frozen?, h1]
      have f1 : W.frozen? ⟨w.heap.size + 1, 0, none⟩ = false := by simp [World.frozen?, h2]
      simp only [List.getElem?_toArray, List.getElem?_cons_zero] at c0 c1
      have H1 := Lib.hid h1
      have H2 := Lib.hid h2
      clear h1 h2
      gi_wp2
      refine ⟨((KeepsOthers.setCell _ _ _).trans (KeepsOthers.setCell _ _ _)).from _, ⟨rfl, ⟨_, List.mem_append_right _ (List.mem_singleton.2 rfl), rfl⟩, ?_, ?_⟩, ?_⟩
      · rw [setCell_other _ _ _ _ (by omega)]
        exact blk_set H1.out 0 _
      · exact blk_set ((setCell_other _ _ _ _ (by omega)).trans H2.out) 0 _
      · exact (hBe.setCell (p := ⟨w.heap.size, _, none⟩) (by simp) _).setCell (p := ⟨w.heap.size + 1, _, none⟩) (by simp) _
    · have c2 := hv.cell
      gi_wp2_with (gi_at_builtin; refine wpListIn_append_own _ rfl _ _ 57 rfl (w.heap.size + 4) 3 i0 (.int .i64 0) 1 8 Tryd.underlying57 hi hz0 hz1 hz2 rfl (by decide) _ _ _ rfl (ho.alloc _) ⟨W.heap.size, 0, none⟩ 1 1 [.int .i64 r] rfl rfl (cell_one_new _ _ _) (by simp [Value.oneCell']) (by unfold maxLen; omega) (by omega) (by have := hBe.size; simp; omega) ?_; intro v' w1 hown' hgrow _; obtain ⟨g', cap', rfl⟩ := ownsRow_succ hown'; have hv1 : Boxed w1 (w.heap.size + 2) 57 v := (hv.alloc _).kept hgrow (hv.not_row (by decide) ho); have hc1 := hv1.cell; have hf1 := hv1.frozen)
      have hgr : (W.alloc (.cells #[.int .i64 r] 3)).grownBy w1 v.ownBlock := hgrow
      obtain ⟨hk1, hk2⟩ := append_keeps (B := w.heap.size + 2) (v' := .slice (some ⟨g', 0, none⟩) (pre.length + 1) cap') ho hgr
      have hlW : l < W.heap.size := by obtain ⟨_, hr⟩ := hrec; exact (Array.getElem?_eq_some_iff.1 hr).1
      refine ⟨hk1.from _, ⟨fun i hi => hk2 i (by omega) (by omega) (by omega), hk2 _ (by omega) (by omega) (by omega)⟩, ⟨⟨?_, ?_, ?_⟩, ?_⟩, _, hv1.set _, ?_⟩
      · exact (hk2 _ (by omega) (by omega) (by omega)).trans h1
      · exact (hk2 _ (by omega) (by omega) (by omega)).trans h2
      · intro y hy
        rcases List.mem_append.1 hy with h | h
        · exact hp y h
        · simp at h; subst h; rfl
      · exact (below_append hBe ho (by omega) hgr).setCell (p := ⟨w.heap.size + 2, _, none⟩) (by simp) _
      · have := hown'.kept (grownBy_setCell' w1 (w.heap.size + 2) (.slice (some ⟨g', 0, none⟩) (pre.length + 1) cap')) (.inr (hv1.not_row (by decide) hown').symm)
        simpa [nums] using this
  case done =>
    rintro D ys W hD rfl ⟨⟨⟨h1, h2, hp⟩, hBe⟩, v, hv, ho⟩ hK
    obtain ⟨q, m, d, rfl⟩ := own_slice ho
    have hD2 : w.heap.size + 4 ≤ D := Nat.le_trans (Nat.le_of_eq hsz) hD
    have hx : allL bs = ((ptsL bs).map (·.1), true) := by unfold allL; rw [if_pos (List.all_eq_true.2 hp)]
    have c0 := cell_of_heap h1 0
    have c1 := cell_of_heap h2 0
    have c2 := hv.cell
    have f0 : W.frozen? ⟨w.heap.size, 0, none⟩ = false := by simp [World.frozen?, h1]
    have f1 : W.frozen? ⟨w.heap.size + 1, 0, none⟩ = false := by simp [World.frozen?, h2]
    simp only [List.getElem?_toArray, List.getElem?_cons_zero] at c0 c1
    have H1 := Lib.hid h1
    have H2 := Lib.hid h2
    have HSZ := Lib.hid hsz
    have HX := Lib.hid hx
    have HP := Lib.hid hp
    have HK := Lib.hid hK
    clear h1 h2 hsz hx hp hB0 b2 hK hD
    gi_wp2
    rw [HX.out]
    have hg1 := grownBy_setCell' W w.heap.size (.slice q m d)
    refine all_fin w _ D _ ((ptsL bs).map (·.1), true) (.slice q m d) hD2 ?_ ?_ ?_ ?_ ?_ ?_ ?_
    · rw [setCell_other _ _ _ _ (by omega), setCell_other _ _ _ _ (by omega)]
      exact HK.out
    · rfl
    · rfl
    · rw [setCell_other _ _ _ _ (by omega)]
      exact blk_set H1.out 0 _
    · exact blk_set ((setCell_other _ _ _ _ (by omega)).trans H2.out) 0 _
    · have h1 := (own_less ho (base' := w.heap.size) (by omega)).kept (grownBy_setCell' W w.heap.size (.slice q m d)) (.inr fun e => by have := own_block ho _ e; omega)
      have h2 := h1.kept (grownBy_setCell' _ (w.heap.size + 1) (.bool true)) (.inr fun e => by have := own_block ho _ e; omega)
      simpa using h2
    · exact (hBe.setCell (p := ⟨w.heap.size, _, none⟩) (by simp) _).setCell (p := ⟨w.heap.size + 1, _, none⟩) (by simp) _
  case stop =>
    rintro D c0 pre W hD hpre ⟨⟨rfl, ⟨x, hx, hx2⟩, h1, h2⟩, hBe⟩ hK
    have hD2 : w.heap.size + 4 ≤ D := Nat.le_trans (Nat.le_of_eq hsz) hD
    have hX : allL bs = ([], false) := by
      unfold allL
      rw [if_neg]
      intro h
      have := List.all_eq_true.1 h x (hpre.subset hx)
      rw [hx2] at this
      cases this
    gi_wp2
    rw [hX]
    exact all_fin w W D _ ([], false) _ hD2 hK rfl rfl h1 h2 (World.ownsRow_nil _ _ _ _) hBe
end Go.Proofs.YtieppcjpbjefkaaDoor

/- Contract of mods.May: whether a key's event may be. -/
namespace Go.Proofs.YtieppcjpbjefkaaDoor
open Go.RowKit Go.Proofs

def cleanR (r : Int) : Bool := decide (32 ≤ r) && (decide (r < 127) || decide (159 < r))
def textB (c : Int) : Bool := (c == 0) || ((lookD c).kind == 1)
/-- whether a key may have a text -/
def textOk (t : List UInt8) : Bool := (allL (u8s t)).2 && (allL (u8s t)).1.all cleanR
def mayK (k : KeyD) : Bool :=
  (textOk k.text && decide ((allL (u8s k.text)).1.length ≤ 8)) && (textB k.shifted && (textB k.base && ((decide (0 ≤ k.mods) && decide (k.mods ≤ 255)) && ((decide (1 ≤ k.typ) && decide (k.typ ≤ 3)) && ((lookD k.code).kind != 0)))))

theorem lookD_kind (c : Int) : 0 ≤ (lookD c).kind ∧ (lookD c).kind ≤ 7 := by
  unfold lookD
  split
  · rename_i x h
    have h1 := List.mem_of_find?_eq_some h
    have : ∀ x ∈ pairsD, 0 ≤ x.2.kind ∧ x.2.kind ≤ 7 := by decide +kernel
    exact this x h1
  · split <;> simp [zeroE]

theorem field_kind (k f n c : Int) (p : Bool) (w : World) : (Instr.field 29 (.agg #[.int .i64 k, .int .u8 f, .int .i64 n, .int .i64 c, .bool p]) 0).run Tryd.prog w = .ok (.int .i64 k) w := by kernel_rfl

set_option maxRecDepth 100000 in
theorem may_text (c : Int) (w : World) : Calls Tryd.prog 98 #[.int .i64 c] w (BoolIs w (textB c)) := by
  have hL := fun W => keys_Look c W
  have hfk := field_kind
  unfold EntryIsD EntryIs at hL
  have HL := Lib.hid hL
  clear hL
  by_cases h : c = 0
  · subst h
    go_enter Tryd.func98, Tryd.ntmps98
    go_wp2
    go_ret
    exact ⟨rfl, Below.refl _ _⟩
  · have d : (c == 0) = false := by simpa using h
    have HT := Lib.hid (show textB c = ((lookD c).kind == 1) from by rw [textB, d, Bool.false_or])
    clear h
    go_enter Tryd.func98, Tryd.ntmps98
    go_wp2_with (go_at_call 17; refine (HL.out _).mono ?_; rintro e w1 ⟨rfl, hb⟩)
    go_ret
    rw [HT.out]
    exact ⟨rfl, hb⟩

theorem own_ints {w : World} {base n : Nat} {e : TypeId} {v : Value} {xs : List Int} (h : w.ownsRow base e 1 v n (nums .i64 xs)) :
    xs.length = n ∧ ∃ p c, v = .slice p n c ∧ n ≤ c ∧ c ≤ 9223372036854775807 ∧ CellsIn w p (nums .i64 xs) := by
  have hl : xs.length = n := by have := h.1; simpa [nums_length] using this
  refine ⟨hl, ?_⟩
  rcases h.2 with ⟨rfl, h0⟩ | ⟨g, cap, cur, rfl, hb, hg, hn, hm, _, _⟩
  · subst h0
    exact ⟨none, 0, rfl, Nat.le_refl _, by omega, fun h => by rw [nums_length] at h; omega⟩
  · refine ⟨_, cap, rfl, hn, by simpa [maxLen] using hm, fun _ => ⟨g, 0, rfl, fun i v hv => ?_⟩⟩
    have := h.cells (g := g) rfl i v hv
    rwa [Go.WideShapes.add_plain] at this

set_option maxRecDepth 100000 in
set_option maxHeartbeats 4000000 in
theorem mods_May (k : KeyD) (w : World) (hk : k.wf) (ht : k.text.length ≤ 1000000000000) : Calls Tryd.prog 50 #[k.v] w (BoolIs w (mayK k)) := by
  obtain ⟨⟨c0, c1⟩, ⟨m0, m1⟩, ⟨t0, t1⟩, ⟨s0, s1⟩, ⟨b0, b1⟩⟩ := hk
  obtain ⟨code, mods, typ, sh, base, text⟩ := k
  unfold KeyD.v
  simp only at *
  obtain ⟨X, hX⟩ : ∃ X, mayK ⟨code, mods, typ, sh, base, text⟩ = X := ⟨_, rfl⟩
  rw [hX]
  simp only [mayK, textOk] at hX
  have hcv := fun W => conv_bytes W text
  have hA := fun (W : World) (c : Nat) (hc : text.length ≤ c) => utf_All (some ⟨W.heap.size, 0, none⟩) text.length c (u8s text) (Lib.bytesWorld W 5 ⟨text.toArray⟩) hc
    ⟨u8s_length text, by omega, u8s_range text, fun h0 => by
      obtain ⟨b, o, hp, hcl⟩ := conv_in W text 5 h0
      exact ⟨b, o, hp, World.block_lt_of_cell? _ _ (hcl 0 h0), hcl⟩⟩ (by omega)
  obtain ⟨W0, hW0⟩ : ∃ W0, w.alloc (.cells #[.int .i64 code, .int .i64 mods, .int .i64 typ, .int .i64 sh, .int .i64 base, .string ⟨text.toArray⟩] 25) = W0 := ⟨_, rfl⟩
  obtain ⟨c, hc, hr⟩ := hcv W0
  have hA2 := hA W0 c hc
  have hlen : (allL (u8s text)).1.length ≤ text.length := by
    unfold allL
    split
    · rw [List.length_map, ← u8s_length text]; exact ptsL_len _
    · simp
  obtain ⟨l, ok, hlo⟩ : ∃ l ok, allL (u8s text) = (l, ok) := ⟨_, _, rfl⟩
  rw [hlo] at hA2 hX hlen
  obtain ⟨N, hN⟩ : ∃ N, l.length = N := ⟨_, rfl⟩
  unfold AllIs at hA2
  simp only [hN] at hA2 hX hlen
  have HX := Lib.hid hX
  clear hX hA hcv hlo ht
  have hB0 := conv_below (Below.refl _ W0) ⟨text.toArray⟩ 5
  subst hW0
  have hfk := field_kind
  simp only [World.size_alloc] at hr hA2
  have HA := Lib.hid hA2
  have HN := Lib.hid hN
  clear hA2 hN
  have HL := Lib.hid (fun W => show Calls Tryd.prog 17 #[.int .i64 code] W _ from keys_Look code W)
  unfold EntryIsD EntryIs at HL
  go_enter Tryd.func50, Tryd.ntmps50
  go_wp2_with (go_at_call 99; refine (HA.out).mono ?_; rintro e w1 ⟨v, rfl, hown, hb1⟩; obtain ⟨hll, q, d, rfl, hqd, hd1, hci⟩ := own_ints hown; clear hll hown; have hB := below_then hB0 hb1; obtain ⟨e0, e1, e2, e3, e4, e5⟩ := box6 hB)
  go_loop [5, 7, 17] (fun t5 _ t17 => ∃ k : Nat, k ≤ N ∧ t17 = .int .i64 k ∧ ∃ g : Bool, t5 = .bool g ∧ Hid (g = (ok && (l.take k).all cleanR))) (fun _ _ t17 => N - (intOf t17).toNat)
  case atStart => exact ⟨0, by omega, rfl, _, rfl, Lib.hid (by simp)⟩
  case round =>
    obtain ⟨k, hk, rfl, g, rfl, hg⟩ := hrel
    by_cases hlt : k < N
    · have hdk : decide ((k : Int) < N) = true := by simp; omega
      obtain ⟨b, o, rfl, gc⟩ := ints_at hci (by rw [HN.out]; omega)
      have ck := gc k (by rw [HN.out]; omega)
      obtain ⟨y, hy⟩ : ∃ y, l.getD k 0 = y := ⟨_, rfl⟩
      have HS : Hid ((g && cleanR y) = (ok && (l.take (k + 1)).all cleanR)) := Lib.hid (by
        have hkl : k < l.length := by rw [HN.out]; exact hlt
        rw [hg.out, List.take_succ_eq_append_getElem hkl, List.all_append, ← hy, List.getD_eq_getElem?_getD, List.getElem?_eq_getElem hkl]
        simp [Bool.and_assoc])
      rw [hy] at ck
      clear gc hy hci
      by_cases hy1 : 32 ≤ y
      · by_cases hy2 : y < 127
        · have HC : Hid (cleanR y = true) := Lib.hid (by simp [cleanR, hy1, hy2])
          cases g
          all_goals
            go_wp2
            go_round
            case rel => exact ⟨k + 1, by omega, by go_num, _, rfl, Lib.hid (by rw [← HS.out, HC.out]; rfl)⟩
            case measure => simp [intOf]; omega
        · by_cases hy3 : 159 < y
          · have HC : Hid (cleanR y = true) := Lib.hid (by simp [cleanR, hy1, hy3])
            cases g
            all_goals
              go_wp2
              go_round
              case rel => exact ⟨k + 1, by omega, by go_num, _, rfl, Lib.hid (by rw [← HS.out, HC.out]; rfl)⟩
              case measure => simp [intOf]; omega
          · have HC : Hid (cleanR y = false) := Lib.hid (by simp [cleanR, hy2, hy3])
            cases g
            all_goals
              go_wp2
              go_round
              case rel => exact ⟨k + 1, by omega, by go_num, _, rfl, Lib.hid (by rw [← HS.out, HC.out]; rfl)⟩
              case measure => simp [intOf]; omega
      · have HC : Hid (cleanR y = false) := Lib.hid (by simp [cleanR, hy1])
        cases g
        all_goals
          go_wp2
          go_round
          case rel => exact ⟨k + 1, by omega, by go_num, _, rfl, Lib.hid (by rw [← HS.out, HC.out]; rfl)⟩
          case measure => simp [intOf]; omega
    · obtain rfl : k = N := by omega
      have hg2 : Hid (g = (ok && l.all cleanR)) := Lib.hid (by rw [hg.out, List.take_of_length_le (by rw [HN.out]; exact Nat.le_refl _)])
      have HM := Lib.hid (fun c W => may_text c W)
      clear hg hlt hci hk
      have hX : X = ((g && decide (k ≤ 8)) && (textB sh && (textB base && ((decide (0 ≤ mods) && decide (mods ≤ 255)) && ((decide (1 ≤ typ) && decide (typ ≤ 3)) && ((lookD code).kind != 0)))))) := by rw [← HX.out, ← hg2.out]
      clear HX hg2
      obtain ⟨bs, hbs⟩ : ∃ bs, textB sh = bs := ⟨_, rfl⟩
      obtain ⟨bb, hbb⟩ : ∃ bb, textB base = bb := ⟨_, rfl⟩
      rw [hbs, hbb] at hX
      have HS := Lib.hid (show ∀ W, Calls Tryd.prog 98 #[.int .i64 sh] W (BoolIs W bs) from fun W => hbs ▸ may_text sh W)
      have HS2 := Lib.hid (show ∀ W, Calls Tryd.prog 98 #[.int .i64 base] W (BoolIs W bb) from fun W => hbb ▸ may_text base W)
      clear hbs hbb HM
      have HXX := Lib.hid hX
      clear hX
      cases g
      · go_wp2
        go_ret
        refine ⟨?_, below_then (below_alloc (Below.refl _ _) _) hB⟩
        rw [HXX.out]
        simp
      by_cases h8 : k ≤ 8
      case neg =>
        have d8 : decide (8 < k) = true := by simp; omega
        have d9 : decide ((k : Int) > 8) = true := by simp; omega
        have h9 : Hid (decide (k ≤ 8) = false) := Lib.hid (by simpa using h8)
        go_wp2
        go_ret
        refine ⟨?_, below_then (below_alloc (Below.refl _ _) _) hB⟩
        rw [HXX.out, h9.out]
        simp
      have d8 : decide (8 < k) = false := by simp; omega
      have d9 : decide ((k : Int) > 8) = false := by simp; omega
      have h9 : Hid (decide (k ≤ 8) = true) := Lib.hid (by simpa using h8)
      clear h8
      cases bs
      · go_wp2_with (first
          | ((with_reducible refine (HS.out _).mono ?_); rintro e w2 ⟨rfl, hb2⟩; have hB := below_then hB hb2; obtain ⟨e0, e1, e2, e3, e4, e5⟩ := box6 hB)
          | ((with_reducible refine (HS2.out _).mono ?_); rintro e w2 ⟨rfl, hb2⟩; have hB := below_then hB hb2; obtain ⟨e0, e1, e2, e3, e4, e5⟩ := box6 hB)
          | (go_at_call 17; refine (HL.out _).mono ?_; rintro e w4 ⟨rfl, hb4⟩; have hB := below_then hB hb4))
        go_ret
        refine ⟨?_, below_then (below_alloc (Below.refl _ _) _) hB⟩
        rw [HXX.out, h9.out]
        simp
      cases bb
      · go_wp2_with (first
          | ((with_reducible refine (HS.out _).mono ?_); rintro e w2 ⟨rfl, hb2⟩; have hB := below_then hB hb2; obtain ⟨e0, e1, e2, e3, e4, e5⟩ := box6 hB)
          | ((with_reducible refine (HS2.out _).mono ?_); rintro e w2 ⟨rfl, hb2⟩; have hB := below_then hB hb2; obtain ⟨e0, e1, e2, e3, e4, e5⟩ := box6 hB)
          | (go_at_call 17; refine (HL.out _).mono ?_; rintro e w4 ⟨rfl, hb4⟩; have hB := below_then hB hb4))
        go_ret
        refine ⟨?_, below_then (below_alloc (Below.refl _ _) _) hB⟩
        rw [HXX.out, h9.out]
        simp
      by_cases hm0 : 0 ≤ mods
      case neg =>
        have d10 : mods < 0 := by omega
        have h10 : Hid (decide (0 ≤ mods) = false) := Lib.hid (by simpa using d10)
        clear hm0
        go_wp2_with (first
          | ((with_reducible refine (HS.out _).mono ?_); rintro e w2 ⟨rfl, hb2⟩; have hB := below_then hB hb2; obtain ⟨e0, e1, e2, e3, e4, e5⟩ := box6 hB)
          | ((with_reducible refine (HS2.out _).mono ?_); rintro e w2 ⟨rfl, hb2⟩; have hB := below_then hB hb2; obtain ⟨e0, e1, e2, e3, e4, e5⟩ := box6 hB)
          | (go_at_call 17; refine (HL.out _).mono ?_; rintro e w4 ⟨rfl, hb4⟩; have hB := below_then hB hb4))
        go_ret
        refine ⟨?_, below_then (below_alloc (Below.refl _ _) _) hB⟩
        rw [HXX.out, h9.out]
        rw [h10.out]
        simp
      by_cases hm1 : mods ≤ 255
      case neg =>
        have d10 : 255 < mods := by omega
        have h10 : Hid (decide (mods ≤ 255) = false) := Lib.hid (by simpa using d10)
        clear hm1
        go_wp2_with (first
          | ((with_reducible refine (HS.out _).mono ?_); rintro e w2 ⟨rfl, hb2⟩; have hB := below_then hB hb2; obtain ⟨e0, e1, e2, e3, e4, e5⟩ := box6 hB)
          | ((with_reducible refine (HS2.out _).mono ?_); rintro e w2 ⟨rfl, hb2⟩; have hB := below_then hB hb2; obtain ⟨e0, e1, e2, e3, e4, e5⟩ := box6 hB)
          | (go_at_call 17; refine (HL.out _).mono ?_; rintro e w4 ⟨rfl, hb4⟩; have hB := below_then hB hb4))
        go_ret
        refine ⟨?_, below_then (below_alloc (Below.refl _ _) _) hB⟩
        rw [HXX.out, h9.out]
        rw [h10.out]
        simp
      by_cases ht0 : 1 ≤ typ
      case neg =>
        have d10 : typ < 1 := by omega
        have h10 : Hid (decide (1 ≤ typ) = false) := Lib.hid (by simpa using d10)
        clear ht0
        go_wp2_with (first
          | ((with_reducible refine (HS.out _).mono ?_); rintro e w2 ⟨rfl, hb2⟩; have hB := below_then hB hb2; obtain ⟨e0, e1, e2, e3, e4, e5⟩ := box6 hB)
          | ((with_reducible refine (HS2.out _).mono ?_); rintro e w2 ⟨rfl, hb2⟩; have hB := below_then hB hb2; obtain ⟨e0, e1, e2, e3, e4, e5⟩ := box6 hB)
          | (go_at_call 17; refine (HL.out _).mono ?_; rintro e w4 ⟨rfl, hb4⟩; have hB := below_then hB hb4))
        go_ret
        refine ⟨?_, below_then (below_alloc (Below.refl _ _) _) hB⟩
        rw [HXX.out, h9.out]
        rw [h10.out]
        simp
      by_cases ht1 : typ ≤ 3
      case neg =>
        have d10 : 3 < typ := by omega
        have h10 : Hid (decide (typ ≤ 3) = false) := Lib.hid (by simpa using d10)
        clear ht1
        go_wp2_with (first
          | ((with_reducible refine (HS.out _).mono ?_); rintro e w2 ⟨rfl, hb2⟩; have hB := below_then hB hb2; obtain ⟨e0, e1, e2, e3, e4, e5⟩ := box6 hB)
          | ((with_reducible refine (HS2.out _).mono ?_); rintro e w2 ⟨rfl, hb2⟩; have hB := below_then hB hb2; obtain ⟨e0, e1, e2, e3, e4, e5⟩ := box6 hB)
          | (go_at_call 17; refine (HL.out _).mono ?_; rintro e w4 ⟨rfl, hb4⟩; have hB := below_then hB hb4))
        go_ret
        refine ⟨?_, below_then (below_alloc (Below.refl _ _) _) hB⟩
        rw [HXX.out, h9.out]
        rw [h10.out]
        simp
      have h10 : Hid (((decide (0 ≤ mods) && decide (mods ≤ 255)) && ((decide (1 ≤ typ) && decide (typ ≤ 3)) && ((lookD code).kind != 0))) = ((lookD code).kind != 0)) := Lib.hid (by simp [hm0, hm1, ht0, ht1])
      go_wp2_with (first
        | ((with_reducible refine (HS.out _).mono ?_); rintro e w2 ⟨rfl, hb2⟩; have hB := below_then hB hb2; obtain ⟨e0, e1, e2, e3, e4, e5⟩ := box6 hB)
        | ((with_reducible refine (HS2.out _).mono ?_); rintro e w2 ⟨rfl, hb2⟩; have hB := below_then hB hb2; obtain ⟨e0, e1, e2, e3, e4, e5⟩ := box6 hB)
        | (go_at_call 17; refine (HL.out _).mono ?_; rintro e w4 ⟨rfl, hb4⟩; have hB := below_then hB hb4))
      go_ret
      refine ⟨?_, below_then (below_alloc (Below.refl _ _) _) hB⟩
      rw [HXX.out, h9.out]
      rw [h10.out]
      rfl
end Go.Proofs.YtieppcjpbjefkaaDoor
