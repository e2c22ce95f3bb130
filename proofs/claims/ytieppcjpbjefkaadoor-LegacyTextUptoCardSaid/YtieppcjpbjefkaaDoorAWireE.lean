/- Contracts of package wire: body, glue. -/
import Derived.Test.YtieppcjpbjefkaaDoorA2
set_option linter.all false
namespace Go.Proofs.YtieppcjpbjefkaaDoor
open Go.RowKit Go.Proofs Go.Lib

theorem digits_len : ∀ (k n : Nat), n < 10 ^ (k + 1) → (Lib.decDigits n).length ≤ k + 1
  | 0, n, h => by
    unfold Lib.decDigits
    rw [dif_pos (by simpa using h)]
    simp
  | k + 1, n, h => by
    unfold Lib.decDigits
    split
    · simp
    · have := digits_len k (n / 10) (by rw [Nat.pow_succ] at h; omega)
      simp only [List.length_append, List.length_cons, List.length_nil]
      omega
theorem text_len (x : Int) (h : x ≤ 9223372036854775807) : (textL x).length ≤ 20 := by
  unfold textL
  split
  · simp
  · unfold Lib.itoa
    rw [if_neg (by omega)]
    exact digits_len 19 _ (by omega)
theorem lens_le (L : Nat) : ∀ (l : List (List UInt8)), (∀ s, s ∈ l → s.length ≤ L) → Lib.lens l ≤ L * l.length
  | [], _ => by simp [Lib.lens]
  | s :: r, h => by
    have h1 := lens_le L r (fun t ht => h t (List.mem_cons_of_mem _ ht))
    have h2 := h s (List.mem_cons_self ..)
    simp only [Lib.lens, List.map_cons, List.sum_cons, List.length_cons] at h1 ⊢
    rw [Nat.mul_add]
    omega
theorem join_len (L : Nat) (l : List (List UInt8)) (sep : List UInt8) (h : ∀ s, s ∈ l → s.length ≤ L) : (Lib.join l sep).length ≤ (L + sep.length) * l.length := by
  cases l with
  | nil => simp [Lib.join_nil]
  | cons s r =>
    rw [Lib.join_length]
    have := lens_le L (s :: r) h
    simp only [List.length_cons] at this ⊢
    rw [Nat.add_mul]
    have h3 : sep.length * r.length ≤ sep.length * (r.length + 1) := Nat.mul_le_mul_left _ (by omega)
    omega
def RowFits (p : List Int) : Prop := p.length ≤ 8 ∧ ∀ x, x ∈ p → -9223372036854775808 ≤ x ∧ x ≤ 9223372036854775807
theorem one_len (p : List Int) (h : RowFits p) : (oneL p).length ≤ 168 := by
  have := join_len 20 (p.map textL) [58] (fun s hs => by
    obtain ⟨x, hx, rfl⟩ := List.mem_map.1 hs
    exact text_len x (h.2 x hx).2)
  have h8 := h.1
  simp only [List.length_map, List.length_cons, List.length_nil] at this
  unfold oneL
  omega

theorem conv_one (W : World) (bl : Nat) (x : Int) (h0 : 0 ≤ x) (h1 : x < 256) (hc : W.cell? ⟨bl, 0, none⟩ = some (.int .u8 x)) : (convert 31 9 (.slice (some ⟨bl, 0, none⟩) 1 1)).run Tryd.prog W = .ok (.string ⟨#[UInt8.ofNat x.toNat]⟩) W := by
  have hx : ((UInt8.ofNat x.toNat).toNat : Int) = x := by rw [UInt8.toNat_ofNat_of_lt' (by simp [UInt8.size]; omega)]; omega
  refine run_convert_bytes_back W _ _ 5 ⟨bl, 0, none⟩ 1 [UInt8.ofNat x.toNat] (by kernel_rfl) (by kernel_rfl) (by kernel_rfl) (fun j hj => ?_)
  simp at hj
  subst hj
  rw [Go.WideShapes.add_plain]
  simp only [List.getElem_cons_zero, hx]
  exact hc

/-- a sequence's body, and its final byte -/
def paramsL (ll : List (List Int)) : List UInt8 := Lib.join (ll.map oneL) [59]
theorem params_len (ll : List (List Int)) (h : ll.length ≤ 16) (hr : ∀ p, p ∈ ll → RowFits p) : (paramsL ll).length ≤ 2704 := by
  have := join_len 168 (ll.map oneL) [59] (fun s hs => by
    obtain ⟨x, hx, rfl⟩ := List.mem_map.1 hs
    exact one_len x (hr x hx))
  simp only [List.length_map, List.length_cons, List.length_nil] at this
  unfold paramsL
  omega
def bodyL (s : SeqD) : List UInt8 := (if s.priv = 0 then [] else [s.priv.toNat.toUInt8]) ++ (paramsL s.params ++ s.inter ++ [s.final.toNat.toUInt8])

set_option maxRecDepth 100000 in
set_option maxHeartbeats 2000000 in
theorem wire_body (v : Value) (s : SeqD) (w : World) (h : SeqIs w v s) (h16 : s.params.length ≤ 16) (hfit : ∀ p, p ∈ s.params → RowFits p) (htab : TabOk w) (hin : s.inter.length ≤ 1000000) :
    Calls Tryd.prog 53 #[v] w (StrIs w (bodyL s)) := by
  obtain ⟨pv, rfl, hR, hk0, hk1, hp0, hp1, hf0, hf1, hi1, hd1⟩ := h
  obtain ⟨p, c, vs, rfl, hR'⟩ := hR
  have hR : Rows2 w (.slice p s.params.length c) s.params := ⟨p, c, vs, rfl, hR'⟩
  clear hR'
  have hPL := params_len s.params h16 hfit
  obtain ⟨k, pr, ll, it, fi, da⟩ := s
  simp only at *
  obtain ⟨i0, hi, hz0, hz1, hz2⟩ := info_parts Tryd.info_string
  have hmx : Tryd.prog.follows .mixedOrders = true := by kernel_rfl
  obtain ⟨n, hn⟩ : ∃ n, ll.length = n := ⟨_, rfl⟩
  rw [hn] at hR h16 ⊢
  have HX := Lib.hid hfit
  have HJ := Lib.hid (fun B v W (h : World.ownsRow W B 9 1 v n (strs (ll.map oneL))) => join_own B v n (ll.map oneL) [59] W h (by simp; omega) (by unfold paramsL at hPL; omega))
  obtain ⟨J, hJ⟩ : ∃ J, Lib.join (ll.map oneL) [59] = J := ⟨_, rfl⟩
  have hBL : bodyL ⟨k, pr, ll, it, fi, da⟩ = (if pr = 0 then [] else [UInt8.ofNat pr.toNat]) ++ (J ++ it ++ [UInt8.ofNat fi.toNat]) := by rw [← hJ]; rfl
  unfold paramsL at hPL
  rw [hJ] at HJ hPL
  obtain ⟨R, hRR⟩ : ∃ R, bodyL ⟨k, pr, ll, it, fi, da⟩ = R := ⟨_, rfl⟩
  rw [hRR] at hBL ⊢
  have ha1 := Lib.hid <| show ∀ W : World, (Op.stringOp .add ⟨J.toArray⟩ ⟨it.toArray⟩).run Tryd.prog W = .ok (.string ⟨(J ++ it).toArray⟩) W from fun W => run_string_add_lists W _ _ (by omega) (by omega)
  have ha2 := Lib.hid <| show ∀ W : World, (Op.stringOp .add ⟨(J ++ it).toArray⟩ ⟨#[UInt8.ofNat fi.toNat]⟩).run Tryd.prog W = .ok (.string ⟨(J ++ it ++ [UInt8.ofNat fi.toNat]).toArray⟩) W from fun W => run_string_add_lists W _ [UInt8.ofNat fi.toNat] (by simp; omega) (by simp)
  have ha3 := Lib.hid <| show ∀ W : World, (Op.stringOp .add ⟨#[UInt8.ofNat pr.toNat]⟩ ⟨(J ++ it ++ [UInt8.ofNat fi.toNat]).toArray⟩).run Tryd.prog W = .ok (.string ⟨([UInt8.ofNat pr.toNat] ++ (J ++ it ++ [UInt8.ofNat fi.toNat])).toArray⟩) W from fun W => run_string_add_lists W [UInt8.ofNat pr.toNat] _ (by simp) (by simp; omega)
  have hBL2 : R = if pr = 0 then (J ++ it ++ [UInt8.ofNat fi.toNat]) else [UInt8.ofNat pr.toNat] ++ (J ++ it ++ [UInt8.ofNat fi.toNat]) := by rw [hBL]; split <;> rfl
  clear hBL
  obtain ⟨V, hV⟩ : ∃ V, [UInt8.ofNat pr.toNat] ++ (J ++ it ++ [UInt8.ofNat fi.toNat]) = V := ⟨_, rfl⟩
  rw [hV] at ha3 hBL2
  clear hV
  obtain ⟨T, hT⟩ : ∃ T, J ++ it ++ [UInt8.ofNat fi.toNat] = T := ⟨_, rfl⟩
  rw [hT] at ha2 ha3 hBL2
  clear hT
  obtain ⟨U, hU⟩ : ∃ U, J ++ it = U := ⟨_, rfl⟩
  rw [hU] at ha1 ha2
  clear hU
  have hBL := hBL2
  have hcf := Lib.hid fun W bl => conv_one W bl fi hf0 hf1
  have hcp := Lib.hid fun W bl => conv_one W bl pr hp0 hp1
  have HBL := Lib.hid hBL
  clear hBL hBL2 hJ hRR
  clear hfit hPL
  go_enter Tryd.func53, Tryd.ntmps53
  go_wp2
  obtain ⟨o, ho⟩ : ∃ o : Obj, o = .cells #[.int .i64 k, .int .u8 pr, .slice p n c, .string ⟨it.toArray⟩, .int .u8 fi, .string ⟨da.toArray⟩] 39 := ⟨_, rfl⟩
  have h0 : Below w.heap.size w (w.alloc o) := below_alloc (Below.refl _ _) _
  go_loopw [3, 10] (fun v i wr => ∃ j : Nat, j ≤ n ∧ i = .int .i64 j ∧ wr.ownsRow (w.heap.size + 1) 9 1 v j (strs ((ll.take j).map oneL)) ∧ Below (w.alloc o).heap.size (w.alloc o) wr) (fun _ i _ => n - (intOf i).toNat)
  case atStart => exact ⟨0, by omega, rfl, World.ownsRow_nil _ _ _ _, by rw [ho]; exact Below.refl _ _⟩
  case round =>
    obtain ⟨j, hj, rfl, hown, hB⟩ := hrel
    have hBw := below_then h0 hB
    by_cases hlt : j < n
    · have hd : decide ((j : Int) < (n : Int)) = true := by simp; omega
      obtain ⟨b, of, rfl, g⟩ := hR.at.2.2.2 (by omega)
      obtain ⟨q, d, c0, hd1, hd2, hci, hxi⟩ := g j hlt
      clear g
      have c0 := cell_old hBw c0
      have hci := hci.later hBw
      have hS : Hid (strs ((ll.take (j + 1)).map oneL) = strs ((ll.take j).map oneL) ++ [.string ⟨(oneL (ll.getD j [])).toArray⟩]) := Lib.hid (by
        rw [List.take_succ_eq_append_getElem (by omega), List.map_append, strs_append]
        simp [strs, List.getD_eq_getElem?_getD, List.getElem?_eq_getElem (show j < ll.length from by omega)])
      have hfj := HX.out (ll.getD j []) (by rw [List.getD_eq_getElem?_getD, List.getElem?_eq_getElem (by omega)]; simp)
      obtain ⟨y, hy⟩ : ∃ y, ll.getD j [] = y := ⟨_, rfl⟩
      rw [hy] at c0 hS hfj hd1 hci
      have HT := Lib.hid (wire_one q y.length d y wr rfl hfj.1 hfj.2 hci (htab.later hBw) (by have := one_len y hfj; omega))
      obtain ⟨m, hm⟩ : ∃ m, y.length = m := ⟨_, rfl⟩
      rw [hm] at c0 HT
      clear hy hxi hfj hm hci
      go_wp2_with (first
        | (go_at_call 101; refine (HT.out).mono ?_; rintro e w1 ⟨rfl, hb1⟩; have hown1 := own_later hown hb1)
        | (at_builtin; refine wpList_append_own _ rfl _ _ 124 rfl (w.heap.size + 1) 9 i0 (.string ⟨#[]⟩) 1 16 Tryd.underlying124 hi hz0 hz1 hz2 rfl (by decide) _ _ _ rfl (hown1.alloc _) ⟨w1.heap.size, 0, none⟩ 1 1 [.string ⟨(oneL y).toArray⟩] rfl rfl ?c1 ?c2 ?c3 ?c4 ?c5 ?_))
      case c1 => exact new_cell _ _ _ _ rfl
      case c2 => intro u hu; simp at hu; subst hu; rfl
      case c3 => simp [maxLen]; omega
      case c4 => omega
      case c5 => have := hB.size; have := hb1.size; simp at this ⊢; simp at *; omega
      intro v' w2 hown2 hgrow _
      have hB2 := below_append (below_then hB hb1) hown1 (by simp) hgrow
      have hown3 : w2.ownsRow (w.heap.size + 1) 9 1 v' (j + 1) (strs ((ll.take (j + 1)).map oneL)) := by rw [hS.out]; simpa [List.map_take] using hown2
      clear hown2 hown1 hown hgrow hS
      go_wp2
      exact ⟨⟨j + 1, by omega, by go_num, hown3, hB2⟩, by simp [intOf]; omega⟩
    · obtain rfl : j = n := by omega
      have hJw := HJ.out _ _ _ (by rwa [List.take_of_length_le (by omega)] at hown)
      have HJw := Lib.hid hJw
      subst ho
      have ha1' := ha1.out
      have ha2' := ha2.out
      have ha3' := ha3.out
      have hcf' := hcf.out
      have hcp' := hcp.out
      obtain ⟨e0, e1, e2, e3, e4, e5⟩ := box6 hB
      clear hJw
      have hlt0 : w.heap.size < wr.heap.size := by have := hB.size; simp at this; omega
      have hownJ : wr.ownsRow (w.heap.size + 1) 9 1 u3 j (strs (ll.map oneL)) := by rwa [List.take_of_length_le (by omega)] at hown
      clear hown
      go_wp2
      go_region_with (go_at_call 100; first
        | (refine ((HJ.out _ _ _ (own_later hownJ (below_alloc (below_drewN (Below.refl _ wr) _) _))).mono ?_); rintro e w1 ⟨rfl, hb1⟩; have g0 : w1.cell? ⟨wr.heap.size, 0, none⟩ = some (.int .u8 fi) := cell_old hb1 (box_cell _ _ _ _ rfl); have hb1 := below_then (below_alloc (below_drewN (Below.refl _ wr) _) _) hb1; obtain ⟨f0, f1, f2, f3, f4, f5⟩ := box6 (below_then hB hb1); have hlt1 : w.heap.size < w1.heap.size := by have := hb1.size; omega)
        | (refine ((HJ.out _ _ _ (own_later hownJ (below_drewN (Below.refl _ wr) _))).mono ?_); rintro e w1 ⟨rfl, hb1⟩; have hb1 := below_then (below_drewN (Below.refl _ wr) _) hb1; obtain ⟨f0, f1, f2, f3, f4, f5⟩ := box6 (below_then hB hb1); have hlt1 : w.heap.size < w1.heap.size := by have := hb1.size; omega))
      all_goals clear HX HJ hR hi hz0 hz1 hz2 hownJ HJw hmx htab e0 e1 e2 e3 e4 e5 hB hcf hcp ha1 ha2 ha3
      all_goals
        have hB3 := below_then hBw hb1
        clear hBw hb1
        go_wp2
        all_goals
          go_ret
          refine ⟨?_, by first | exact hB3 | exact below_alloc hB3 _ | exact below_alloc (below_alloc hB3 _) _⟩
          rw [HBL.out]
          simp_all
end Go.Proofs.YtieppcjpbjefkaaDoor
