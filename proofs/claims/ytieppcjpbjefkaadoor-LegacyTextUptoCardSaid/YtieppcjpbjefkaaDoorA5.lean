/- Bridges between this seat's words and those of the printed texts; contract of wire.Num. -/
import Derived.Test.YtieppcjpbjefkaaDoorPNumx1
import Derived.Test.YtieppcjpbjefkaaDoorA2
import Derived.Test.YtieppcjpbjefkaaDoorA3
import Derived.Test.YtieppcjpbjefkaaDoorA4
import Derived.Defers
import Derived.Laws.AppendOwnNone
import Derived.OpenShut
import Derived.ChangeMaps5
import Derived.ProofKit
import Derived.Test.YtieppcjpbjefkaaDoorCards
import Derived.Test.YtieppcjpbjefkaaDoorTie
import Derived.WalkKit
import Derived.Deep.DeepHandedRow
import Derived.Lib.LaidTab
import Derived.Stop.LaidErr
import Derived.Test.YtieppcjpbjefkaaDoorPAllx1
import Derived.Lib.BufferRead
import Derived.Test.YtieppcjpbjefkaaDoorA1
set_option linter.all false

/- Bridges between this seat's words and those of the printed texts; contract of wire.Num. -/
namespace Go.Proofs.YtieppcjpbjefkaaDoor
open Go.RowKit Go.Proofs

section
open Go.Proofs.YtieppcjpbjefkaaDoorW.PrintWords (Kd OwnRow)
theorem c_ints {k : IntKind} {w : World} {p : Option Addr} {l : List Int} (h : CellsIn w p (nums k l)) (hl : l.length ≤ 9223372036854775807) : Kd.C (Kd.int k) w p l.length l :=
  ⟨rfl, hl, fun h0 => by
    obtain ⟨b, o, rfl, hc⟩ := h (by rw [nums_length]; exact h0)
    refine ⟨_, rfl, fun j q hj => ⟨[.int k q], rfl, rfl, fun i u hu => ?_⟩⟩
    have hsz : (Kd.int k).sz = 1 := rfl
    rw [hsz]
    match i with
    | 0 =>
      simp at hu
      subst hu
      rw [Go.WideShapes.add_plain, Nat.mul_one, Nat.add_zero]
      exact hc j _ (by simp [nums, hj])
    | i + 1 => simp at hu⟩
theorem of_c_ints {k : IntKind} {w : World} {p : Option Addr} {n : Nat} {l : List Int} (h : Kd.C (Kd.int k) w p n l) (hp : ∀ a, p = some a → a.spot = none) : CellsIn w p (nums k l) := fun h0 => by
  obtain ⟨h1, h2, h3⟩ := h
  rw [nums_length] at h0
  obtain ⟨ad, rfl, hc⟩ := h3 (by omega)
  obtain ⟨b, o, pa⟩ := ad
  obtain rfl : pa = none := hp _ rfl
  refine ⟨b, o, rfl, fun i v hv => ?_⟩
  simp only [nums, List.getElem?_map, Option.map_eq_some_iff] at hv
  obtain ⟨x, hx, rfl⟩ := hv
  obtain ⟨c, hc1, hc2, hc3⟩ := hc i x hx
  have hsz : (Kd.int k).sz = 1 := rfl
  have hc2 : c = [.int k x] := hc2
  subst hc2
  have := hc3 0 _ rfl
  rw [hsz, Nat.mul_one, Nat.add_zero, Go.WideShapes.add_plain] at this
  exact this
theorem own_spot {w : World} {base n : Nat} {e : TypeId} {size : Nat} {xs : List Value} {p : Option Addr} {m c : Nat} (h : w.ownsRow base e size (.slice p m c) n xs) : m = n ∧ c ≤ 9223372036854775807 ∧ ∀ a, p = some a → a.spot = none := by
  rcases h.2 with ⟨he, h0⟩ | ⟨g, cap, cur, he, _, _, _, hm, _, _⟩
  · cases he
    exact ⟨h0.symm, by omega, fun a ha => by cases ha⟩
  · cases he
    refine ⟨rfl, by simpa [maxLen] using hm, fun a ha => by cases ha; rfl⟩

/-- rows of rows that a call has made -/
theorem rows_of_S {e f base : Nat} {ok : Nat → Prop} {w : World} {v : Value} {ll : List (List Int)} (h : Kd.S (Kd.slice f (Kd.int .i64)) e w base ok v ll) (hx : ∀ p, p ∈ ll → ∀ x, x ∈ p → -9223372036854775808 ≤ x ∧ x ≤ 9223372036854775807) : Rows2 w v ll := by
  have hR := Kd.S_R h
  obtain ⟨A, c, rfl, hl, hr⟩ := OwnRow.reads hR.2
  obtain ⟨inner, ho⟩ := Kd.R_own hR
  obtain ⟨_, hcm, hsp⟩ := own_spot ho
  obtain ⟨h1, h2, h3⟩ := hr
  have hsz : (Kd.slice f (Kd.int .i64)).sz = 1 := rfl
  by_cases h0 : 0 < ll.length
  · obtain ⟨ad, rfl, hc⟩ := h3 h0
    obtain ⟨b, o, pa⟩ := ad
    obtain rfl : pa = none := hsp _ rfl
    have hrow : ∀ (j : Nat) (q : List Int), ll[j]? = some q → ∃ u, w.cell? ⟨b, o + j, none⟩ = some u ∧ RowIs w u q := by
      intro j q hq
      obtain ⟨cs, hc1, ⟨u, rfl, hRu⟩, hc3⟩ := hc j q hq
      have h4 := hc3 0 _ rfl
      rw [hsz, Nat.mul_one, Nat.add_zero, Go.WideShapes.add_plain] at h4
      refine ⟨u, h4, ?_⟩
      obtain ⟨B, d, rfl, hd, hC⟩ := Kd.R_reads hRu
      obtain ⟨inner', ho'⟩ := Kd.R_own hRu
      obtain ⟨_, hdm, hsp'⟩ := own_spot ho'
      exact ⟨B, d, rfl, hd, hdm, of_c_ints hC hsp', hx q (List.mem_of_getElem? hq)⟩
    refine ⟨_, c, (List.range ll.length).map fun j => (w.cell? ⟨b, o + j, none⟩).getD undef, rfl, hl, hcm, by simp, fun _ => ⟨b, o, rfl, fun i u hu => ?_⟩, fun i u xs hu hxs => ?_⟩
    · simp only [List.getElem?_map, Option.map_eq_some_iff] at hu
      obtain ⟨j, hj, rfl⟩ := hu
      obtain ⟨hj1, hj2⟩ := List.getElem?_eq_some_iff.1 hj
      simp at hj1 hj2
      subst hj2
      obtain ⟨u, hu, _⟩ := hrow i _ (List.getElem?_eq_getElem hj1)
      rw [hu]
      rfl
    · simp only [List.getElem?_map, Option.map_eq_some_iff] at hu
      obtain ⟨j, hj, rfl⟩ := hu
      obtain ⟨hj1, hj2⟩ := List.getElem?_eq_some_iff.1 hj
      simp at hj1 hj2
      subst hj2
      obtain ⟨u, hu, hR'⟩ := hrow i _ hxs
      rw [hu]
      exact hR'
  · have hn : ll = [] := List.eq_nil_of_length_eq_zero (by omega)
    subst hn
    exact ⟨A, c, [], rfl, hl, hcm, rfl, fun h => by simp at h, fun i u xs hu => by simp at hu⟩
end

theorem num_loop (p f : Int) : ∀ (d : Nat) (l : List Int) (acc : List (List Int)) (i : Nat), l.length = i + d → l.length ≤ 1000000000 → acc.length = i →
    PNum.wire_Num.l0 (d + 1) l (l.length : Int) (i : Int) 1 p acc ⟨#[]⟩ f ⟨#[]⟩ = some (1, p, acc ++ (l.drop i).map fun x => [x], ⟨#[]⟩, f, ⟨#[]⟩)
  | 0, l, acc, i, h, _, _ => by
    rw [PNum.wire_Num.l0]
    rw [if_neg (by omega), List.drop_of_length_le (by omega)]
    simp
  | d + 1, l, acc, i, h, hl, ha => by
    have hi : i < l.length := by omega
    rw [PNum.wire_Num.l0]
    rw [if_pos (by omega), if_pos (by omega), if_pos (by omega), if_pos (by omega)]
    have e : wrap64 ((i : Int) + 1) = ((i + 1 : Nat) : Int) := by unfold wrap64; omega
    rw [e, num_loop p f d l (acc ++ [[Go.Proofs.YtieppcjpbjefkaaDoorW.PrintWords.rd l i]]) (i + 1) (by omega) hl (by simp [ha]), List.drop_eq_getElem_cons hi, List.map_cons]
    have e2 : Go.Proofs.YtieppcjpbjefkaaDoorW.PrintWords.rd l (i : Int) = l[i] := by simp [Go.Proofs.YtieppcjpbjefkaaDoorW.PrintWords.rd, List.getElem?_eq_getElem hi]
    rw [e2, List.append_assoc]
    rfl

/-- a sequence of numbers -/
def numS (pr fi : Int) (xs : List Int) : SeqD := ⟨1, pr, xs.map fun x => [x], [], fi, []⟩
def SeqRet (w : World) (s : SeqD) (e : Ending) (w' : World) : Prop := ∃ v, e = .returned v ∧ SeqIs w' v s ∧ Below w.heap.size w w'

theorem wire_Num (pr fi : Int) (p : Option Addr) (n c : Nat) (xs : List Int) (w : World) (hl : xs.length = n) (hn : n ≤ 1000000000) (hc : n ≤ c) (hin : CellsIn w p (nums .i64 xs)) (hx : ∀ x, x ∈ xs → -9223372036854775808 ≤ x ∧ x ≤ 9223372036854775807)
    (hp0 : 0 ≤ pr) (hp1 : pr < 256) (hf0 : 0 ≤ fi) (hf1 : fi < 256) : Calls Tryd.prog 30 #[.int .u8 pr, .int .u8 fi, .slice p n c] w (SeqRet w (numS pr fi xs)) := by
  subst hl
  refine (PNum.wire_Num.calls (xs.length + 1) pr fi p c xs 1 pr (xs.map fun x => [x]) ⟨#[]⟩ fi ⟨#[]⟩ w (c_ints hin (by omega)) hc ?_).mono ?_
  · have := num_loop pr fi xs.length xs [] 0 (by omega) hn rfl
    simpa [PNum.wire_Num.f] using this
  · rintro e w' ⟨v, rfl, hS, hb⟩
    refine ⟨_, rfl, ⟨v, rfl, rows_of_S hS ?_, ?_⟩, hb⟩
    · intro q hq x hxq
      obtain ⟨y, hy, rfl⟩ := List.mem_map.1 hq
      simp at hxq
      subst hxq
      exact hx _ hy
    · simp [numS, hp0, hp1, hf0, hf1]
end Go.Proofs.YtieppcjpbjefkaaDoor

/- Contracts of package legacy: bytes, ahead. -/
namespace Go.Proofs.YtieppcjpbjefkaaDoor
open Go.RowKit Go.Proofs

set_option maxRecDepth 100000 in
theorem legacy_bytes (v : Value) (s : SeqD) (w : World) (h : SeqIs w v s) (htab : TabOk w) : Calls Tryd.prog 95 #[v] w (OwnBytes w (putS s)) := by
  have hP := fun W (h1 : Below w.heap.size w W) => wire_Put v s W (h.later h1) (htab.later h1)
  obtain ⟨pv, rfl, hR, _⟩ := h
  obtain ⟨p, c, vs, rfl, _⟩ := hR
  have HP := Lib.hid hP
  obtain ⟨k, pr, ll, it, fi, da⟩ := s
  simp only at *
  obtain ⟨n, hn⟩ : ∃ n, ll.length = n := ⟨_, rfl⟩
  rw [hn] at HP ⊢
  clear hP hn
  go_enter Tryd.func95, Tryd.ntmps95
  go_wp2_with (go_at_call 23; refine (HP.out _ (below_alloc (Below.refl _ _) _)).mono ?_; rintro e w1 ⟨v, rfl, hown, hb⟩)
  go_ret
  exact ⟨_, rfl, own_base hown (by simp), below_then (below_alloc (Below.refl _ _) _) hb⟩

/-- behind the escape byte, with Alt -/
def aheadL (m : Int) (l : List UInt8) : List UInt8 := if hasB m 2 then 27 :: l else l
theorem and_two (m : Int) (h0 : 0 ≤ m) (h1 : m ≤ 255) : (bits .and .i64 m 2 != 0) = hasB m 2 := by
  have h : ∀ k : Fin 256, (bits .and .i64 (k.val : Int) 2 != 0) = hasB (k.val : Int) 2 := by decide +kernel
  have := h ⟨m.toNat, by omega⟩
  simpa [Int.toNat_of_nonneg h0] using this
theorem and_four (m : Int) (h0 : 0 ≤ m) (h1 : m ≤ 255) : (bits .and .i64 m 4 != 0) = hasB m 4 := by
  have h : ∀ k : Fin 256, (bits .and .i64 (k.val : Int) 4 != 0) = hasB (k.val : Int) 4 := by decide +kernel
  have := h ⟨m.toNat, by omega⟩
  simpa [Int.toNat_of_nonneg h0] using this
theorem and_one (m : Int) (h0 : 0 ≤ m) (h1 : m ≤ 255) : (bits .and .i64 m 1 != 0) = hasB m 1 := by
  have h : ∀ k : Fin 256, (bits .and .i64 (k.val : Int) 1 != 0) = hasB (k.val : Int) 1 := by decide +kernel
  have := h ⟨m.toNat, by omega⟩
  simpa [Int.toNat_of_nonneg h0] using this

/-- []byte of a text, in whatever world -/
theorem conv_run (l : List UInt8) (W : World) : (convert 9 31 (.string ⟨l.toArray⟩)).run Tryd.prog W = .ok (.slice (some ⟨W.heap.size, 0, none⟩) l.length (grownCap W l.length 0 5)) (Lib.bytesWorld W 5 ⟨l.toArray⟩) := by
  have := Lib.run_convert_string_bytes (P := Tryd.prog) (u := .string) W 9 31 5 ⟨l.toArray⟩ (by kernel_rfl) (by kernel_rfl) (by kernel_rfl)
  simpa [ByteArray.size] using this
theorem conv_cell (W : World) (e : TypeId) (s : ByteArray) (b o : Nat) (h : b < W.heap.size) : (Lib.bytesWorld W e s).cell? ⟨b, o, none⟩ = W.cell? ⟨b, o, none⟩ := Lib.bytesWorld_old W e s ⟨b, o, none⟩ h
theorem conv_frozen (W : World) (e : TypeId) (s : ByteArray) (b o : Nat) (h : b < W.heap.size) : (Lib.bytesWorld W e s).frozen? ⟨b, o, none⟩ = W.frozen? ⟨b, o, none⟩ := by
  simp [World.frozen?, Lib.bytesWorld_at_old W e s b h]
/-- a value that is a slice of bytes -/
def BytesR (w : World) (v : Value) (l : List UInt8) : Prop := ∃ p c, v = .slice p l.length c ∧ l.length ≤ c ∧
  ((p = none ∧ l = [] ∧ c = 0) ∨ ∃ g o, p = some ⟨g, o, none⟩ ∧ ∀ (j : Nat) (x : UInt8), l[j]? = some x → w.cell? ⟨g, o + j, none⟩ = some (.int .u8 x.toNat))
theorem BytesR.later {w w1 : World} {v : Value} {l : List UInt8} (h : BytesR w v l) (hb : Below w.heap.size w w1) : BytesR w1 v l := by
  obtain ⟨p, c, rfl, h1, h3⟩ := h
  refine ⟨p, c, rfl, h1, h3.imp id ?_⟩
  rintro ⟨g, o, rfl, hc⟩
  exact ⟨g, o, rfl, fun j x hx => cell_old hb (hc j x hx)⟩
theorem BytesR.of_own {w : World} {base n : Nat} {e : TypeId} {v : Value} {l : List UInt8} (h : w.ownsRow base e 1 v n (Lib.byteCells l)) : BytesR w v l := by
  have hl : l.length = n := by have := h.1; simpa [Lib.byteCells] using this
  subst hl
  rcases h.2 with ⟨rfl, h0⟩ | ⟨g, cap, cur, rfl, _, _, hn, hm, _, _⟩
  · obtain rfl := List.eq_nil_of_length_eq_zero h0
    exact ⟨none, 0, rfl, Nat.le_refl _, .inl ⟨rfl, rfl, rfl⟩⟩
  · refine ⟨_, cap, rfl, hn, .inr ⟨g, 0, rfl, fun j x hx => ?_⟩⟩
    have := h.cells (g := g) rfl j (.int .u8 x.toNat) (by simp [Lib.byteCells, hx])
    rwa [Go.WideShapes.add_plain] at this
theorem BytesR.of_conv (W : World) (e : TypeId) (l : List UInt8) (c : Nat) (hc : l.length ≤ c) : BytesR (Lib.bytesWorld W e ⟨l.toArray⟩) (.slice (some ⟨W.heap.size, 0, none⟩) l.length c) l := by
  refine ⟨_, c, rfl, hc, .inr ⟨_, 0, rfl, fun j x hx => ?_⟩⟩
  have hj := (List.getElem?_eq_some_iff.1 hx).1
  rw [Nat.zero_add, Lib.bytesWorld_cell _ _ _ _ (by simpa [ByteArray.size] using hj)]
  simp [List.getD_eq_getElem?_getD, hx]
theorem BytesR.set {w : World} {B : Nat} {t : TypeId} {u v : Value} {l : List UInt8} (h : BytesR w v l) (hb : Boxed w B t u) (hu : ∀ k x, u ≠ .int k x) (u' : Value) : BytesR (w.setCell ⟨B, 0, none⟩ u') v l := by
  obtain ⟨p, c, rfl, h1, h3⟩ := h
  refine ⟨p, c, rfl, h1, h3.imp id ?_⟩
  rintro ⟨g, o, rfl, hc⟩
  refine ⟨g, o, rfl, fun j x hx => ?_⟩
  have h4 := hc j x hx
  by_cases hg : g = B
  · subst hg
    have h5 := cell_of_heap hb (o + j)
    rw [h4] at h5
    match hoj : o + j with
    | 0 =>
      rw [hoj] at h5
      simp at h5
      exact absurd h5.symm (hu _ _)
    | k + 1 =>
      rw [hoj] at h5
      simp at h5
  · exact (World.cell?_of_block (show (w.setCell ⟨B, 0, none⟩ u').heap[g]? = w.heap[g]? from setCell_other _ _ _ _ (fun e => hg e.symm))).trans h4
def BytesRet (w : World) (l : List UInt8) (e : Ending) (w' : World) : Prop := ∃ v, e = .returned v ∧ BytesR w' v l ∧ Below w.heap.size w w'

/-- bytes in a variable -/
def OwnVar (B : Nat) (w : World) (l : List UInt8) : Prop := ∃ v, Boxed w B 31 v ∧ BytesR w v l

set_option maxRecDepth 100000 in
set_option maxHeartbeats 2000000 in
theorem legacy_ahead (k : KeyD) (l : List UInt8) (m B : Nat) (hB : m ≤ B) (u : FrameMode) (w : World) (h0 : 0 ≤ k.mods) (h1 : k.mods ≤ 255) (hv : OwnVar B w l) (hm : m ≤ w.heap.size) (hl : l.length ≤ 1000000000000) :
    CallsD Tryd.prog 92 #[k.v, .pointer (some ⟨B, 0, none⟩)] u w fun e u' w' => u' = u ∧ (e = .returned (.tuple #[]) ∧ OwnVar B w' (aheadL k.mods l) ∧ Below m w w') := by
  obtain ⟨v, hbx, hv⟩ := hv
  obtain ⟨code, mods, typ, sh, base, text⟩ := k
  unfold KeyD.v
  simp only at *
  have hand := and_two mods h0 h1
  obtain ⟨i0, hi, hz0, hz1, hz2⟩ := info_parts Tryd.info_uint8
  have HV := Lib.hid hv
  obtain ⟨p, cap, rfl, hcap, hq⟩ := hv
  have cB := hbx.cell
  have fB := hbx.frozen
  have hBl := hbx.lt
  have HBX := Lib.hid hbx
  have HP := Lib.hid (show aheadL mods l = if hasB mods 2 then 27 :: l else l from rfl)
  obtain ⟨n, hn⟩ : ∃ n, l.length = n := ⟨_, rfl⟩
  rw [hn] at hl hcap cB HBX HV
  clear hbx
  cases hh : hasB mods 2
  · rw [hh] at hand HP
    have HH := Lib.hid hh
    clear hh hn hq
    go_enter_d Tryd.func92, Tryd.ntmps92
    go_wp2
    go_end0
    rw [HP.out]
    exact ⟨rfl, ⟨_, HBX.out.alloc _, HV.out.later ((Below.refl _ _).alloc (Nat.le_refl _) _)⟩, (Below.refl _ _).alloc hm _⟩
  · rw [hh] at hand HP
    have HH := Lib.hid hh
    clear hh
    rcases hq with ⟨rfl, rfl, rfl⟩ | ⟨g, o, rfl, hcs0⟩
    · obtain rfl : n = 0 := by simpa using hn.symm
      clear hn
      go_enter_d Tryd.func92, Tryd.ntmps92
      go_wp2_with (at_builtin; refine wpList_append_own_none rfl _ _ 31 rfl m 5 i0 1 Tryd.underlying31 hi (.slice (some ⟨w.heap.size + 1, 0, none⟩) 1 1) 1 [.int .u8 27] rfl (own_new (W := w.alloc _) (base := m) (g := w.heap.size + 1) (e := 5) (n := 1) [.int .u8 27] (by simp) (by simp; omega) rfl (by omega)) rfl ?_)
      go_end0
      rw [HP.out, if_pos trivial]
      refine ⟨rfl, ⟨_, (((HBX.out.set _).alloc _).alloc _), BytesR.of_own (base := m) (e := 5) (n := 1) ?_⟩, ?_⟩
      · exact own_new (W := (w.setCell _ _).alloc _) [.int .u8 27] (by simp) (by simp; omega) rfl (by simp)
      · exact (((Below.refl _ _).setCell (p := ⟨B, 0, none⟩) hB _).alloc (by simp; omega) _).alloc (by simp; omega) _
    · have hcs : ∀ (W : World), Below w.heap.size w W → ∀ (j : Nat) u, (Lib.byteCells l)[j]? = some u → W.cell? ⟨g, o + j, none⟩ = some u := fun W hW j u hu => by
        simp only [Lib.byteCells, List.getElem?_map, Option.map_eq_some_iff] at hu
        obtain ⟨x, hx, rfl⟩ := hu
        exact cell_old hW (hcs0 j x hx)
      have h1c : ∀ u ∈ Lib.byteCells l, u.oneCell' = true := fun u hu => by
        simp only [Lib.byteCells, List.mem_map] at hu
        obtain ⟨x, _, rfl⟩ := hu
        rfl
      have hlen : l.length = (Lib.byteCells l).length := by simp [Lib.byteCells]
      have HCS := Lib.hid hcs
      clear hcs hcs0
      have HL := Lib.hid hlen
      clear hlen
      rw [hn] at HL
      have HN := Lib.hid hn
      clear hn
      go_enter_d Tryd.func92, Tryd.ntmps92
      go_wp2_with (at_builtin; refine wpList_append_own _ rfl _ _ 31 rfl (w.heap.size + 1) 5 i0 (.int .u8 0) 1 1 Tryd.underlying31 hi hz0 hz1 hz2 rfl (by decide) (.slice (some ⟨w.heap.size + 1, 0, none⟩) 1 1) 1 [.int .u8 27] rfl (own_new (W := w.alloc _) (base := w.heap.size + 1) (g := w.heap.size + 1) (e := 5) (n := 1) [.int .u8 27] (by simp) (by simp) rfl (by omega)) ⟨g, o, none⟩ n cap (Lib.byteCells l) rfl ?c1 ?c2 h1c ?c3 ?c4 ?c5 ?_)
      case c1 => exact HL.out.symm
      case c2 => exact HCS.out _ (by go_grown)
      case c3 => unfold maxLen; omega
      case c4 => omega
      intro v' w1 hown' hg3 hnil
      rw [Nat.add_comm 1 n] at hown'
      obtain ⟨g', cap', rfl⟩ := ownsRow_succ hown'
      have hBk : ∀ i, i < w.heap.size → w1.heap[i]? = w.heap[i]? := fun i hlt => by
        rw [hg3.block i (by simp; omega) (by simp [Value.ownBlock]; omega), heap_past _ _ _ (by simp; omega), heap_past _ _ _ hlt]
      have hv1 : Boxed w1 B 31 (.slice (some ⟨g, o, none⟩) n cap) := (hBk B hBl).trans HBX.out
      have cB1 := hv1.cell
      have fB1 := hv1.frozen
      have hbl : Below m w w1 := (((Below.refl m w).alloc hm _).alloc (by simp; omega) _).grown hg3 (by simp; omega) (fun k hk => by simp [Value.ownBlock] at hk; omega)
      have HBK := Lib.hid hBk
      clear hBk hnil
      go_wp2
      go_end0
      rw [HP.out, if_pos trivial]
      refine ⟨rfl, ⟨_, hv1.set _, BytesR.of_own (base := w.heap.size + 1) (e := 5) (n := n + 1) ?_⟩, hbl.setCell (p := ⟨B, 0, none⟩) hB _⟩
      have h9 := hown'.kept (grownBy_setCell' w1 B (.slice (some ⟨g', 0, none⟩) (n + 1) cap')) (.inr (hv1.not_row (by decide) hown').symm)
      simpa [Lib.byteCells] using h9
end Go.Proofs.YtieppcjpbjefkaaDoor

/- Contracts of package legacy: text, plain. -/
namespace Go.Proofs.YtieppcjpbjefkaaDoor
open Go.RowKit Go.Proofs

/-- how the terminal is set -/
structure ModesD where
  cursor : Bool
  keypad : Bool
  back : Bool
  focus : Bool
  paste : Bool
  lock : Bool
  line : Bool
  mouse : Int
  coding : Int
  other : Int
def ModesD.v (m : ModesD) : Value := .agg #[.bool m.cursor, .bool m.keypad, .bool m.back, .bool m.focus, .bool m.paste, .bool m.lock, .bool m.line, .int .i64 m.mouse, .int .i64 m.coding, .int .i64 m.other]
def EntryD.v (x : EntryD) : Value := .agg #[.int .i64 x.kind, .int .u8 x.final, .int .i64 x.num, .int .i64 x.char, .bool x.pad]

def toU8 (l : List Int) : List UInt8 := l.map fun x => UInt8.ofNat x.toNat
/-- a text's bytes, or its control character -/
def textRaw (k : KeyD) : List UInt8 :=
  if hasB k.mods 4 = false ∧ k.text ≠ [] then k.text
  else if (foldL (shownL k)).2 && hasB k.mods 4 then [UInt8.ofNat (foldL (shownL k)).1.toNat] else toU8 (putL (shownL k))
def textL2 (k : KeyD) : List UInt8 := aheadL k.mods (textRaw k)

theorem byteCells_u8 (l : List Int) (h : ∀ x, x ∈ l → 0 ≤ x ∧ x < 256) : Lib.byteCells (toU8 l) = nums .u8 l := by
  unfold Lib.byteCells toU8 nums
  rw [List.map_map]
  refine List.map_congr_left fun x hx => ?_
  obtain ⟨h0, h1⟩ := h x hx
  simp only [Function.comp]
  congr 1
  rw [UInt8.toNat_ofNat']
  omega
theorem toU8_length (l : List Int) : (toU8 l).length = l.length := by simp [toU8]
theorem putL_range (r : Int) : ∀ x, x ∈ putL r → 0 ≤ x ∧ x < 256 := by
  unfold putL
  by_cases hb : isB r = true
  · rw [if_pos hb]
    have : 0 ≤ r ∧ r ≤ 1114111 := by simp [isB] at hb; omega
    intro x hx
    split at hx
    · simp at hx; omega
    split at hx
    · simp at hx; omega
    split at hx
    · simp at hx; omega
    · simp at hx; omega
  · rw [if_neg hb]
    simp

/-- behind the deferred call of ahead -/
theorem ahead_door (k : KeyD) (l : List UInt8) (fn : Func) (tm : Array Value) (w W : World) (h0 : 0 ≤ k.mods) (h1 : k.mods ≤ 255) (hl : l.length ≤ 1000000000000) (B : Nat) (hB : w.heap.size ≤ B) (hW : Below w.heap.size w W) (hv : OwnVar B W l)
    (hr : ∀ (W' : World) (p : Option Addr) (n c : Nat), W'.cell? ⟨B, 0, none⟩ = some (.slice p n c) → (results fn tm).run Tryd.prog W' = .ok (.slice p n c) W') :
    Leaves Tryd.prog fn tm (BytesRet w (aheadL k.mods l)) [{ target := .fn (.func 92) #[], args := #[k.v, .pointer (some ⟨B, 0, none⟩)] }] .returning W := by
  refine leaves_cons (f := 92) (args := #[k.v, .pointer (some ⟨B, 0, none⟩)]) (by simp) (by simp [go_sem]) ?_
  refine (legacy_ahead k l w.heap.size B hB .returning W h0 h1 hv hW.size hl).mono ?_
  rintro e u' w'' ⟨rfl, rfl, ⟨v, hbx, ho⟩, hb⟩
  have ho2 := ho
  obtain ⟨p, c, rfl, _⟩ := ho
  exact ⟨_, hr _ _ _ _ hbx.cell, _, rfl, ho2, hW.trans hb⟩
theorem own_store {W : World} {B : Nat} {v : Value} {l : List UInt8} (hb : W.heap[B]? = some (.cells #[.slice none 0 0] 31 (0, 0))) (hr : BytesR W v l) : OwnVar B (W.setCell ⟨B, 0, none⟩ v) l :=
  ⟨v, Boxed.set v (t := 31) (v := .slice none 0 0) hb, hr.set (t := 31) (u := .slice none 0 0) hb (fun k x h => by cases h) v⟩
theorem own_conv {W : World} {B : Nat} (hb : W.heap[B]? = some (.cells #[.slice none 0 0] 31 (0, 0))) (l : List UInt8) (n : Nat) (hn : n = W.heap.size) :
    OwnVar B ((Lib.bytesWorld W 5 ⟨l.toArray⟩).setCell ⟨B, 0, none⟩ (.slice (some ⟨n, 0, none⟩) l.length (grownCap W l.length 0 5))) l := by
  subst hn
  exact own_store ((Lib.bytesWorld_at_old _ _ _ _ (Array.getElem?_eq_some_iff.1 hb).1).trans hb) (BytesR.of_conv W _ l _ (grownCap_ge _ _ _ _))

theorem own_one {W : World} {B : Nat} (hb : W.heap[B]? = some (.cells #[.slice none 0 0] 31 (0, 0))) (f : Int) (f0 : 0 ≤ f) (f1 : f ≤ 127) :
    OwnVar B ((W.setCell ⟨B, 0, none⟩ (.slice (some ⟨W.heap.size, 0, none⟩) 1 1)).alloc (.cells #[.int .u8 f] 5)) [UInt8.ofNat f.toNat] := by
  have hlt := (Array.getElem?_eq_some_iff.1 hb).1
  refine ⟨_, (Boxed.set (t := 31) (v := .slice none 0 0) _ hb).alloc _, BytesR.of_own (base := 0) (e := 5) (n := 1) ?_⟩
  have : Lib.byteCells [UInt8.ofNat f.toNat] = [.int .u8 f] := by
    simp only [Lib.byteCells, List.map_cons, List.map_nil]
    congr 2
    rw [UInt8.toNat_ofNat']
    omega
  rw [this]
  exact own_new (W := W.setCell _ _) [.int .u8 f] (by simp) (Nat.zero_le _) rfl (by simp)
theorem below_grown4 {w W : World} {o1 o2 o3 o4 : Obj} (h : Below ((((w.alloc o1).alloc o2).alloc o3).alloc o4).heap.size ((((w.alloc o1).alloc o2).alloc o3).alloc o4) W) : Below w.heap.size w W :=
  below_then (below_alloc (below_alloc (below_alloc (below_alloc (Below.refl _ _) _) _) _) _) h
theorem foldL_range (c : Int) : 0 ≤ (foldL c).1 ∧ (foldL c).1 ≤ 127 := by
  unfold foldL
  split
  · simp; omega
  split
  · simp; omega
  split
  · rename_i x hx
    exact (by decide +kernel : ∀ x ∈ foldsE, 0 ≤ x.2 ∧ x.2 ≤ 127) x (List.mem_of_find?_eq_some hx)
  · simp

set_option maxRecDepth 100000 in
set_option maxHeartbeats 2000000 in
theorem legacy_text (m : ModesD) (k : KeyD) (x : EntryD) (w : World) (hk : k.wf) (h0 : 0 ≤ k.mods) (h1 : k.mods ≤ 255) (ht : k.text.length ≤ 1000000000000) :
    Calls Tryd.prog 45 #[m.v, k.v, x.v] w (BytesRet w (textL2 k)) := by
  have hS := fun W => mods_Shown k W hk
  have hF := fun W => mods_Fold (shownL k) W (by
    obtain ⟨⟨c0, c1⟩, _, _, ⟨s0, s1⟩, _⟩ := hk
    unfold shownL i64r
    (repeat' split) <;> omega)
  have hU := fun W => utf_Put (shownL k) W
  have hcv := conv_run k.text
  have hfr := foldL_range (shownL k)
  have hand := and_four k.mods h0 h1
  have DOOR := Lib.hid (fun l tm W hl B hB hW hv hr => ahead_door k l Tryd.f45 tm w W h0 h1 hl B hB hW hv hr)
  have HX := Lib.hid (show textL2 k = aheadL k.mods (textRaw k) from rfl)
  have HR := Lib.hid (show textRaw k = if hasB k.mods 4 = false ∧ k.text ≠ [] then k.text else if (foldL (shownL k)).2 && hasB k.mods 4 then [UInt8.ofNat (foldL (shownL k)).1.toNat] else toU8 (putL (shownL k)) from rfl)
  obtain ⟨S, hSe⟩ : ∃ S, shownL k = S := ⟨_, rfl⟩
  rw [hSe] at hS hF hU hfr HR
  obtain ⟨f, b, hfb⟩ : ∃ f b, foldL S = (f, b) := ⟨_, _, rfl⟩
  rw [hfb] at hF hfr HR
  simp only at hF hfr HR
  rw [HX.out]
  obtain ⟨R, hRe⟩ : ∃ R, textRaw k = R := ⟨_, rfl⟩
  rw [hRe] at HR ⊢
  clear hSe hfb hRe HX
  obtain ⟨code, mods, typ, sh, base, text⟩ := k
  obtain ⟨m1, m2, m3, m4, m5, m6, m7, m8, m9, m10⟩ := m
  obtain ⟨x1, x2, x3, x4, x5⟩ := x
  unfold KeyD.v at *
  unfold ModesD.v EntryD.v
  simp only at *
  clear hk
  have HS := Lib.hid hS
  have HF := Lib.hid hF
  have HU := Lib.hid hU
  clear hS hF hU
  cases hh : hasB mods 4
  · rw [hh] at hand HR
    have HH := Lib.hid hh
    clear hh
    by_cases hte : text = []
    · subst hte
      have HR2 := Lib.hid (show R = toU8 (putL S) from by rw [HR.out, if_neg (by simp), if_neg (by simp)])
      cases b
      all_goals
        go_enter_defers Tryd.func45, Tryd.ntmps45
        go_wp2_with (first
            | (go_at_call 93; refine (HS.out _).mono ?_; rintro e w1 ⟨rfl, hb1⟩; have hB := hb1; have hx3 := (hB.block (w.heap.size + 1 + 1 + 1) (by simp)).trans (heap_at _ _ _ (by simp)); have cB := Boxed.cell (t := 31) (v := .slice none 0 0) hx3; have fB := Boxed.frozen (t := 31) (v := .slice none 0 0) hx3; have lB := (Array.getElem?_eq_some_iff.1 hx3).1; have HX3 := Lib.hid hx3; clear hx3)
            | (go_at_call 94; refine (HF.out _).mono ?_; rintro e w2 ⟨rfl, hb2⟩; have hB := below_then hB hb2; have hx3 := (hB.block (w.heap.size + 1 + 1 + 1) (by simp)).trans (heap_at _ _ _ (by simp)); have cB := Boxed.cell (t := 31) (v := .slice none 0 0) hx3; have fB := Boxed.frozen (t := 31) (v := .slice none 0 0) hx3; have lB := (Array.getElem?_eq_some_iff.1 hx3).1; have HX3 := Lib.hid hx3; clear hx3)
            | (go_at_call 44; refine (HU.out _).mono ?_; rintro e w3 ⟨v, rfl, hown, hb3⟩; obtain ⟨_, q, d, rfl, _⟩ := own_bytes hown; have hB := below_then hB hb3; have hx3 := (hB.block (w.heap.size + 1 + 1 + 1) (by simp)).trans (heap_at _ _ _ (by simp)); have cB := Boxed.cell (t := 31) (v := .slice none 0 0) hx3; have fB := Boxed.frozen (t := 31) (v := .slice none 0 0) hx3; have lB := (Array.getElem?_eq_some_iff.1 hx3).1; have HX3 := Lib.hid hx3; clear hx3))
        rw [HR2.out]
        refine DOOR.out (toU8 (putL S)) _ _ (by rw [toU8_length]; have := putL_length S; omega) (w.heap.size + 1 + 1 + 1) (by omega) ?_ (own_store HX3.out (BytesR.of_own (base := 0) (e := 5) (n := (putL S).length) ?_)) ?_
        · exact (below_grown4 hB).setCell (p := ⟨w.heap.size + 1 + 1 + 1, _, none⟩) (by simp; omega) _
        · rw [byteCells_u8 _ (putL_range S)]
          exact own_base hown (Nat.zero_le _)
        · intro W' p n c hc
          simp [results, Tryd.results45, go_sem, hc]
    · have hte2 : text.toArray.toList.isEmpty = false := by cases text with | nil => exact absurd rfl hte | cons a l => rfl
      have HR2 := Lib.hid (show R = text from by rw [HR.out, if_pos ⟨rfl, hte⟩])
      have hq1 := conv_cell
      have hq2 := conv_frozen
      go_enter_defers Tryd.func45, Tryd.ntmps45
      go_wp2
      rw [HR2.out]
      refine DOOR.out text _ _ ht (w.heap.size + 1 + 1 + 1) (by omega) ?_ (own_conv (heap_at _ _ _ (by simp)) text _ (by simp)) ?_
      · exact (conv_below (by go_grown) _ _).setCell (p := ⟨w.heap.size + 1 + 1 + 1, _, none⟩) (by simp; omega) _
      · intro W' p n c hc
        simp [results, Tryd.results45, go_sem, hc]
  · rw [hh] at hand HR
    have HH := Lib.hid hh
    clear hh
    cases b
    · have HR2 := Lib.hid (show R = toU8 (putL S) from by rw [HR.out, if_neg (by simp), if_neg (by simp)])
      go_enter_defers Tryd.func45, Tryd.ntmps45
      go_wp2_with (first
          | (go_at_call 93; refine (HS.out _).mono ?_; rintro e w1 ⟨rfl, hb1⟩; have hB := hb1; have hx3 := (hB.block (w.heap.size + 1 + 1 + 1) (by simp)).trans (heap_at _ _ _ (by simp)); have cB := Boxed.cell (t := 31) (v := .slice none 0 0) hx3; have fB := Boxed.frozen (t := 31) (v := .slice none 0 0) hx3; have lB := (Array.getElem?_eq_some_iff.1 hx3).1; have HX3 := Lib.hid hx3; clear hx3)
          | (go_at_call 94; refine (HF.out _).mono ?_; rintro e w2 ⟨rfl, hb2⟩; have hB := below_then hB hb2; have hx3 := (hB.block (w.heap.size + 1 + 1 + 1) (by simp)).trans (heap_at _ _ _ (by simp)); have cB := Boxed.cell (t := 31) (v := .slice none 0 0) hx3; have fB := Boxed.frozen (t := 31) (v := .slice none 0 0) hx3; have lB := (Array.getElem?_eq_some_iff.1 hx3).1; have HX3 := Lib.hid hx3; clear hx3)
          | (go_at_call 44; refine (HU.out _).mono ?_; rintro e w3 ⟨v, rfl, hown, hb3⟩; obtain ⟨_, q, d, rfl, _⟩ := own_bytes hown; have hB := below_then hB hb3; have hx3 := (hB.block (w.heap.size + 1 + 1 + 1) (by simp)).trans (heap_at _ _ _ (by simp)); have cB := Boxed.cell (t := 31) (v := .slice none 0 0) hx3; have fB := Boxed.frozen (t := 31) (v := .slice none 0 0) hx3; have lB := (Array.getElem?_eq_some_iff.1 hx3).1; have HX3 := Lib.hid hx3; clear hx3))
      rw [HR2.out]
      refine DOOR.out (toU8 (putL S)) _ _ (by rw [toU8_length]; have := putL_length S; omega) (w.heap.size + 1 + 1 + 1) (by omega) ?_ (own_store HX3.out (BytesR.of_own (base := 0) (e := 5) (n := (putL S).length) ?_)) ?_
      · exact (below_grown4 hB).setCell (p := ⟨w.heap.size + 1 + 1 + 1, _, none⟩) (by simp; omega) _
      · rw [byteCells_u8 _ (putL_range S)]
        exact own_base hown (Nat.zero_le _)
      · intro W' p n c hc
        simp [results, Tryd.results45, go_sem, hc]
    · have HR2 := Lib.hid (show R = [UInt8.ofNat f.toNat] from by rw [HR.out, if_neg (by simp), if_pos (by simp)])
      obtain ⟨f0, f1⟩ := hfr
      go_enter_defers Tryd.func45, Tryd.ntmps45
      go_wp2_with (first
          | (go_at_call 93; refine (HS.out _).mono ?_; rintro e w1 ⟨rfl, hb1⟩; have hB := hb1; have hx3 := (hB.block (w.heap.size + 1 + 1 + 1) (by simp)).trans (heap_at _ _ _ (by simp)); have cB := Boxed.cell (t := 31) (v := .slice none 0 0) hx3; have fB := Boxed.frozen (t := 31) (v := .slice none 0 0) hx3; have lB := (Array.getElem?_eq_some_iff.1 hx3).1; have HX3 := Lib.hid hx3; clear hx3)
          | (go_at_call 94; refine (HF.out _).mono ?_; rintro e w2 ⟨rfl, hb2⟩; have hB := below_then hB hb2; have hx3 := (hB.block (w.heap.size + 1 + 1 + 1) (by simp)).trans (heap_at _ _ _ (by simp)); have cB := Boxed.cell (t := 31) (v := .slice none 0 0) hx3; have fB := Boxed.frozen (t := 31) (v := .slice none 0 0) hx3; have lB := (Array.getElem?_eq_some_iff.1 hx3).1; have HX3 := Lib.hid hx3; clear hx3)
          | (go_at_call 44; refine (HU.out _).mono ?_; rintro e w3 ⟨v, rfl, hown, hb3⟩; obtain ⟨_, q, d, rfl, _⟩ := own_bytes hown; have hB := below_then hB hb3; have hx3 := (hB.block (w.heap.size + 1 + 1 + 1) (by simp)).trans (heap_at _ _ _ (by simp)); have cB := Boxed.cell (t := 31) (v := .slice none 0 0) hx3; have fB := Boxed.frozen (t := 31) (v := .slice none 0 0) hx3; have lB := (Array.getElem?_eq_some_iff.1 hx3).1; have HX3 := Lib.hid hx3; clear hx3))
      rw [HR2.out]
      refine DOOR.out [UInt8.ofNat f.toNat] _ _ (by simp) (w.heap.size + 1 + 1 + 1) (by omega) ?_ ?_ ?_
      · exact ((below_grown4 hB).setCell (p := ⟨w.heap.size + 1 + 1 + 1, _, none⟩) (by simp; omega) _).alloc (by have := hB.size; simp at this ⊢; omega) _
      · exact own_one HX3.out f f0 f1
      · intro W' p n c hc
        simp [results, Tryd.results45, go_sem, hc]
end Go.Proofs.YtieppcjpbjefkaaDoor

/- Keys and modes as a call's arguments: what they read as. -/
namespace Go.Proofs.YtieppcjpbjefkaaDoor
open Go.RowKit Go.Proofs Go.ChangeShapes Go.WideShapes Go.ChangeAt
open Go.ChangeMaps (open_string shut_string)

def KeyD.dat (k : KeyD) {H : Type} : DataW H := .agg [.lit (.int .i64 k.code), .lit (.int .i64 k.mods), .lit (.int .i64 k.typ), .lit (.int .i64 k.shifted), .lit (.int .i64 k.base), .lit (.string k.text)]
def ModesD.dat (m : ModesD) {H : Type} : DataW H := .agg [.lit (.bool m.cursor), .lit (.bool m.keypad), .lit (.bool m.back), .lit (.bool m.focus), .lit (.bool m.paste), .lit (.bool m.lock), .lit (.bool m.line), .lit (.int .i64 m.mouse), .lit (.int .i64 m.coding), .lit (.int .i64 m.other)]
structure ModesD.wf (m : ModesD) : Prop where
  mouse : i64r m.mouse
  coding : i64r m.coding
  other : i64r m.other
theorem i64r_of {n : Int} (h : (Lit.int .i64 n).wf = true) : i64r n := bounds_i64 h
theorem wf_of_i64r {n : Int} (h : i64r n) : (Lit.int .i64 n).wf = true := by
  obtain ⟨h1, h2⟩ := h
  have e1 : IntKind.i64.min = -9223372036854775808 := by decide
  have e2 : IntKind.i64.max = 9223372036854775807 := by decide
  simp only [Lit.wf, Bool.and_eq_true, decide_eq_true_eq]
  omega
theorem cells_int : Tryd.prog.cellsOf 3 = 1 := by kernel_rfl
theorem cells_bool : Tryd.prog.cellsOf 4 = 1 := by kernel_rfl
theorem cells_string : Tryd.prog.cellsOf 9 = 1 := by kernel_rfl
theorem cells_key : Tryd.prog.cellsOf 25 = 6 := by kernel_rfl
theorem cells_modes : Tryd.prog.cellsOf 23 = 10 := by kernel_rfl
theorem array6 {α : Type} {cs : Array α} (h : cs.size = 6) : ∃ a b c d e f, cs = #[a, b, c, d, e, f] := by
  obtain ⟨l⟩ := cs
  match l, h with
  | [a, b, c, d, e, f], _ => exact ⟨a, b, c, d, e, f, rfl⟩
theorem array10 {α : Type} {cs : Array α} (h : cs.size = 10) : ∃ a b c d e f g i j k, cs = #[a, b, c, d, e, f, g, i, j, k] := by
  obtain ⟨l⟩ := cs
  match l, h with
  | [a, b, c, d, e, f, g, i, j, k], _ => exact ⟨a, b, c, d, e, f, g, i, j, k, rfl⟩
theorem list6 {α : Type} {cs : List α} (h : cs.length = 6) : ∃ a b c d e f, cs = [a, b, c, d, e, f] := by
  match cs, h with
  | [a, b, c, d, e, f], _ => exact ⟨a, b, c, d, e, f, rfl⟩
theorem list10 {α : Type} {cs : List α} (h : cs.length = 10) : ∃ a b c d e f g i j k, cs = [a, b, c, d, e, f, g, i, j, k] := by
  match cs, h with
  | [a, b, c, d, e, f, g, i, j, k], _ => exact ⟨a, b, c, d, e, f, g, i, j, k, rfl⟩
section
variable {H : Type} {enc : TypeId × Value → H} {W : World}
theorem trod_i {base : Nat} {spare : Nat → Bool} {held : Bool} {n : Nat} {v : Value} {y : DataW H × List MemPlace} (h : DataW.trod enc Tryd.prog W base spare held n 3 [v] = some y) : ∃ x, v = .int .i64 x ∧ y = (.lit (.int .i64 x), []) ∧ i64r x := by
  obtain ⟨x, h1, h2, h3⟩ := DataW.trod_int Tryd.underlying3 h
  exact ⟨x, by simpa using h1, h2, i64r_of h3⟩
theorem trod_b {base : Nat} {spare : Nat → Bool} {held : Bool} {n : Nat} {v : Value} {y : DataW H × List MemPlace} (h : DataW.trod enc Tryd.prog W base spare held n 4 [v] = some y) : ∃ x, v = .bool x ∧ y = (.lit (.bool x), []) := by
  obtain ⟨x, h1, h2⟩ := DataW.trod_bool Tryd.underlying4 h
  exact ⟨x, by simpa using h1, h2⟩
theorem trod_s {base : Nat} {spare : Nat → Bool} {held : Bool} {n : Nat} {v : Value} {y : DataW H × List MemPlace} (h : DataW.trod enc Tryd.prog W base spare held n 9 [v] = some y) : ∃ x : List UInt8, v = .string ⟨x.toArray⟩ ∧ y = (.lit (.string x), []) ∧ x.length ≤ maxLen := by
  obtain ⟨x, h1, h2, h3⟩ := DataW.trod_string Tryd.underlying9 h
  refine ⟨x.data.toList, by simpa using h1, h2, ?_⟩
  rw [Array.length_toList]
  exact h3

set_option maxRecDepth 100000 in
theorem open_key {r : Reach} {b0 base : Nat} {spare : Nat → Bool} {held : Bool} {v : Value} {d : DataW H} {p : List MemPlace} (hv : Value.okWide Tryd.prog W r b0 25 v) (h : DataW.Trod enc Tryd.prog W base spare held 25 v d p) :
    ∃ k : KeyD, v = k.v ∧ d = k.dat ∧ p = [] ∧ k.wf ∧ k.text.length ≤ maxLen := by
  obtain ⟨cs, rfl, hsz⟩ := okWide_struct Tryd.underlying25 hv
  obtain ⟨c0, c1, c2, c3, c4, c5, rfl⟩ := array6 (by rw [hsz, cells_key])
  obtain ⟨fuel, hf⟩ := h
  obtain ⟨xs, n, _, hx, hl, hlen, hf⟩ := DataW.trod_struct Tryd.underlying25 hf
  obtain ⟨x0, x1, x2, x3, x4, x5, rfl⟩ := list6 hlen
  have h0 := hf 0 _ rfl
  have h1 := hf 1 _ rfl
  have h2 := hf 2 _ rfl
  have h3 := hf 3 _ rfl
  have h4 := hf 4 _ rfl
  have h5 := hf 5 _ rfl
  simp [cells_int, cells_string, Value.cells] at h0 h1 h2 h3 h4 h5
  obtain ⟨y0, rfl, rfl, w0⟩ := trod_i h0
  obtain ⟨y1, rfl, rfl, w1⟩ := trod_i h1
  obtain ⟨y2, rfl, rfl, w2⟩ := trod_i h2
  obtain ⟨y3, rfl, rfl, w3⟩ := trod_i h3
  obtain ⟨y4, rfl, rfl, w4⟩ := trod_i h4
  obtain ⟨y5, rfl, rfl, w5⟩ := trod_s h5
  simp at hx
  exact ⟨⟨y0, y1, y2, y3, y4, y5⟩, rfl, hx.1, hx.2, ⟨w0, w1, w2, w3, w4⟩, w5⟩
set_option maxRecDepth 100000 in
theorem open_modes {r : Reach} {b0 base : Nat} {spare : Nat → Bool} {held : Bool} {v : Value} {d : DataW H} {p : List MemPlace} (hv : Value.okWide Tryd.prog W r b0 23 v) (h : DataW.Trod enc Tryd.prog W base spare held 23 v d p) :
    ∃ m : ModesD, v = m.v ∧ d = m.dat ∧ p = [] ∧ m.wf := by
  obtain ⟨cs, rfl, hsz⟩ := okWide_struct Tryd.underlying23 hv
  obtain ⟨c0, c1, c2, c3, c4, c5, c6, c7, c8, c9, rfl⟩ := array10 (by rw [hsz, cells_modes])
  obtain ⟨fuel, hf⟩ := h
  obtain ⟨xs, n, _, hx, hl, hlen, hf⟩ := DataW.trod_struct Tryd.underlying23 hf
  obtain ⟨x0, x1, x2, x3, x4, x5, x6, x7, x8, x9, rfl⟩ := list10 hlen
  have h0 := hf 0 _ rfl
  have h1 := hf 1 _ rfl
  have h2 := hf 2 _ rfl
  have h3 := hf 3 _ rfl
  have h4 := hf 4 _ rfl
  have h5 := hf 5 _ rfl
  have h6 := hf 6 _ rfl
  have h7 := hf 7 _ rfl
  have h8 := hf 8 _ rfl
  have h9 := hf 9 _ rfl
  simp [cells_int, cells_bool, Value.cells] at h0 h1 h2 h3 h4 h5 h6 h7 h8 h9
  obtain ⟨y0, rfl, rfl⟩ := trod_b h0
  obtain ⟨y1, rfl, rfl⟩ := trod_b h1
  obtain ⟨y2, rfl, rfl⟩ := trod_b h2
  obtain ⟨y3, rfl, rfl⟩ := trod_b h3
  obtain ⟨y4, rfl, rfl⟩ := trod_b h4
  obtain ⟨y5, rfl, rfl⟩ := trod_b h5
  obtain ⟨y6, rfl, rfl⟩ := trod_b h6
  obtain ⟨y7, rfl, rfl, w7⟩ := trod_i h7
  obtain ⟨y8, rfl, rfl, w8⟩ := trod_i h8
  obtain ⟨y9, rfl, rfl, w9⟩ := trod_i h9
  simp at hx
  exact ⟨⟨y0, y1, y2, y3, y4, y5, y6, y7, y8, y9⟩, rfl, hx.1, hx.2, ⟨w7, w8, w9⟩⟩
theorem shut_i {base : Nat} {spare : Nat → Bool} {held : Bool} (n : Nat) {x : Int} (h : i64r x) : DataW.trod enc Tryd.prog W base spare held (n + 1) 3 [.int .i64 x] = some (.lit (.int .i64 x), []) := by
  simp [DataW.trod, Tryd.underlying3, wf_of_i64r h]
theorem shut_b {base : Nat} {spare : Nat → Bool} {held : Bool} (n : Nat) (x : Bool) : DataW.trod enc Tryd.prog W base spare held (n + 1) 4 [.bool x] = some (.lit (.bool x), []) := by
  simp [DataW.trod, Tryd.underlying4]
theorem shut_s {base : Nat} {spare : Nat → Bool} {held : Bool} (n : Nat) {x : List UInt8} (h : x.length ≤ maxLen) : DataW.trod enc Tryd.prog W base spare held (n + 1) 9 [.string ⟨x.toArray⟩] = some (.lit (.string x), []) := by
  have : (⟨x.toArray⟩ : ByteArray).size ≤ maxLen := by simpa [ByteArray.size] using h
  simp [DataW.trod, Tryd.underlying9, this]
theorem shut_key {base : Nat} {spare : Nat → Bool} {held : Bool} {k : KeyD} (hw : k.wf) (ht : k.text.length ≤ maxLen) : DataW.Trod enc Tryd.prog W base spare held 25 k.v k.dat [] := by
  refine ⟨2, ?_⟩
  have := trod_struct_mk (enc := enc) (w := W) (base := base) (spare := spare) (held := held) (n := 1) (cs := [.int .i64 k.code, .int .i64 k.mods, .int .i64 k.typ, .int .i64 k.shifted, .int .i64 k.base, .string ⟨k.text.toArray⟩])
    (xs := [(.lit (.int .i64 k.code), []), (.lit (.int .i64 k.mods), []), (.lit (.int .i64 k.typ), []), (.lit (.int .i64 k.shifted), []), (.lit (.int .i64 k.base), []), (.lit (.string k.text), [])]) Tryd.underlying25 (by simp [cells_key])
    (by simp [cells_int, cells_string, shut_i 0 hw.code, shut_i 0 hw.mods, shut_i 0 hw.typ, shut_i 0 hw.shifted, shut_i 0 hw.base, shut_s 0 ht])
  simpa [Value.cells, KeyD.v, KeyD.dat] using this
theorem shut_modes {base : Nat} {spare : Nat → Bool} {held : Bool} {m : ModesD} (hw : m.wf) : DataW.Trod enc Tryd.prog W base spare held 23 m.v m.dat [] := by
  refine ⟨2, ?_⟩
  have := trod_struct_mk (enc := enc) (w := W) (base := base) (spare := spare) (held := held) (n := 1) (cs := [.bool m.cursor, .bool m.keypad, .bool m.back, .bool m.focus, .bool m.paste, .bool m.lock, .bool m.line, .int .i64 m.mouse, .int .i64 m.coding, .int .i64 m.other])
    (xs := [(.lit (.bool m.cursor), []), (.lit (.bool m.keypad), []), (.lit (.bool m.back), []), (.lit (.bool m.focus), []), (.lit (.bool m.paste), []), (.lit (.bool m.lock), []), (.lit (.bool m.line), []), (.lit (.int .i64 m.mouse), []), (.lit (.int .i64 m.coding), []), (.lit (.int .i64 m.other), [])]) Tryd.underlying23 (by simp [cells_modes])
    (by simp [cells_int, cells_bool, shut_b, shut_i 0 hw.mouse, shut_i 0 hw.coding, shut_i 0 hw.other])
  simpa [Value.cells, ModesD.v, ModesD.dat] using this
end
/-- the post of a call that leaves what was there as it was -/
theorem post_of_below {H : Type} {enc : TypeId × Value → H} {P : Program} {f : Func} {s : ChangeSpec} {ap fresh handsOn again : Bool} {W W' : World} {args : Array Value} {v : Value} {ds gs : List (DataW H)} {before pa pv : List MemPlace}
    (hW : DataW.Whole enc P f.params.toList s.vars ap W args.toList ds gs before)
    (hres : ∀ (b : Nat) (sp : Nat → Bool) (hd : Bool), DataW.TrodAll enc P W' b sp hd f.resultTypes.toList (v.resultList f.resultTypes.size) (s.fn H (ds ++ gs)).results [])
    (hargs : ∀ sp : Nat → Bool, DataW.TrodAll enc P W' 0 sp true f.params.toList args.toList (s.fn H (ds ++ gs)).args pa)
    (hvars : ∀ sp : Nat → Bool, DataW.TrodVars enc P W' sp s.vars (s.fn H (ds ++ gs)).vars pv)
    (hps : before = pa ++ pv) (hb : Below W.heap.size W W')
    (hok : ∀ (j : Nat) (t : TypeId) (r : Value), f.resultTypes[j]? = some t → (v.resultList f.resultTypes.size)[j]? = some r → Value.okWide P W' .any 0 t r) :
    s.post enc P f ap fresh handsOn again W args v W' := by
  have hlt : ∀ p ∈ before, p.block < W.heap.size := fun p hp => hW.lt p hp
  refine ⟨ds, gs, before, [], pa, pv, hW, hres _ _ _, hargs _, hvars _, World.keptBut_mono (fun p hp => ⟨hp, ?_⟩) (hb.frame (· ∈ before)), fun _ => ?_⟩
  · rw [hps, List.mem_append] at hp
    exact Or.inr hp
  · obtain ⟨_, _, _, _, _, hz, hn⟩ := hW
    refine ⟨hok, _, _, ([] ++ pa) ++ pv, ⟨[] ++ pa, pv, trodAll_append (hargs _) (hres _ _ _), hvars _, rfl, ?_, ?_⟩, ?_⟩
    · intro b off hp
      have hp2 : MemPlace.cell b off ∈ before := by rw [hps]; simpa using hp
      rw [hb.frozen (p := ⟨b, off, none⟩) (hlt _ hp2)]
      exact hz b off hp2
    · intro ha
      have := hn ha
      rw [hps] at this
      simpa using this
    · intro p hp _
      rw [hps]
      simpa using hp
end Go.Proofs.YtieppcjpbjefkaaDoor

/- What the rows' lists of tables give, and a world that holds them. -/
namespace Go.Proofs.YtieppcjpbjefkaaDoor
open Go.ChangeShapes Go.WideShapes Go.ChangeAt Go.RowKit
open Go.ChangeMaps (open_string shut_string)

theorem own : ownKnob Tryd.prog.godebug = none := by kernel_rfl
theorem gTab : Tryd.prog.globalNamed "internal/strconv.uint64pow10" = some 3 := by kernel_rfl
theorem gTabType : (Tryd.prog.globals[3]?).map (·.type) = some 195 := by kernel_rfl
theorem cellsTab : Tryd.prog.cellsOf 195 = 20 := by kernel_rfl
theorem cellsU64 : Tryd.prog.cellsOf 185 = 1 := by kernel_rfl
theorem tabOk_of {W : World} {x y : String × DataW Unit} {rest : List (String × DataW Unit)} (h : laidMet Tryd.prog (x :: y :: ("internal/strconv.uint64pow10", Rows.laid_internal_strconv_uint64pow10) :: rest) W) : TabOk W :=
  Lib.tabIs_of_head gTab gTabType Tryd.underlying195 Tryd.underlying185 cellsU64 cellsTab (laidMet.tail (laidMet.tail h))
/-- A world for a witness: the settled one, the tables as their initialisers lay them. -/
def layAs (cs : Array Value) : Obj → Obj
  | .cells _ t fr => .cells cs t fr
  | o => o
noncomputable def laidWorld (os : Os) : World :=
  { World.holding Tryd.prog os ⟨#[], #[], []⟩ with heap := (((World.holding Tryd.prog os ⟨#[], #[], []⟩).heap.modify 3 (layAs #[.int .u64 1, .int .u64 10, .int .u64 100, .int .u64 1000, .int .u64 10000, .int .u64 100000, .int .u64 1000000, .int .u64 10000000, .int .u64 100000000, .int .u64 1000000000, .int .u64 10000000000, .int .u64 100000000000, .int .u64 1000000000000, .int .u64 10000000000000, .int .u64 100000000000000, .int .u64 1000000000000000, .int .u64 10000000000000000, .int .u64 100000000000000000, .int .u64 1000000000000000000, .int .u64 10000000000000000000])).modify 4 (layAs #[.int .u8 0, .int .u8 1, .int .u8 28, .int .u8 2, .int .u8 29, .int .u8 14, .int .u8 24, .int .u8 3, .int .u8 30, .int .u8 22, .int .u8 20, .int .u8 15, .int .u8 25, .int .u8 17, .int .u8 4, .int .u8 8, .int .u8 31, .int .u8 27, .int .u8 13, .int .u8 23, .int .u8 21, .int .u8 19, .int .u8 16, .int .u8 7, .int .u8 26, .int .u8 12, .int .u8 18, .int .u8 6, .int .u8 11, .int .u8 5, .int .u8 10, .int .u8 9])).modify 5 (layAs #[.int .u8 0, .int .u8 1, .int .u8 56, .int .u8 2, .int .u8 57, .int .u8 49, .int .u8 28, .int .u8 3, .int .u8 61, .int .u8 58, .int .u8 42, .int .u8 50, .int .u8 38, .int .u8 29, .int .u8 17, .int .u8 4, .int .u8 62, .int .u8 47, .int .u8 59, .int .u8 36, .int .u8 45, .int .u8 43, .int .u8 51, .int .u8 22, .int .u8 53, .int .u8 39, .int .u8 33, .int .u8 30, .int .u8 24, .int .u8 18, .int .u8 12, .int .u8 5, .int .u8 63, .int .u8 55, .int .u8 48, .int .u8 27, .int .u8 60, .int .u8 41, .int .u8 37, .int .u8 16, .int .u8 46, .int .u8 35, .int .u8 44, .int .u8 21, .int .u8 52, .int .u8 32, .int .u8 23, .int .u8 11, .int .u8 54, .int .u8 26, .int .u8 40, .int .u8 15, .int .u8 34, .int .u8 20, .int .u8 31, .int .u8 10, .int .u8 25, .int .u8 14, .int .u8 19, .int .u8 9, .int .u8 13, .int .u8 8, .int .u8 7, .int .u8 6]) }
end Go.Proofs.YtieppcjpbjefkaaDoor

/- The reference of code points: what its printed functions tell. -/
namespace Go.Proofs.YtieppcjpbjefkaaDoor
open Go.RowKit Go.Proofs
open Go.Proofs.YtieppcjpbjefkaaDoorW.PrintWords (rd)

theorem refIs (r : Int) : PAll.clavierref02_Is.f r = some (isB r) := by
  unfold PAll.clavierref02_Is.f isB
  by_cases h1 : 0 ≤ r
  · rw [if_pos h1]
    by_cases h2 : r ≤ 1114111
    · rw [if_pos h2]
      by_cases h3 : r < 55296
      · rw [if_pos h3]; simp [h1, h2, h3]
      · rw [if_neg h3]; simp [h1, h2, h3]
    · rw [if_neg h2]; simp [h2]
  · rw [if_neg h1]; simp [h1]
theorem refPut (r : Int) : PAll.clavierref02_Put.f r = some (putL r) := by
  unfold PAll.clavierref02_Put.f putL
  rw [refIs]
  simp only [Option.bind_some]
  cases hb : isB r
  · simp
  · have h : 0 ≤ r ∧ r ≤ 1114111 := by simp [isB] at hb; omega
    obtain ⟨h0, h1⟩ := h
    simp only [if_true, Int.tdiv_eq_ediv_of_nonneg h0, Int.tmod_eq_emod_of_nonneg h0]
    by_cases c1 : r < 128
    · rw [if_pos c1, if_pos (show r ≤ 127 by omega)]
      have : r % 256 = r := by omega
      rw [this]
    rw [if_neg c1, if_neg (show ¬ r ≤ 127 by omega)]
    have e1 : ∀ d : Int, 0 ≤ d → wrap64 (r / 64) = r / 64 := fun d _ => by unfold wrap64; omega
    have e2 : wrap64 (r / 4096) = r / 4096 := by unfold wrap64; omega
    have e3 : wrap64 (r / 262144) = r / 262144 := by unfold wrap64; omega
    rw [e1 0 (by omega), e2, e3, Int.tmod_eq_emod_of_nonneg (by omega : 0 ≤ r / 64), Int.tmod_eq_emod_of_nonneg (by omega : 0 ≤ r / 4096)]
    have f1 : wrap64 (192 + r / 64) = 192 + r / 64 := by unfold wrap64; omega
    have f2 : wrap64 (128 + r % 64) = 128 + r % 64 := by unfold wrap64; omega
    have f3 : wrap64 (128 + r / 64 % 64) = 128 + r / 64 % 64 := by unfold wrap64; omega
    have f4 : wrap64 (128 + r / 4096 % 64) = 128 + r / 4096 % 64 := by unfold wrap64; omega
    have f5 : wrap64 (224 + r / 4096) = 224 + r / 4096 := by unfold wrap64; omega
    have f6 : wrap64 (240 + r / 262144) = 240 + r / 262144 := by unfold wrap64; omega
    by_cases c2 : r < 2048
    · rw [if_pos c2, if_pos (show r ≤ 2047 by omega)]
      have g1 : (192 + r / 64) % 256 = 192 + r / 64 := by omega
      have g2 : (128 + r % 64) % 256 = 128 + r % 64 := by omega
      rw [f1, f2, g1, g2]
    rw [if_neg c2, if_neg (show ¬ r ≤ 2047 by omega)]
    have g2 : (128 + r % 64) % 256 = 128 + r % 64 := by omega
    have g3 : (128 + r / 64 % 64) % 256 = 128 + r / 64 % 64 := by omega
    by_cases c3 : r < 65536
    · rw [if_pos c3, if_pos (show r ≤ 65535 by omega)]
      have g1 : (224 + r / 4096) % 256 = 224 + r / 4096 := by omega
      rw [f5, f3, f2, g1, g2, g3]
    · rw [if_neg c3, if_neg (show ¬ r ≤ 65535 by omega)]
      have g1 : (240 + r / 262144) % 256 = 240 + r / 262144 := by omega
      have g4 : (128 + r / 4096 % 64) % 256 = 128 + r / 4096 % 64 := by omega
      rw [f6, f4, f3, f2, g1, g2, g3, g4]

theorem strNums_inj {a b : List Int} (ha : ∀ x, x ∈ a → 0 ≤ x ∧ x < 256) (hb : ∀ x, x ∈ b → 0 ≤ x ∧ x < 256) : toU8 a = toU8 b ↔ a = b := by
  constructor
  · intro h
    have h2 : Lib.byteCells (toU8 a) = Lib.byteCells (toU8 b) := by rw [h]
    rw [byteCells_u8 a ha, byteCells_u8 b hb] at h2
    unfold nums at h2
    exact (List.map_inj_right (fun x y e => by injection e)).1 h2
  · rintro rfl; rfl
theorem toU8_u8s (l : List UInt8) : toU8 (u8s l) = l := by
  unfold toU8 u8s
  rw [List.map_map]
  conv => rhs; rw [← List.map_id l]
  refine List.map_congr_left fun x _ => ?_
  simp
theorem u8s_mem (l : List UInt8) : ∀ x, x ∈ u8s l → 0 ≤ x ∧ x < 256 := fun x hx => by
  obtain ⟨b, _, rfl⟩ := List.mem_map.1 hx
  have := b.toNat_lt
  omega

/-- the number that so many bytes might be of -/
def guessL (bs : List Int) (k : Nat) : Int :=
  match k with
  | 0 => bs.getD 0 0
  | 1 => (bs.getD 0 0 - 192) % 256 * 64 + (bs.getD 1 0 - 128) % 256
  | 2 => (bs.getD 0 0 - 224) % 256 * 4096 + (bs.getD 1 0 - 128) % 256 * 64 + (bs.getD 2 0 - 128) % 256
  | _ => (bs.getD 0 0 - 240) % 256 * 262144 + (bs.getD 1 0 - 128) % 256 * 4096 + (bs.getD 2 0 - 128) % 256 * 64 + (bs.getD 3 0 - 128) % 256
theorem refGuess (bs : List Int) (k : Nat) (hk : k < 4) (hl : k + 1 ≤ bs.length) (hb : ∀ i, 0 ≤ bs.getD i 0 ∧ bs.getD i 0 < 256) : PAll.clavierref02_guess.f bs (k + 1 : Nat) = some (guessL bs k) := by
  unfold PAll.clavierref02_guess.f
  match k, hk with
  | 0, _ =>
    rw [if_pos (by omega), if_pos (by omega)]
    simp only [guessL, rd]
    have := hb 0
    congr 1
    show wrap64 (bs.getD 0 0) = _
    unfold wrap64
    omega
  | 1, _ =>
    rw [if_neg (by omega), if_pos (by omega), if_pos (by omega), if_pos (by omega)]
    rfl
  | 2, _ =>
    rw [if_neg (by omega), if_neg (by omega), if_pos (by omega), if_pos (by omega), if_pos (by omega), if_pos (by omega)]
    rfl
  | 3, _ =>
    rw [if_neg (by omega), if_neg (by omega), if_neg (by omega), if_pos (by omega), if_pos (by omega), if_pos (by omega), if_pos (by omega)]
    rfl

theorem take_getD (bs : List Int) (k : Nat) (hl : k + 1 ≤ bs.length) : bs.take (k + 1) = (List.range (k + 1)).map fun i => bs.getD i 0 := by
  apply List.ext_getElem
  · simp; omega
  · intro i h1 h2
    simp at h1 h2
    rw [List.getElem_take, List.getElem_map, List.getElem_range, List.getD_eq_getElem?_getD, List.getElem?_eq_getElem (by omega)]
    rfl
theorem putL_len (r : Int) : (putL r).length = if isB r then (if r ≤ 127 then 1 else if r ≤ 2047 then 2 else if r ≤ 65535 then 3 else 4) else 0 := by
  unfold putL
  cases isB r
  · simp
  · simp only [if_true]
    split
    · simp
    split
    · simp
    split <;> simp
theorem isB_range {r : Int} (h : isB r = true) : 0 ≤ r ∧ r ≤ 1114111 := by simp [isB] at h; omega

/-- what bytes that are a point's say of it -/
def Eqs (bs : List Int) (k : Nat) (r : Int) : Prop :=
  match k with
  | 0 => r ≤ 127 ∧ bs.getD 0 0 = r
  | 1 => 128 ≤ r ∧ r ≤ 2047 ∧ bs.getD 0 0 = 192 + r / 64 ∧ bs.getD 1 0 = 128 + r % 64
  | 2 => 2048 ≤ r ∧ r ≤ 65535 ∧ bs.getD 0 0 = 224 + r / 4096 ∧ bs.getD 1 0 = 128 + r / 64 % 64 ∧ bs.getD 2 0 = 128 + r % 64
  | _ => 65536 ≤ r ∧ bs.getD 0 0 = 240 + r / 262144 ∧ bs.getD 1 0 = 128 + r / 4096 % 64 ∧ bs.getD 2 0 = 128 + r / 64 % 64 ∧ bs.getD 3 0 = 128 + r % 64
theorem put_eqs (bs : List Int) (k : Nat) (r : Int) (hk : k < 4) (hl : k + 1 ≤ bs.length) (h : putL r = bs.take (k + 1)) : (0 ≤ r ∧ r ≤ 1114111) ∧ Eqs bs k r := by
  have hlen : (putL r).length = k + 1 := by rw [h, List.length_take]; omega
  rw [putL_len] at hlen
  have hb : isB r = true := by
    cases hb : isB r
    · rw [hb] at hlen; simp at hlen
    · rfl
  rw [hb, if_pos rfl] at hlen
  have hr := isB_range hb
  refine ⟨hr, ?_⟩
  rw [take_getD bs k hl] at h
  unfold putL at h
  rw [if_pos hb] at h
  match k, hk with
  | 0, _ =>
    have h1 : r ≤ 127 := by (repeat' split at hlen) <;> omega
    rw [if_pos h1] at h
    simp [List.range_succ] at h
    exact ⟨h1, by simpa [List.getD_eq_getElem?_getD] using h.symm⟩
  | 1, _ =>
    have h1 : ¬ r ≤ 127 ∧ r ≤ 2047 := by (repeat' split at hlen) <;> omega
    rw [if_neg h1.1, if_pos h1.2] at h
    simp [List.range_succ] at h
    exact ⟨by omega, h1.2, by simpa [List.getD_eq_getElem?_getD] using h.1.symm, by simpa [List.getD_eq_getElem?_getD] using h.2.symm⟩
  | 2, _ =>
    have h1 : ¬ r ≤ 127 ∧ ¬ r ≤ 2047 ∧ r ≤ 65535 := by (repeat' split at hlen) <;> omega
    rw [if_neg h1.1, if_neg h1.2.1, if_pos h1.2.2] at h
    simp [List.range_succ] at h
    exact ⟨by omega, h1.2.2, by simpa [List.getD_eq_getElem?_getD] using h.1.symm, by simpa [List.getD_eq_getElem?_getD] using h.2.1.symm, by simpa [List.getD_eq_getElem?_getD] using h.2.2.symm⟩
  | 3, _ =>
    have h1 : ¬ r ≤ 127 ∧ ¬ r ≤ 2047 ∧ ¬ r ≤ 65535 := by (repeat' split at hlen) <;> omega
    rw [if_neg h1.1, if_neg h1.2.1, if_neg h1.2.2] at h
    simp [List.range_succ] at h
    exact ⟨by omega, by simpa [List.getD_eq_getElem?_getD] using h.1.symm, by simpa [List.getD_eq_getElem?_getD] using h.2.1.symm, by simpa [List.getD_eq_getElem?_getD] using h.2.2.1.symm, by simpa [List.getD_eq_getElem?_getD] using h.2.2.2.symm⟩

/-- what might be is what is -/
theorem eqs_same (bs : List Int) (k : Nat) (r : Int) (hk : k < 4) (h0 : 0 ≤ r ∧ r ≤ 1114111) (h : Eqs bs k r) : guessL bs k = r ∧ decL bs k = r ∧ markL (bs.getD 0 0) k = true := by
  match k, hk with
  | 0, _ =>
    obtain ⟨h1, h2⟩ := h
    simp only [guessL, decL, markL, h2]
    refine ⟨trivial, by omega, by simp; omega⟩
  | 1, _ =>
    obtain ⟨h1, h2, h3, h4⟩ := h
    simp only [guessL, decL, markL, h3, h4]
    refine ⟨by omega, by omega, by simp; omega⟩
  | 2, _ =>
    obtain ⟨h1, h2, h3, h4, h5⟩ := h
    simp only [guessL, decL, markL, h3, h4, h5]
    refine ⟨by omega, by omega, by simp; omega⟩
  | 3, _ =>
    obtain ⟨h1, h3, h4, h5, h6⟩ := h
    simp only [guessL, decL, markL, h3, h4, h5, h6]
    refine ⟨by omega, by omega, by simp; omega⟩
theorem guess_hit (bs : List Int) (k : Nat) (hk : k < 4) (hl : k + 1 ≤ bs.length) (h : putL (guessL bs k) = bs.take (k + 1)) : hitL bs k = true ∧ guessL bs k = decL bs k := by
  obtain ⟨h0, he⟩ := put_eqs bs k _ hk hl h
  obtain ⟨h1, h2, h3⟩ := eqs_same bs k _ hk h0 he
  refine ⟨?_, h2.symm⟩
  unfold hitL
  rw [h2, h3, h]
  simp [hl]
theorem hit_guess (bs : List Int) (k : Nat) (hk : k < 4) (h : hitL bs k = true) : (putL (guessL bs k)).length = k + 1 ∧ putL (guessL bs k) = bs.take (k + 1) := by
  unfold hitL at h
  simp only [Bool.and_eq_true, decide_eq_true_eq, beq_iff_eq] at h
  obtain ⟨hl, _, h⟩ := h
  obtain ⟨h0, he⟩ := put_eqs bs k _ hk hl h
  obtain ⟨h1, h2, h3⟩ := eqs_same bs k _ hk h0 he
  rw [h1, h, List.length_take]
  exact ⟨by omega, rfl⟩
end Go.Proofs.YtieppcjpbjefkaaDoor

/- Contracts of the reference of code points: Take, All. -/
namespace Go.Proofs.YtieppcjpbjefkaaDoor
open Go.RowKit Go.Proofs

theorem u8s_toU8 (l : List Int) (h : ∀ x, x ∈ l → 0 ≤ x ∧ x < 256) : u8s (toU8 l) = l := by
  unfold toU8 u8s
  rw [List.map_map]
  conv => rhs; rw [← List.map_id l]
  refine List.map_congr_left fun x hx => ?_
  obtain ⟨h1, h2⟩ := h x hx
  simp
  omega
/-- string of bytes -/
theorem str_of {W : World} {v : Value} {l : List UInt8} (h : BytesR W v l) : (convert 31 9 v).run Tryd.prog W = .ok (.string ⟨l.toArray⟩) W := by
  obtain ⟨p, c, rfl, _, h⟩ := h
  rcases h with ⟨rfl, rfl, rfl⟩ | ⟨g, o, rfl, hc⟩
  · exact Lib.run_convert_nil_bytes W _ _ 5 0 (by kernel_rfl) (by kernel_rfl) (by kernel_rfl)
  · refine run_convert_bytes_back W _ _ 5 ⟨g, o, none⟩ c l (by kernel_rfl) (by kernel_rfl) (by kernel_rfl) (fun j hj => ?_)
    rw [Go.WideShapes.add_plain]
    exact hc j _ (List.getElem?_eq_getElem hj)
theorem BytesR.take {W : World} {p : Option Addr} {n c : Nat} {l : List UInt8} (h : BytesR W (.slice p n c) l) (k : Nat) (hk : k ≤ n) : BytesR W (.slice p k c) (l.take k) := by
  obtain ⟨p', c', he, h1, h2⟩ := h
  cases he
  have hl : (l.take k).length = k := by rw [List.length_take]; omega
  refine ⟨p, c, by rw [hl], by rw [hl]; omega, h2.imp ?_ ?_⟩
  · rintro ⟨h3, rfl, h4⟩; exact ⟨h3, by simp, h4⟩
  · rintro ⟨g, o, rfl, hc⟩
    exact ⟨g, o, rfl, fun j x hx => hc j x (by
      rw [List.getElem?_take] at hx
      split at hx
      · exact hx
      · cases hx)⟩
theorem BytesR.cells {W : World} {p : Option Addr} {n c : Nat} {l : List UInt8} (h : BytesR W (.slice p n c) l) : n = l.length ∧ n ≤ c ∧ CellsIn W p (nums .u8 (u8s l)) := by
  obtain ⟨p', c', he, h1, h2⟩ := h
  cases he
  refine ⟨rfl, h1, fun h0 => ?_⟩
  rw [nums_length, u8s_length] at h0
  rcases h2 with ⟨_, rfl, _⟩ | ⟨g, o, rfl, hc⟩
  · simp at h0
  · refine ⟨g, o, rfl, fun i v hv => ?_⟩
    simp only [nums, u8s, List.map_map, List.getElem?_map, Option.map_eq_some_iff] at hv
    obtain ⟨x, hx, rfl⟩ := hv
    exact hc i x hx

theorem ref_guess (p : Option Addr) (n c : Nat) (l : List UInt8) (k : Nat) (w : World) (hk : k < 4) (hl : k + 1 ≤ n) (hn : n ≤ 9223372036854775807) (h : BytesR w (.slice p n c) l) :
    Calls Tryd.prog 144 #[.slice p n c, .int .i64 ((k + 1 : Nat) : Int)] w (IntIs w (guessL (u8s l) k)) := by
  obtain ⟨rfl, h1, h2⟩ := h.cells
  have hl' : (u8s l).length = l.length := u8s_length l
  have := PAll.clavierref02_guess.calls p c (u8s l) ((k + 1 : Nat) : Int) (guessL (u8s l) k) w (c_ints h2 (by rw [hl']; exact hn)) (by rw [hl']; exact h1) (refGuess (u8s l) k hk (by rw [hl']; exact hl) (u8s_range l))
  rw [hl'] at this
  refine this.mono ?_
  rintro e w' ⟨rfl, hd⟩
  obtain ⟨q, rfl⟩ := hd.out
  exact ⟨rfl, below_drewN (Below.refl _ _) _⟩
/-- made bytes, as read -/
theorem bytesR_of_R {e base : Nat} {ok : Nat → Prop} {w : World} {v : Value} {l : List Int} (h : Go.Proofs.YtieppcjpbjefkaaDoorW.PrintWords.Kd.R (Go.Proofs.YtieppcjpbjefkaaDoorW.PrintWords.Kd.int .u8) e w base ok v l) (hl : ∀ x, x ∈ l → 0 ≤ x ∧ x < 256) : BytesR w v (toU8 l) := by
  obtain ⟨A, c, rfl, hc, hC⟩ := Go.Proofs.YtieppcjpbjefkaaDoorW.PrintWords.Kd.R_reads h
  obtain ⟨inner, ho⟩ := Go.Proofs.YtieppcjpbjefkaaDoorW.PrintWords.Kd.R_own h
  obtain ⟨_, _, hsp⟩ := own_spot ho
  have hci := of_c_ints hC hsp
  refine ⟨A, c, by rw [toU8_length], by rw [toU8_length]; exact hc, ?_⟩
  by_cases h0 : 0 < l.length
  · obtain ⟨b, o, rfl, hcl⟩ := hci (by rw [nums_length]; exact h0)
    refine .inr ⟨b, o, rfl, fun j x hx => ?_⟩
    refine hcl j _ ?_
    have := congrArg (fun z => z[j]?) (byteCells_u8 l hl)
    simp only [Lib.byteCells, List.getElem?_map, hx, Option.map_some] at this
    rw [← this]
  · have hn : l = [] := List.eq_nil_of_length_eq_zero (by omega)
    subst hn
    rcases ho.2 with ⟨he, _⟩ | ⟨g, cap, cur, he, _⟩
    · cases he
      exact .inl ⟨rfl, rfl, rfl⟩
    · cases he
      exact .inr ⟨g, 0, rfl, fun j x hx => by simp [toU8] at hx⟩
theorem ref_Put (r : Int) (w : World) : Calls Tryd.prog 145 #[.int .i64 r] w (BytesRet w (toU8 (putL r))) :=
  (PAll.clavierref02_Put.calls r (putL r) w (refPut r)).mono fun _ _ ⟨v, he, hR, hb⟩ => ⟨v, he, bytesR_of_R hR (putL_range r), hb⟩

theorem rest_none (bs : List Int) (k : Nat) (hk : k ≤ 4) (h : 4 ≤ k ∨ bs.length ≤ k) : Rest bs k = (0, 0) := by
  have hn : ∀ j, k ≤ j → j < 4 → hitL bs j = false := fun j h1 h2 => by
    unfold hitL
    rw [decide_eq_false (by omega)]
    rfl
  match k, hk with
  | 0, _ => rw [rest_not bs 0 (by omega) (hn 0 (by omega) (by omega)), rest_not bs 1 (by omega) (hn 1 (by omega) (by omega)), rest_not bs 2 (by omega) (hn 2 (by omega) (by omega)), rest_not bs 3 (by omega) (hn 3 (by omega) (by omega))]; rfl
  | 1, _ => rw [rest_not bs 1 (by omega) (hn 1 (by omega) (by omega)), rest_not bs 2 (by omega) (hn 2 (by omega) (by omega)), rest_not bs 3 (by omega) (hn 3 (by omega) (by omega))]; rfl
  | 2, _ => rw [rest_not bs 2 (by omega) (hn 2 (by omega) (by omega)), rest_not bs 3 (by omega) (hn 3 (by omega) (by omega))]; rfl
  | 3, _ => rw [rest_not bs 3 (by omega) (hn 3 (by omega) (by omega))]; rfl
  | 4, _ => rfl

set_option maxRecDepth 100000 in
set_option maxHeartbeats 4000000 in
theorem ref_Take (p : Option Addr) (n c : Nat) (l : List UInt8) (w : World) (hn : n ≤ 1000000000000) (h : BytesR w (.slice p n c) l) :
    Calls Tryd.prog 127 #[.slice p n c] w (TakeIs w (takeL (u8s l))) := by
  obtain ⟨hnl, hnc, _⟩ := h.cells
  have hG := fun k W (hW : Below w.heap.size w W) (hk : k < 4) (hl : k + 1 ≤ n) => ref_guess p n c l k W hk hl (by omega) (h.later hW)
  have hS := fun k W (hW : Below w.heap.size w W) (hk : k ≤ n) => str_of ((h.later hW).take k hk)
  have hul : (u8s l).length = n := by rw [u8s_length, hnl]
  obtain ⟨X, hX⟩ : ∃ X, takeL (u8s l) = X := ⟨_, rfl⟩
  rw [hX]
  have HX := Lib.hid hX
  have HG := Lib.hid hG
  have HS := Lib.hid hS
  have HUL := Lib.hid hul
  have HNL := Lib.hid hnl
  have HH := Lib.hid h
  clear hX hG hS hul hnl h
  go_enter Tryd.func127, Tryd.ntmps127
  go_wp2
  go_loopw [4] (fun t wr => ∃ k : Nat, k ≤ 4 ∧ t = .int .i64 ((k + 1 : Nat) : Int) ∧ Hid (Rest (u8s l) k = X) ∧ Below w.heap.size w wr) (fun t _ => 5 - (intOf t).toNat)
  case atStart => exact ⟨0, by omega, rfl, HX, Below.refl _ _⟩
  case round =>
    obtain ⟨k, hk, rfl, hR, hB⟩ := hrel
    by_cases hgo : k < 4 ∧ k + 1 ≤ n
    case neg =>
      have HV := Lib.hid (show X = (0, 0) from by rw [← hR.out]; exact rest_none _ k hk (by rw [HUL.out]; omega))
      have hnk : (k < 4 ∧ n ≤ k) ∨ k = 4 := by omega
      clear hgo
      rcases hnk with ⟨h4, hnk⟩ | rfl
      all_goals
        go_wp2
        go_ret2
        rw [HV.out]
        exact ⟨rfl, hB⟩
    obtain ⟨h4, hkn⟩ := hgo
    have HG2 := Lib.hid (fun W hW => HG.out k W hW h4 hkn)
    have HP := Lib.hid (fun W => ref_Put (guessL (u8s l) k) W)
    have hpl := putL_length (guessL (u8s l) k)
    obtain ⟨r, hr⟩ : ∃ r, guessL (u8s l) k = r := ⟨_, rfl⟩
    obtain ⟨P, hP⟩ : ∃ P, putL r = P := ⟨_, rfl⟩
    rw [hr] at HG2 HP hpl
    rw [hP] at HP hpl
    have HSk := Lib.hid (fun W hW => HS.out (k + 1) W hW hkn)
    have HQ : Hid (∀ m, (toU8 P).length = m → ∀ W, Calls Tryd.prog 145 #[.int .i64 r] W fun e w' => ∃ q d, e = .returned (.slice q m d) ∧ BytesR w' (.slice q m d) (toU8 P) ∧ Below W.heap.size W w') := Lib.hid (fun m hm W => (HP.out W).mono fun _ _ ⟨v, he, hv, hb⟩ => by
      have hv2 := hv
      obtain ⟨q, d, rfl, _⟩ := hv
      rw [hm] at he hv2
      exact ⟨q, d, he, hv2, hb⟩)
    have hmx : Tryd.prog.follows .mixedOrders = true := by kernel_rfl
    have HR := Lib.hid hr
    have HPP := Lib.hid hP
    clear hr hP HG HP HS
    go_wp2_with (go_at_call 144; refine (HG2.out _ hB).mono ?_; rintro e w1 ⟨rfl, hb1⟩; have hB := below_then hB hb1)
    refine wp_region_noPanic ?_
    refine wp_region_held_drew (S := fun W => Below w.heap.size w W) hmx (below_drewN hB 1) (fun hHeld => ?_)
    refine takeH 0 19 (.int .i64 r) ⟨_, rfl, rfl, by rfl, fun W hW => by go_simp⟩ (by kernel_rfl) (by kernel_rfl) (by kernel_rfl) (fun _ _ _ _ _ h => h) hHeld ?_
    simp only [List.setIfInBounds_toArray, List.set_cons_zero, List.set_cons_succ]
    refine takeH 3 22 (.int .i64 ((k : Int) + 1)) ⟨_, rfl, rfl, by rfl, fun W hW => by go_simp⟩ (by kernel_rfl) (by kernel_rfl) (by kernel_rfl) (fun _ _ _ _ _ h => h) hHeld ?_
    simp only [List.setIfInBounds_toArray, List.set_cons_zero, List.set_cons_succ]
    obtain ⟨m, hm⟩ : ∃ m, (toU8 P).length = m := ⟨_, rfl⟩
    have HQ2 := Lib.hid (HQ.out m hm)
    have HM := Lib.hid (show m = P.length from by rw [← hm, toU8_length])
    clear hm
    refine callH 1 20 145 #[.int .i64 r] ⟨_, rfl, rfl, by rfl, by go_simp⟩ (by kernel_rfl) (HQ2.out _) ?_
    rintro e w2 ⟨q, d, rfl, hv, hb2⟩
    refine ⟨_, rfl, below_then hHeld hb2, fun hHeld2 => ?_⟩
    simp only [List.setIfInBounds_toArray, List.set_cons_zero, List.set_cons_succ]
    refine takeH 2 21 (.int .i64 (m : Int)) ⟨_, rfl, rfl, by rfl, fun W hW => by go_simp⟩ (by kernel_rfl) (by kernel_rfl) (by kernel_rfl) (fun _ _ _ _ _ h => h) hHeld2 ?_
    simp only [List.setIfInBounds_toArray, List.set_cons_zero, List.set_cons_succ]
    by_cases hlen : m = k + 1
    case neg =>
      have HV : Hid (Rest (u8s l) (k + 1) = X) := Lib.hid (by
        rw [← hR.out, ← rest_not _ k h4]
        cases hh : hitL (u8s l) k
        · rfl
        · have := (hit_guess _ k h4 hh).1
          have hm := HM.out
          rw [HR.out, HPP.out] at this
          omega)
      have HL := Lib.hid hlen
      clear hlen
      refine takeH 4 23 (.bool false) ⟨_, rfl, rfl, by rfl, fun W hW => by go_simp; have := HL.out; omega⟩ (by kernel_rfl) (by kernel_rfl) (by kernel_rfl) (fun _ _ _ _ _ h => h) hHeld2 ?_
      simp only [List.setIfInBounds_toArray, List.set_cons_zero, List.set_cons_succ]
      refine takeH 5 24 (.bool false) ⟨_, rfl, rfl, by rfl, fun W hW => by go_simp⟩ (by kernel_rfl) (by kernel_rfl) (by kernel_rfl) (fun _ _ _ _ _ h => h) hHeld2 ?_
      simp only [List.setIfInBounds_toArray, List.set_cons_zero, List.set_cons_succ]
      refine skipH 6 25 ⟨_, rfl, rfl, by rfl⟩ (by kernel_rfl) (by kernel_rfl) (by kernel_rfl) (fun _ _ _ _ _ h => h) hHeld2 ?_
      simp only [List.setIfInBounds_toArray, List.set_cons_zero, List.set_cons_succ]
      refine skipH 9 28 ⟨_, rfl, rfl, by rfl⟩ (by kernel_rfl) (by kernel_rfl) (by kernel_rfl) (fun _ _ _ _ _ h => h) hHeld2 ?_
      simp only [List.setIfInBounds_toArray, List.set_cons_zero, List.set_cons_succ]
      refine skipH 10 29 ⟨_, rfl, rfl, by rfl⟩ (by kernel_rfl) (by kernel_rfl) (by kernel_rfl) (fun _ _ _ _ _ h => h) hHeld2 ?_
      simp only [List.setIfInBounds_toArray, List.set_cons_zero, List.set_cons_succ]
      refine skipH 7 26 ⟨_, rfl, rfl, by rfl⟩ (by kernel_rfl) (by kernel_rfl) (by kernel_rfl) (fun _ _ _ _ _ h => h) hHeld2 ?_
      simp only [List.setIfInBounds_toArray, List.set_cons_zero, List.set_cons_succ]
      refine skipH 8 27 ⟨_, rfl, rfl, by rfl⟩ (by kernel_rfl) (by kernel_rfl) (by kernel_rfl) (fun _ _ _ _ _ h => h) hHeld2 ?_
      simp only [List.setIfInBounds_toArray, List.set_cons_zero, List.set_cons_succ]
      refine skipH 11 30 ⟨_, rfl, rfl, by rfl⟩ (by kernel_rfl) (by kernel_rfl) (by kernel_rfl) (fun _ _ _ _ _ h => h) hHeld2 ?_
      simp only [List.setIfInBounds_toArray, List.set_cons_zero, List.set_cons_succ]
      refine skipH 12 31 ⟨_, rfl, rfl, by rfl⟩ (by kernel_rfl) (by kernel_rfl) (by kernel_rfl) (fun _ _ _ _ _ h => h) hHeld2 ?_
      simp only [List.setIfInBounds_toArray, List.set_cons_zero, List.set_cons_succ]
      refine skipH 13 32 ⟨_, rfl, rfl, by rfl⟩ (by kernel_rfl) (by kernel_rfl) (by kernel_rfl) (fun _ _ _ _ _ h => h) hHeld2 ?_
      simp only [List.setIfInBounds_toArray, List.set_cons_zero, List.set_cons_succ]
      refine takeH 14 33 (.bool false) ⟨_, rfl, rfl, by rfl, fun W hW => by go_simp⟩ (by kernel_rfl) (by kernel_rfl) (by kernel_rfl) (fun _ _ _ _ _ h => h) hHeld2 ?_
      simp only [List.setIfInBounds_toArray, List.set_cons_zero, List.set_cons_succ]
      refine wpAnyH_done (by kernel_rfl) ?_ _
      refine NoPanic.normal ?_
      go_wp2
      exact ⟨⟨k + 1, by omega, by norm_cast, HV, hHeld2⟩, by simp only [intOf]; omega⟩
    case pos =>
      have HL := Lib.hid hlen
      clear hlen
      have hk0 : (0 : Int) ≤ (k : Int) + 1 := by omega
      have hkc : (k : Int) + 1 ≤ (c : Int) := by omega
      refine takeH 4 23 (.bool true) ⟨_, rfl, rfl, by rfl, fun W hW => by go_simp; have := HL.out; omega⟩ (by kernel_rfl) (by kernel_rfl) (by kernel_rfl) (fun _ _ _ _ _ h => h) hHeld2 ?_
      simp only [List.setIfInBounds_toArray, List.set_cons_zero, List.set_cons_succ]
      refine takeH 5 24 (.bool true) ⟨_, rfl, rfl, by rfl, fun W hW => by go_simp⟩ (by kernel_rfl) (by kernel_rfl) (by kernel_rfl) (fun _ _ _ _ _ h => h) hHeld2 ?_
      simp only [List.setIfInBounds_toArray, List.set_cons_zero, List.set_cons_succ]
      refine takeH 6 25 (.int .i64 r) ⟨_, rfl, rfl, by rfl, fun W hW => by go_simp⟩ (by kernel_rfl) (by kernel_rfl) (by kernel_rfl) (fun _ _ _ _ _ h => h) hHeld2 ?_
      simp only [List.setIfInBounds_toArray, List.set_cons_zero, List.set_cons_succ]
      refine takeH 9 28 (.slice p n c) ⟨_, rfl, rfl, by rfl, fun W hW => by go_simp⟩ (by kernel_rfl) (by kernel_rfl) (by kernel_rfl) (fun _ _ _ _ _ h => h) hHeld2 ?_
      simp only [List.setIfInBounds_toArray, List.set_cons_zero, List.set_cons_succ]
      refine takeH 10 29 (.int .i64 ((k : Int) + 1)) ⟨_, rfl, rfl, by rfl, fun W hW => by go_simp⟩ (by kernel_rfl) (by kernel_rfl) (by kernel_rfl) (fun _ _ _ _ _ h => h) hHeld2 ?_
      simp only [List.setIfInBounds_toArray, List.set_cons_zero, List.set_cons_succ]
      refine takeH 11 30 (.slice p (k + 1) c) ⟨_, rfl, rfl, by rfl, fun W hW => by go_simp⟩ (by kernel_rfl) (by kernel_rfl) (by kernel_rfl) (fun _ _ _ _ _ h => h) hHeld2 ?_
      simp only [List.setIfInBounds_toArray, List.set_cons_zero, List.set_cons_succ]
      refine takeH 12 31 (.string ⟨(l.take (k + 1)).toArray⟩) ⟨_, rfl, rfl, by rfl, fun W hW => by have hx := HSk.out W hW; go_simp⟩ (by kernel_rfl) (by kernel_rfl) (by kernel_rfl) (fun _ _ _ _ _ h => h) hHeld2 ?_
      simp only [List.setIfInBounds_toArray, List.set_cons_zero, List.set_cons_succ]
      refine callH 7 26 145 #[.int .i64 r] ⟨_, rfl, rfl, by rfl, by go_simp⟩ (by kernel_rfl) (HQ2.out _) ?_
      rintro e w3 ⟨q3, d3, rfl, hv3, hb3⟩
      refine ⟨_, rfl, below_then hHeld2 hb3, fun hHeld3 => ?_⟩
      simp only [List.setIfInBounds_toArray, List.set_cons_zero, List.set_cons_succ]
      refine stepH 8 27 (.string ⟨(toU8 P).toArray⟩) w3 ⟨_, rfl, rfl, by rfl, by have hx := str_of hv3; go_simp⟩ (by kernel_rfl) hHeld3 ?_
      simp only [List.setIfInBounds_toArray, List.set_cons_zero, List.set_cons_succ]
      by_cases hs : l.take (k + 1) = toU8 P
      case pos =>
        refine takeH 13 32 (.bool true) ⟨_, rfl, rfl, by rfl, fun W hW => by go_simp⟩ (by kernel_rfl) (by kernel_rfl) (by kernel_rfl) (fun _ _ _ _ _ h => h) hHeld3 ?_
        simp only [List.setIfInBounds_toArray, List.set_cons_zero, List.set_cons_succ]
        refine takeH 14 33 (.bool true) ⟨_, rfl, rfl, by rfl, fun W hW => by go_simp⟩ (by kernel_rfl) (by kernel_rfl) (by kernel_rfl) (fun _ _ _ _ _ h => h) hHeld3 ?_
        simp only [List.setIfInBounds_toArray, List.set_cons_zero, List.set_cons_succ]
        refine wpAnyH_done (by kernel_rfl) ?_ _
        refine NoPanic.normal ?_
        go_wp2
        go_ret2
        have hP : P = (u8s l).take (k + 1) := by
          have := congrArg u8s hs
          rw [u8s_toU8 P (by rw [← HPP.out]; exact putL_range r)] at this
          rw [← this]
          unfold u8s
          rw [List.map_take]
        obtain ⟨h1, h2⟩ := guess_hit (u8s l) k h4 (by rw [HUL.out]; exact hkn) (by rw [HR.out, HPP.out]; exact hP)
        have hX := hR.out
        rw [rest_hit _ _ h4 h1, ← h2, HR.out] at hX
        rw [← hX]
        exact ⟨by simp, hHeld3⟩
      case neg =>
        refine takeH 13 32 (.bool false) ⟨_, rfl, rfl, by rfl, fun W hW => by go_simp; exact fun h => hs h.symm⟩ (by kernel_rfl) (by kernel_rfl) (by kernel_rfl) (fun _ _ _ _ _ h => h) hHeld3 ?_
        simp only [List.setIfInBounds_toArray, List.set_cons_zero, List.set_cons_succ]
        refine takeH 14 33 (.bool false) ⟨_, rfl, rfl, by rfl, fun W hW => by go_simp⟩ (by kernel_rfl) (by kernel_rfl) (by kernel_rfl) (fun _ _ _ _ _ h => h) hHeld3 ?_
        simp only [List.setIfInBounds_toArray, List.set_cons_zero, List.set_cons_succ]
        refine wpAnyH_done (by kernel_rfl) ?_ _
        refine NoPanic.normal ?_
        go_wp2
        have HV : Hid (Rest (u8s l) (k + 1) = X) := Lib.hid (by
          rw [← hR.out, ← rest_not _ k h4]
          cases hh : hitL (u8s l) k
          · rfl
          · have h1 := (hit_guess _ k h4 hh).2
            rw [HR.out, HPP.out] at h1
            exact absurd (by rw [h1]; unfold u8s; rw [← List.map_take]; exact (toU8_u8s _).symm) hs)
        exact ⟨⟨k + 1, by omega, by norm_cast, HV, hHeld3⟩, by simp only [intOf]; omega⟩
end Go.Proofs.YtieppcjpbjefkaaDoor

/- Contracts of the reference of code points: All. -/
namespace Go.Proofs.YtieppcjpbjefkaaDoor
open Go.RowKit Go.Proofs Go.Shelf

theorem BytesR.drop {W : World} {p : Option Addr} {n c : Nat} {l : List UInt8} (h : BytesR W (.slice p n c) l) (k : Nat) (hk : k < n) : BytesR W (.slice (p.map fun a => a.add k) (n - k) (c - k)) (l.drop k) := by
  obtain ⟨p', c', he, h1, h2⟩ := h
  cases he
  refine ⟨_, _, by rw [List.length_drop], by rw [List.length_drop]; omega, ?_⟩
  rcases h2 with ⟨h3, rfl, h4⟩ | ⟨g, o, rfl, hc⟩
  · subst h3; simp at hk
  · refine .inr ⟨g, o + k, by simp [Go.WideShapes.add_plain], fun j x hx => ?_⟩
    rw [List.getElem?_drop] at hx
    rw [Nat.add_assoc]
    exact hc _ x hx
theorem u8s_drop (l : List UInt8) (k : Nat) : u8s (l.drop k) = (u8s l).drop k := by unfold u8s; rw [List.map_drop]
theorem pts_all_true (l : List Int) (bs : List Int) (h : ptsL bs = l.map (·, true)) : allL bs = (l, true) := by
  unfold allL
  rw [h, if_pos (by simp)]
  simp [Function.comp_def]
theorem pts_all_bad (pre : List Int) (x : Int) (post : List (Int × Bool)) (bs : List Int) (h : ptsL bs = pre.map (·, true) ++ (x, false) :: post) : allL bs = ([], false) := by
  unfold allL
  rw [h, if_neg (by simp)]

set_option maxRecDepth 100000 in
set_option maxHeartbeats 4000000 in
theorem ref_All (p : Option Addr) (n c : Nat) (l : List UInt8) (w : World) (hn : n ≤ 1000000000000) (h : BytesR w (.slice p n c) l) :
    Calls Tryd.prog 86 #[.slice p n c] w (AllIs w (allL (u8s l))) := by
  obtain ⟨hnl, hnc, _⟩ := h.cells
  obtain ⟨i0, hi, hz0, hz1, hz2⟩ := info_parts (show (Tryd.prog.info? 3).map (fun i => (i.zero, i.size, i.bytes)) = some (some (.int .i64 0), 1, 8) by kernel_rfl)
  have hT := fun k W (hW : Below w.heap.size w W) (hk : k < n) => ref_Take _ (n - k) (c - k) (l.drop k) W (by omega) ((h.later hW).drop k hk)
  obtain ⟨B, hBs⟩ : ∃ B, u8s l = B := ⟨_, rfl⟩
  have hul : B.length = n := by rw [← hBs, u8s_length, hnl]
  simp only [u8s_drop] at hT
  rw [hBs] at hT ⊢
  obtain ⟨X, hX⟩ : ∃ X, allL B = X := ⟨_, rfl⟩
  rw [hX]
  have HX := Lib.hid hX
  have HT := Lib.hid hT
  have HUL := Lib.hid hul
  clear hX hT hul hnl h hBs
  go_enter Tryd.func86, Tryd.ntmps86
  go_wp2
  go_loopw [4, 5] (fun t4 t5 wr => ∃ (k : Nat) (pre : List Int), k ≤ n ∧ t5 = .int .i64 (k : Int) ∧ Hid (ptsL B = pre.map (·, true) ++ ptsL (B.drop k)) ∧ Hid (pre.length ≤ k) ∧ wr.ownsRow w.heap.size 3 1 t4 pre.length (nums .i64 pre) ∧ Below w.heap.size w wr) (fun _ t5 _ => n - (intOf t5).toNat)
  case atStart => exact ⟨0, [], by omega, rfl, Lib.hid (by simp), Lib.hid (by simp), World.ownsRow_nil _ _ _ _, Below.refl _ _⟩
  case round =>
    obtain ⟨k, pre, hk, rfl, hP, hPL, ho, hB⟩ := hrel
    obtain ⟨q, m, d, rfl⟩ := own_slice ho
    by_cases hgo : k < n
    case neg =>
      obtain rfl : k = n := by omega
      have HV := Lib.hid (show X = (pre, true) from by
        rw [← HX.out]
        refine pts_all_true _ _ ?_
        rw [hP.out, ptsL_nil _ (by rw [List.length_drop, HUL.out]; omega), List.append_nil])
      clear hgo hk
      go_wp2
      go_ret2
      rw [HV.out]
      exact ⟨_, rfl, ho, hB⟩
    have HT2 := Lib.hid (fun W hW => HT.out k W hW hgo)
    have hkc : (k : Int) ≤ (c : Int) := by omega
    have hck : c - k ≠ 0 := by omega
    have hB0 : (B.drop k).length ≠ 0 := by rw [List.length_drop, HUL.out]; omega
    obtain ⟨r, j, hrj⟩ : ∃ r j, takeL (B.drop k) = (r, j) := ⟨_, _, rfl⟩
    have hle := takeL_le (B.drop k)
    rw [hrj] at HT2 hle
    rw [List.length_drop, HUL.out] at hle
    by_cases hj : j = 0
    · subst hj
      have HV := Lib.hid (show X = ([], false) from by
        rw [← HX.out]
        refine pts_all_bad pre r [] _ ?_
        rw [hP.out, ptsL_bad _ hB0 (by rw [hrj]), hrj])
      go_wp2_with (go_at_call 127; refine (HT2.out _ hB).mono ?_; rintro e w1 ⟨rfl, hb1⟩; have hB := below_then hB hb1)
      go_ret2
      rw [HV.out]
      exact ⟨_, rfl, World.ownsRow_nil _ _ _ _, hB⟩
    · have HN := Lib.hid (show ptsL B = (pre ++ [r]).map (·, true) ++ ptsL (B.drop (k + j)) from by
        rw [hP.out, ptsL_next _ hB0 (by rw [hrj]; exact hj), hrj, List.drop_drop]
        simp)
      have hkj : k + j ≤ n := by omega
      go_wp2_with (first
        | (go_at_call 127; refine (HT2.out _ hB).mono ?_; rintro e w1 ⟨rfl, hb1⟩; replace ho := own_later ho hb1; have hB := below_then hB hb1)
        | (at_builtin; refine wpList_append_own _ rfl _ _ 57 rfl w.heap.size 3 i0 (.int .i64 0) 1 8 Tryd.underlying57 hi hz0 hz1 hz2 rfl (by decide) _ _ _ rfl (ho.alloc _) ⟨w1.heap.size, 0, none⟩ 1 1 [.int .i64 r] rfl rfl (cell_one_new _ _ _) (by simp [Value.oneCell']) (by have := hPL.out; unfold maxLen; omega) (by have := hPL.out; omega) (by have := hB.size; simp; omega) ?_; intro v' w2 hown' hgrow _; obtain ⟨g', cap', rfl⟩ := ownsRow_succ hown'))
      have hg : (w1.alloc (.cells #[.int .i64 r] 3)).grownBy w2 (Value.slice q m d).ownBlock := hgrow
      exact ⟨⟨k + j, pre ++ [r], hkj, by norm_cast, HN, Lib.hid (by have := hPL.out; rw [List.length_append]; simp; omega), by simpa [nums] using hown', below_append hB ho (Nat.le_refl _) hg⟩, by simp only [intOf]; omega⟩
end Go.Proofs.YtieppcjpbjefkaaDoor

/- Contracts of package legacy: plain. -/
namespace Go.Proofs.YtieppcjpbjefkaaDoor
open Go.RowKit Go.Proofs

def plainRaw (m : ModesD) (k : KeyD) : List UInt8 :=
  if k.code = 9 ∧ hasB k.mods 1 = true then putS (numS 0 90 [])
  else if k.code = 13 ∧ m.line = true then [13, 10]
  else if k.code = 127 ∧ m.back ≠ hasB k.mods 4 then [8]
  else [UInt8.ofNat k.code.toNat]
def plainL2 (m : ModesD) (k : KeyD) : List UInt8 := aheadL k.mods (plainRaw m k)

theorem own_lit {W : World} (vs : List Value) (l : List UInt8) (n B g : Nat) (hB : B = W.heap.size) (hg : g = W.heap.size + 1) (hl : Lib.byteCells l = vs) (hn : vs.length = n) (hm : n ≤ 100) :
    OwnVar B ((W.alloc (.cells #[.slice (some ⟨g, 0, none⟩) n n] 31)).alloc (.cells vs.toArray 5)) l := by
  subst hg hB
  refine ⟨_, (Boxed.new W 31 (.slice (some ⟨W.heap.size + 1, 0, none⟩) n n)).alloc _, BytesR.of_own (base := 0) (e := 5) (n := n) ?_⟩
  rw [hl]
  exact own_new (W := W.alloc _) vs (by simp) (Nat.zero_le _) hn (by omega)
theorem byteCells_one (c : Int) (h0 : 0 ≤ c) (h1 : c ≤ 255) : Lib.byteCells [UInt8.ofNat c.toNat] = [.int .u8 c] := by
  simp only [Lib.byteCells, List.map_cons, List.map_nil]
  congr 2
  rw [UInt8.toNat_ofNat']
  omega

set_option maxRecDepth 100000 in
set_option maxHeartbeats 2000000 in
theorem legacy_plain (m : ModesD) (k : KeyD) (x : EntryD) (w : World) (hc0 : 0 ≤ k.code) (hc1 : k.code ≤ 255) (h0 : 0 ≤ k.mods) (h1 : k.mods ≤ 255) (htab : TabOk w) :
    Calls Tryd.prog 46 #[m.v, k.v, x.v] w (BytesRet w (plainL2 m k)) := by
  have hN := fun W => wire_Num 0 90 none 0 0 [] W rfl (by omega) (by omega) (fun h => by simp [nums] at h) (fun x hx => by simp at hx) (by omega) (by omega) (by omega) (by omega)
  have hb := fun W v (h : Below w.heap.size w W) (hv : SeqIs W v (numS 0 90 [])) => legacy_bytes v (numS 0 90 []) W hv (htab.later h)
  have hand4 := and_four k.mods h0 h1
  have hand1 := and_one k.mods h0 h1
  have DOOR := Lib.hid (fun l tm W hl B hB hW hv hr => ahead_door k l Tryd.f46 tm w W h0 h1 hl B hB hW hv hr)
  have HR := Lib.hid (show plainL2 m k = aheadL k.mods (plainRaw m k) from rfl)
  have HQ := Lib.hid (show plainRaw m k = if k.code = 9 ∧ hasB k.mods 1 = true then putS (numS 0 90 [])
    else if k.code = 13 ∧ m.line = true then [13, 10] else if k.code = 127 ∧ m.back ≠ hasB k.mods 4 then [8] else [UInt8.ofNat k.code.toNat] from rfl)
  rw [HR.out]
  obtain ⟨R, hRe⟩ : ∃ R, plainRaw m k = R := ⟨_, rfl⟩
  rw [hRe] at HQ ⊢
  obtain ⟨P, hP⟩ : ∃ P, putS (numS 0 90 []) = P := ⟨_, rfl⟩
  have hPl : P.length ≤ 1000000 := by rw [← hP]; decide +kernel
  rw [hP] at HQ hb
  clear hRe HR hP
  obtain ⟨code, mods, typ, sh, base, text⟩ := k
  obtain ⟨m1, m2, m3, m4, m5, m6, m7, m8, m9, m10⟩ := m
  obtain ⟨x1, x2, x3, x4, x5⟩ := x
  unfold KeyD.v at *
  unfold ModesD.v EntryD.v
  simp only at *
  have HN := Lib.hid hN
  have HB := Lib.hid hb
  clear hN hb
  obtain ⟨b1, hb1⟩ : ∃ b, hasB mods 1 = b := ⟨_, rfl⟩
  obtain ⟨b4, hb4⟩ : ∃ b, hasB mods 4 = b := ⟨_, rfl⟩
  rw [hb1] at hand1 HQ
  rw [hb4] at hand4 HQ
  clear hb1 hb4 htab
  by_cases k9 : code = 9
  · subst k9
    cases b1
    · have HR2 := Lib.hid (show R = [9] from by rw [HQ.out, if_neg (by simp), if_neg (by simp), if_neg (by simp)]; rfl)
      go_enter_defers Tryd.func46, Tryd.ntmps46
      go_wp2
      rw [HR2.out]
      refine DOOR.out [9] _ _ (by simp) (w.heap.size + 1 + 1 + 1) (by omega) (by go_grown) (own_lit [.int .u8 9] [9] 1 _ _ (by simp) (by simp) rfl rfl (by omega)) ?_
      intro W' p n c hc
      simp [results, Tryd.results46, go_sem, hc]
    · have HR2 := Lib.hid (show R = P from by rw [HQ.out, if_pos (by simp)])
      go_enter_defers Tryd.func46, Tryd.ntmps46
      go_wp2_with (first
          | (go_at_call 30; refine (HN.out _).mono ?_; rintro e w1 ⟨v, rfl, hs1, hb1⟩; have hB := hb1)
          | (go_at_call 95; refine (HB.out _ _ (below_grown4 hB) hs1).mono ?_; rintro e w2 ⟨v2, rfl, hown, hb2⟩; have hown2 := BytesR.of_own hown; obtain ⟨q, cq, rfl, _⟩ := hown2; have hB := below_then hB hb2; have hx3 := (hB.block (w.heap.size + 1 + 1 + 1) (by simp)).trans (heap_at _ _ _ (by simp)); have cB := Boxed.cell (t := 31) (v := .slice none 0 0) hx3; have fB := Boxed.frozen (t := 31) (v := .slice none 0 0) hx3; have lB := (Array.getElem?_eq_some_iff.1 hx3).1; have HX3 := Lib.hid hx3; clear hx3))
      rw [HR2.out]
      refine DOOR.out P _ _ (by omega) (w.heap.size + 1 + 1 + 1) (by omega) ?_ (own_store HX3.out (BytesR.of_own hown)) ?_
      · exact (below_grown4 hB).setCell (p := ⟨w.heap.size + 1 + 1 + 1, _, none⟩) (by simp; omega) _
      · intro W' p n c hc
        simp [results, Tryd.results46, go_sem, hc]
  have d9 : (code == 9) = false := by simpa using k9
  by_cases k13 : code = 13
  · subst k13
    cases m7
    · have HR2 := Lib.hid (show R = [13] from by rw [HQ.out, if_neg (by simp), if_neg (by simp), if_neg (by simp)]; rfl)
      go_enter_defers Tryd.func46, Tryd.ntmps46
      go_wp2
      rw [HR2.out]
      refine DOOR.out [13] _ _ (by simp) (w.heap.size + 1 + 1 + 1) (by omega) (by go_grown) (own_lit [.int .u8 13] [13] 1 _ _ (by simp) (by simp) rfl rfl (by omega)) ?_
      intro W' p n c hc
      simp [results, Tryd.results46, go_sem, hc]
    · have HR2 := Lib.hid (show R = [13, 10] from by rw [HQ.out, if_neg (by simp), if_pos (by simp)])
      go_enter_defers Tryd.func46, Tryd.ntmps46
      go_wp2
      rw [HR2.out]
      refine DOOR.out [13, 10] _ _ (by simp) (w.heap.size + 1 + 1 + 1) (by omega) (by go_grown) (own_lit [.int .u8 13, .int .u8 10] [13, 10] 2 _ _ (by simp) (by simp) rfl rfl (by omega)) ?_
      intro W' p n c hc
      simp [results, Tryd.results46, go_sem, hc]
  have d13 : (code == 13) = false := by simpa using k13
  by_cases k127 : code = 127
  · subst k127
    cases m3 <;> cases b4
    · have HR2 := Lib.hid (show R = [127] from by rw [HQ.out, if_neg (by simp), if_neg (by simp), if_neg (by simp)]; rfl)
      go_enter_defers Tryd.func46, Tryd.ntmps46
      go_wp2
      rw [HR2.out]
      refine DOOR.out [127] _ _ (by simp) (w.heap.size + 1 + 1 + 1) (by omega) (by go_grown) (own_lit [.int .u8 127] [127] 1 _ _ (by simp) (by simp) rfl rfl (by omega)) ?_
      intro W' p n c hc
      simp [results, Tryd.results46, go_sem, hc]
    · have HR2 := Lib.hid (show R = [8] from by rw [HQ.out, if_neg (by simp), if_neg (by simp), if_pos (by simp)])
      go_enter_defers Tryd.func46, Tryd.ntmps46
      go_wp2
      rw [HR2.out]
      refine DOOR.out [8] _ _ (by simp) (w.heap.size + 1 + 1 + 1) (by omega) (by go_grown) (own_lit [.int .u8 8] [8] 1 _ _ (by simp) (by simp) rfl rfl (by omega)) ?_
      intro W' p n c hc
      simp [results, Tryd.results46, go_sem, hc]
    · have HR2 := Lib.hid (show R = [8] from by rw [HQ.out, if_neg (by simp), if_neg (by simp), if_pos (by simp)])
      go_enter_defers Tryd.func46, Tryd.ntmps46
      go_wp2
      rw [HR2.out]
      refine DOOR.out [8] _ _ (by simp) (w.heap.size + 1 + 1 + 1) (by omega) (by go_grown) (own_lit [.int .u8 8] [8] 1 _ _ (by simp) (by simp) rfl rfl (by omega)) ?_
      intro W' p n c hc
      simp [results, Tryd.results46, go_sem, hc]
    · have HR2 := Lib.hid (show R = [127] from by rw [HQ.out, if_neg (by simp), if_neg (by simp), if_neg (by simp)]; rfl)
      go_enter_defers Tryd.func46, Tryd.ntmps46
      go_wp2
      rw [HR2.out]
      refine DOOR.out [127] _ _ (by simp) (w.heap.size + 1 + 1 + 1) (by omega) (by go_grown) (own_lit [.int .u8 127] [127] 1 _ _ (by simp) (by simp) rfl rfl (by omega)) ?_
      intro W' p n c hc
      simp [results, Tryd.results46, go_sem, hc]
  · have d127 : (code == 127) = false := by simpa using k127
    have HR2 := Lib.hid (show R = [UInt8.ofNat code.toNat] from by rw [HQ.out, if_neg (by simp [k9]), if_neg (by simp [k13]), if_neg (by simp [k127])])
    have HC := Lib.hid (byteCells_one code hc0 hc1)
    go_enter_defers Tryd.func46, Tryd.ntmps46
    go_wp2
    rw [HR2.out]
    refine DOOR.out [UInt8.ofNat code.toNat] _ _ (by simp) (w.heap.size + 1 + 1 + 1) (by omega) (by go_grown) (own_lit [.int .u8 code] [UInt8.ofNat code.toNat] 1 _ _ (by simp) (by simp) HC.out rfl (by omega)) ?_
    intro W' p n c hc
    simp [results, Tryd.results46, go_sem, hc]
end Go.Proofs.YtieppcjpbjefkaaDoor

/- Contracts of package legacy: letter, number, pad, Key. -/
namespace Go.Proofs.YtieppcjpbjefkaaDoor
open Go.RowKit Go.Proofs

def ss3S (fi : Int) : SeqD := ⟨2, 0, [], [], fi, []⟩
def letterL (m : ModesD) (k : KeyD) (x : EntryD) : List UInt8 :=
  if oldL k.mods ≠ 0 then putS (numS 0 x.final [1, paramL (oldL k.mods)])
  else if m.cursor = true ∨ 80 ≤ x.final then putS (ss3S x.final) else putS (numS 0 x.final [])
theorem oldL_range (m : Int) : 0 ≤ oldL m ∧ oldL m ≤ 7 := by unfold oldL; omega
theorem paramL_old (m : Int) : 1 ≤ paramL (oldL m) ∧ paramL (oldL m) ≤ 8 := by
  have := oldL_range m
  unfold paramL
  rw [if_neg (by omega)]
  omega
theorem ss3_is (W : World) (fi : Int) (h0 : 0 ≤ fi) (h1 : fi < 256) : SeqIs W (.agg #[.int .i64 2, .int .u8 0, .slice none 0 0, .string ⟨#[]⟩, .int .u8 fi, .string ⟨#[]⟩]) (ss3S fi) :=
  ⟨_, rfl, ⟨none, 0, [], rfl, Nat.le_refl _, by omega, rfl, fun h => by simp at h, fun i u xs hu => by simp at hu⟩, by simp [ss3S, h0, h1]⟩
/-- numbers of a literal -/
theorem num_lit (fi : Int) (xs : List Int) (vs : List Value) (n : Nat) (hv : nums .i64 xs = vs) (hn : xs.length = n) (hm : n ≤ 100) (hx : ∀ x, x ∈ xs → -9223372036854775808 ≤ x ∧ x ≤ 9223372036854775807) (hf0 : 0 ≤ fi) (hf1 : fi < 256) (W : World) (g : Nat) (hg : W.heap[g]? = some (.cells vs.toArray 3 (0, 0))) :
    Calls Tryd.prog 30 #[.int .u8 0, .int .u8 fi, .slice (some ⟨g, 0, none⟩) n n] W (SeqRet W (numS 0 fi xs)) := by
  refine wire_Num 0 fi _ n n xs _ hn (by omega) (Nat.le_refl _) ?_ hx (by omega) (by omega) hf0 hf1
  rw [hv]
  intro h
  refine ⟨g, 0, rfl, fun i v hi => ?_⟩
  rw [cell_of_heap hg, Nat.zero_add]
  simpa using hi
theorem num_none (fi : Int) (hf0 : 0 ≤ fi) (hf1 : fi < 256) (W : World) : Calls Tryd.prog 30 #[.int .u8 0, .int .u8 fi, .slice none 0 0] W (SeqRet W (numS 0 fi [])) :=
  wire_Num 0 fi none 0 0 [] W rfl (by omega) (by omega) (fun h => by simp [nums] at h) (fun x hx => by simp at hx) (by omega) (by omega) hf0 hf1

set_option maxRecDepth 100000 in
set_option maxHeartbeats 2000000 in
theorem legacy_letter (m : ModesD) (k : KeyD) (x : EntryD) (w : World) (hk : k.wf) (hf0 : 0 ≤ x.final) (hf1 : x.final < 256) (htab : TabOk w) :
    Calls Tryd.prog 47 #[m.v, k.v, x.v] w (BytesRet w (letterL m k x)) := by
  have hO := fun W => mods_Old k.mods W hk.mods
  have hor := oldL_range k.mods
  have hpo := paramL_old k.mods
  have HL := Lib.hid (show letterL m k x = if oldL k.mods ≠ 0 then putS (numS 0 x.final [1, paramL (oldL k.mods)])
    else if m.cursor = true ∨ 80 ≤ x.final then putS (ss3S x.final) else putS (numS 0 x.final []) from rfl)
  obtain ⟨R, hRe⟩ : ∃ R, letterL m k x = R := ⟨_, rfl⟩
  rw [hRe] at HL ⊢
  obtain ⟨O, hOe⟩ : ∃ O, oldL k.mods = O := ⟨_, rfl⟩
  rw [hOe] at hO hor hpo HL
  have hP := fun W => mods_Param O W (by unfold i64r; omega)
  obtain ⟨P, hPe⟩ : ∃ P, paramL O = P := ⟨_, rfl⟩
  rw [hPe] at hP hpo HL
  have hb := fun (s : SeqD) W v (h : Below w.heap.size w W) (hv : SeqIs W v s) => legacy_bytes v s W hv (htab.later h)
  obtain ⟨code, mods, typ, sh, base, text⟩ := k
  obtain ⟨m1, m2, m3, m4, m5, m6, m7, m8, m9, m10⟩ := m
  obtain ⟨x1, x2, x3, x4, x5⟩ := x
  unfold KeyD.v ModesD.v EntryD.v
  simp only at *
  have HO := Lib.hid hO
  have HP := Lib.hid hP
  have HB := Lib.hid hb
  have HN2 := Lib.hid (fun W g hg => num_lit x2 [1, P] [.int .i64 1, .int .i64 P] 2 rfl rfl (by omega) (by intro y hy; simp at hy; omega) hf0 hf1 W g hg)
  have HN0 := Lib.hid (fun W => num_none x2 hf0 hf1 W)
  have HS := Lib.hid (fun W => ss3_is W x2 hf0 hf1)
  obtain ⟨o0, o1⟩ := hor
  obtain ⟨p0, p1⟩ := hpo
  clear hO hP hb hRe hOe hPe htab hk
  by_cases h : O = 0
  · subst h
    by_cases hc : m1 = true ∨ 80 ≤ x2
    · have HR := Lib.hid (show R = putS (ss3S x2) from by rw [HL.out, if_neg (by simp), if_pos hc])
      cases m1
      · have hx : 80 ≤ x2 := by simpa using hc
        clear hc
        go_enter Tryd.func47, Tryd.ntmps47
        go_wp2_with (first
          | (go_at_call 96; refine (HO.out _).mono ?_; rintro e w1 ⟨rfl, rfl⟩)
          | (go_at_call 95; refine (HB.out _ _ _ (by go_grown) (HS.out _)).mono ?_; rintro e w2 ⟨v2, rfl, hown, hb2⟩))
        go_ret
        rw [HR.out]
        exact ⟨_, rfl, BytesR.of_own hown, below_then (by go_grown) hb2⟩
      · clear hc
        go_enter Tryd.func47, Tryd.ntmps47
        go_wp2_with (first
          | (go_at_call 96; refine (HO.out _).mono ?_; rintro e w1 ⟨rfl, rfl⟩)
          | (go_at_call 95; refine (HB.out _ _ _ (by go_grown) (HS.out _)).mono ?_; rintro e w2 ⟨v2, rfl, hown, hb2⟩))
        go_ret
        rw [HR.out]
        exact ⟨_, rfl, BytesR.of_own hown, below_then (by go_grown) hb2⟩
    · have HR := Lib.hid (show R = putS (numS 0 x2 []) from by rw [HL.out, if_neg (by simp), if_neg hc])
      obtain rfl : m1 = false := by cases m1 with | false => rfl | true => exact absurd (.inl rfl) hc
      have hx : x2 < 80 := by simp at hc; omega
      clear hc
      go_enter Tryd.func47, Tryd.ntmps47
      go_wp2_with (first
        | (go_at_call 96; refine (HO.out _).mono ?_; rintro e w1 ⟨rfl, rfl⟩)
        | (go_at_call 30; refine (HN0.out _).mono ?_; rintro e w3 ⟨v, rfl, hs1, hb1⟩)
        | (go_at_call 95; refine (HB.out _ _ _ (below_then (below_alloc (below_alloc (below_alloc (Below.refl _ _) _) _) _) hb1) hs1).mono ?_; rintro e w2 ⟨v2, rfl, hown, hb2⟩))
      go_ret
      rw [HR.out]
      exact ⟨_, rfl, BytesR.of_own hown, below_then (below_then (below_alloc (below_alloc (below_alloc (Below.refl _ _) _) _) _) hb1) hb2⟩
  · have HR := Lib.hid (show R = putS (numS 0 x2 [1, P]) from by rw [HL.out, if_pos h])
    have d0 : (O != 0) = true := by simpa using h
    clear h
    go_enter Tryd.func47, Tryd.ntmps47
    go_wp2_with (go_at_call 96; refine (HO.out _).mono ?_; rintro e w1 ⟨rfl, rfl⟩)
    have hmx : Tryd.prog.follows .mixedOrders = true := by kernel_rfl
    go_region_with (first
      | (go_at_call 97; refine (HP.out _).mono ?_; rintro e w1 ⟨rfl, rfl⟩)
      | (go_at_call 30; refine (HN2.out _ _ ?hh).mono ?_; (case hh => exact heap_at _ _ _ (by simp)); rintro e w3 ⟨v, rfl, hs1, hb1⟩)
      | (go_at_call 95; refine (HB.out _ _ _ ?hh hs1).mono ?_; (case hh => exact below_then (below_drewN (below_alloc (below_alloc (below_alloc (below_alloc (Below.refl _ _) _) _) _) _) 1) hb1); rintro e w2 ⟨v2, rfl, hown, hb2⟩))
    all_goals
      go_wp2
      go_ret
      rw [HR.out]
      exact ⟨_, rfl, BytesR.of_own hown, below_then (below_then (below_drewN (below_alloc (below_alloc (below_alloc (below_alloc (Below.refl _ _) _) _) _) _) 1) hb1) hb2⟩

theorem cells_app {W : World} {g : Nat} {a b : Int} {z : Array Value} {t : TypeId} {fr : Nat × Nat} (h : W.heap[g]? = some (.cells (#[.int .i64 a, .int .i64 b] ++ z) t fr)) : CellsIn W (some ⟨g, 0, none⟩) (nums .i64 [a, b]) := fun _ => by
  refine ⟨g, 0, rfl, fun i v hv => ?_⟩
  have hi := (List.getElem?_eq_some_iff.1 hv).1
  simp [nums] at hi
  rw [cell_of_heap h, Nat.zero_add, Array.getElem?_append_left (by simpa using hi)]
  simpa [nums] using hv
def numberL2 (k : KeyD) (x : EntryD) : List UInt8 := if oldL k.mods ≠ 0 then putS (numS 0 126 [x.num, paramL (oldL k.mods)]) else putS (numS 0 126 [x.num])

set_option maxRecDepth 100000 in
set_option maxHeartbeats 2000000 in
theorem legacy_number (m : ModesD) (k : KeyD) (x : EntryD) (w : World) (hk : k.wf) (hn : i64r x.num) (htab : TabOk w) :
    Calls Tryd.prog 48 #[m.v, k.v, x.v] w (BytesRet w (numberL2 k x)) := by
  have hO := fun W => mods_Old k.mods W hk.mods
  have hor := oldL_range k.mods
  have hpo := paramL_old k.mods
  have HL := Lib.hid (show numberL2 k x = if oldL k.mods ≠ 0 then putS (numS 0 126 [x.num, paramL (oldL k.mods)]) else putS (numS 0 126 [x.num]) from rfl)
  obtain ⟨R, hRe⟩ : ∃ R, numberL2 k x = R := ⟨_, rfl⟩
  rw [hRe] at HL ⊢
  obtain ⟨O, hOe⟩ : ∃ O, oldL k.mods = O := ⟨_, rfl⟩
  rw [hOe] at hO hor hpo HL
  have hP := fun W => mods_Param O W (by unfold i64r; omega)
  obtain ⟨P, hPe⟩ : ∃ P, paramL O = P := ⟨_, rfl⟩
  rw [hPe] at hP hpo HL
  have hb := fun (s : SeqD) W v (h : Below w.heap.size w W) (hv : SeqIs W v s) => legacy_bytes v s W hv (htab.later h)
  obtain ⟨n0, n1⟩ := hn
  obtain ⟨code, mods, typ, sh, base, text⟩ := k
  obtain ⟨m1, m2, m3, m4, m5, m6, m7, m8, m9, m10⟩ := m
  obtain ⟨x1, x2, x3, x4, x5⟩ := x
  unfold KeyD.v ModesD.v EntryD.v
  simp only at *
  have HO := Lib.hid hO
  have HP := Lib.hid hP
  have HB := Lib.hid hb
  have HN1 := Lib.hid (fun W g hg => num_lit 126 [x3] [.int .i64 x3] 1 rfl rfl (by omega) (by intro y hy; simp at hy; omega) (by omega) (by omega) W g hg)
  have HN2 := Lib.hid (fun W p c (hc : 2 ≤ c) (h : CellsIn W p (nums .i64 [x3, P])) => wire_Num 0 126 p 2 c [x3, P] W rfl (by omega) hc h (by intro y hy; simp at hy; omega) (by omega) (by omega) (by omega) (by omega))
  obtain ⟨o0, o1⟩ := hor
  obtain ⟨p0, p1⟩ := hpo
  obtain ⟨i0, hi, hz0, hz1, hz2⟩ := info_parts (show (Tryd.prog.info? 3).map (fun i => (i.zero, i.size, i.bytes)) = some (some (.int .i64 0), 1, 8) by kernel_rfl)
  clear hO hP hb hRe hOe hPe htab hk
  by_cases h : O = 0
  · subst h
    have HR := Lib.hid (show R = putS (numS 0 126 [x3]) from by rw [HL.out, if_neg (by simp)])
    go_enter Tryd.func48, Tryd.ntmps48
    go_wp2_with (first
      | (go_at_call 96; refine (HO.out _).mono ?_; rintro e w1 ⟨rfl, rfl⟩)
      | (go_at_call 30; refine (HN1.out _ _ ?hh).mono ?_; (case hh => exact heap_at _ _ _ (by simp)); rintro e w3 ⟨v, rfl, hs1, hb1⟩)
      | (go_at_call 95; refine (HB.out _ _ _ ?hh hs1).mono ?_; (case hh => exact below_then (below_alloc (below_alloc (below_alloc (below_alloc (Below.refl _ _) _) _) _) _) hb1); rintro e w2 ⟨v2, rfl, hown, hb2⟩))
    go_ret
    rw [HR.out]
    exact ⟨_, rfl, BytesR.of_own hown, below_then (below_then (below_alloc (below_alloc (below_alloc (below_alloc (Below.refl _ _) _) _) _) _) hb1) hb2⟩
  · have HR := Lib.hid (show R = putS (numS 0 126 [x3, P]) from by rw [HL.out, if_pos h])
    have d0 : (O != 0) = true := by simpa using h
    clear h
    go_enter Tryd.func48, Tryd.ntmps48
    go_wp2_with (first
      | (go_at_call 96; refine (HO.out _).mono ?_; rintro e w1 ⟨rfl, rfl⟩)
      | (go_at_call 97; refine (HP.out _).mono ?_; rintro e w1 ⟨rfl, rfl⟩)
      | (go_at_call 30; refine (HN2.out _ _ _ ?ha ?hh).mono ?_; (case ha => simp [Question.cut]); (case hh => exact cells_app (heap_at _ _ _ (by simp))); rintro e w3 ⟨v, rfl, hs1, hb1⟩)
      | (go_at_call 95; refine (HB.out _ _ _ ?hh hs1).mono ?_; (case hh => exact below_then (below_drewN (below_alloc (below_alloc (below_alloc (below_alloc (below_alloc (below_alloc (Below.refl _ _) _) _) _) _) _) _) 1) hb1); rintro e w2 ⟨v2, rfl, hown, hb2⟩))
    go_ret
    rw [HR.out]
    exact ⟨_, rfl, BytesR.of_own hown, below_then (below_then (below_drewN (below_alloc (below_alloc (below_alloc (below_alloc (below_alloc (below_alloc (Below.refl _ _) _) _) _) _) _) _) 1) hb1) hb2⟩
end Go.Proofs.YtieppcjpbjefkaaDoor

/- Contracts of package legacy: pad, Key. -/
namespace Go.Proofs.YtieppcjpbjefkaaDoor
open Go.RowKit Go.Proofs

def padK (k : KeyD) (x : EntryD) : KeyD := { k with code := x.char, shifted := 0 }
def padL (m : ModesD) (k : KeyD) (x : EntryD) : List UInt8 :=
  if m.keypad = true ∧ oldL k.mods = 0 then putS (ss3S x.final) else if x.char = 13 then plainL2 m (padK k x) else textL2 (padK k x)

set_option maxRecDepth 100000 in
set_option maxHeartbeats 2000000 in
theorem legacy_pad (m : ModesD) (k : KeyD) (x : EntryD) (w : World) (hk : k.wf) (h0 : 0 ≤ k.mods) (h1 : k.mods ≤ 255) (ht : k.text.length ≤ 1000000000000) (hf0 : 0 ≤ x.final) (hf1 : x.final < 256) (hc0 : 0 ≤ x.char) (hc1 : x.char ≤ 255) (htab : TabOk w) :
    Calls Tryd.prog 49 #[m.v, k.v, x.v] w (BytesRet w (padL m k x)) := by
  have hO := fun W => mods_Old k.mods W hk.mods
  have HL := Lib.hid (show padL m k x = if m.keypad = true ∧ oldL k.mods = 0 then putS (ss3S x.final) else if x.char = 13 then plainL2 m (padK k x) else textL2 (padK k x) from rfl)
  obtain ⟨R, hRe⟩ : ∃ R, padL m k x = R := ⟨_, rfl⟩
  rw [hRe] at HL ⊢
  obtain ⟨O, hOe⟩ : ∃ O, oldL k.mods = O := ⟨_, rfl⟩
  rw [hOe] at hO HL
  have hb := fun (s : SeqD) W v (h : Below w.heap.size w W) (hv : SeqIs W v s) => legacy_bytes v s W hv (htab.later h)
  have hwf : (padK k x).wf := ⟨⟨by show _ ≤ x.char; omega, by show x.char ≤ _; omega⟩, hk.mods, hk.typ, ⟨by show _ ≤ (0 : Int); omega, by show (0 : Int) ≤ _; omega⟩, hk.base⟩
  have hT := fun W => legacy_text m (padK k x) x W hwf h0 h1 ht
  have hP := fun W (h : Below w.heap.size w W) => legacy_plain m (padK k x) x W hc0 hc1 h0 h1 (htab.later h)
  obtain ⟨T, hTe⟩ : ∃ T, textL2 (padK k x) = T := ⟨_, rfl⟩
  obtain ⟨P, hPe⟩ : ∃ P, plainL2 m (padK k x) = P := ⟨_, rfl⟩
  rw [hTe] at hT HL
  rw [hPe] at hP HL
  clear hTe hPe
  obtain ⟨code, mods, typ, sh, base, text⟩ := k
  obtain ⟨m1, m2, m3, m4, m5, m6, m7, m8, m9, m10⟩ := m
  obtain ⟨x1, x2, x3, x4, x5⟩ := x
  unfold padK KeyD.v ModesD.v EntryD.v at *
  simp only at *
  have HO := Lib.hid hO
  have HB := Lib.hid hb
  have HT := Lib.hid hT
  have HP := Lib.hid hP
  have HS := Lib.hid (fun W => ss3_is W x2 hf0 hf1)
  clear hO hb hRe hOe htab hk hwf hT hP
  by_cases h : m2 = true ∧ O = 0
  · have HR := Lib.hid (show R = putS (ss3S x2) from by rw [HL.out, if_pos h])
    obtain ⟨rfl, rfl⟩ := h
    go_enter Tryd.func49, Tryd.ntmps49
    go_wp2_with (first
      | (go_at_call 96; refine (HO.out _).mono ?_; rintro e w1 ⟨rfl, rfl⟩)
      | (go_at_call 95; refine (HB.out _ _ _ (by go_grown) (HS.out _)).mono ?_; rintro e w2 ⟨v2, rfl, hown, hb2⟩))
    go_ret
    rw [HR.out]
    exact ⟨_, rfl, BytesR.of_own hown, below_then (by go_grown) hb2⟩
  have HR0 := Lib.hid (show R = if x4 = 13 then P else T from by rw [HL.out, if_neg h])
  by_cases h13 : x4 = 13
  · have HR := Lib.hid (show R = P from by rw [HR0.out, if_pos h13])
    subst h13
    cases m2
    · clear h
      go_enter Tryd.func49, Tryd.ntmps49
      go_wp2_with (first
        | (go_at_call 96; refine (HO.out _).mono ?_; rintro e w1 ⟨rfl, rfl⟩)
        | (go_at_call 46; refine (HP.out _ (by go_grown)).mono ?_; rintro e w2 ⟨v2, rfl, hown, hb2⟩))
      go_ret
      rw [HR.out]
      exact ⟨_, rfl, hown, below_then (by go_grown) hb2⟩
    · have d0 : (O == 0) = false := by simpa using h
      clear h
      go_enter Tryd.func49, Tryd.ntmps49
      go_wp2_with (first
        | (go_at_call 96; refine (HO.out _).mono ?_; rintro e w1 ⟨rfl, rfl⟩)
        | (go_at_call 46; refine (HP.out _ (by go_grown)).mono ?_; rintro e w2 ⟨v2, rfl, hown, hb2⟩))
      go_ret
      rw [HR.out]
      exact ⟨_, rfl, hown, below_then (by go_grown) hb2⟩
  · have HR := Lib.hid (show R = T from by rw [HR0.out, if_neg h13])
    have d13 : (x4 == 13) = false := by simpa using h13
    clear h13
    cases m2
    · clear h
      go_enter Tryd.func49, Tryd.ntmps49
      go_wp2_with (first
        | (go_at_call 96; refine (HO.out _).mono ?_; rintro e w1 ⟨rfl, rfl⟩)
        | (go_at_call 45; refine (HT.out _).mono ?_; rintro e w2 ⟨v2, rfl, hown, hb2⟩))
      go_ret
      rw [HR.out]
      exact ⟨_, rfl, hown, below_then (by go_grown) hb2⟩
    · have d0 : (O == 0) = false := by simpa using h
      clear h
      go_enter Tryd.func49, Tryd.ntmps49
      go_wp2_with (first
        | (go_at_call 96; refine (HO.out _).mono ?_; rintro e w1 ⟨rfl, rfl⟩)
        | (go_at_call 45; refine (HT.out _).mono ?_; rintro e w2 ⟨v2, rfl, hown, hb2⟩))
      go_ret
      rw [HR.out]
      exact ⟨_, rfl, hown, below_then (by go_grown) hb2⟩
end Go.Proofs.YtieppcjpbjefkaaDoor
