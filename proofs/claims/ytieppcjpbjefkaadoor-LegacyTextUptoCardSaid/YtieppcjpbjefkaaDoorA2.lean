/- Contracts of package num: Text, Take. -/
import Derived.Test.YtieppcjpbjefkaaDoorA1
import Derived.Test.YtieppcjpbjefkaaDoorShelf
import Derived.Lib.ConvBytes
import Derived.Laws.Runes
import Derived.WalkMore
set_option linter.all false

/- Contracts of package num: Text, Take. -/
namespace Go.Proofs.YtieppcjpbjefkaaDoor
open Go.RowKit Go.Proofs

/-- the tables that the initialisers lay, as the walk needs them -/
def TabOk (w : World) : Prop := Lib.TabIs Tryd.prog w "internal/strconv.uint64pow10" .u64 Lib.pow10Tab
theorem TabOk.later {w w1 : World} (h : TabOk w) (hb : Below w.heap.size w w1) : TabOk w1 := by
  obtain ⟨g, hg⟩ : ∃ g, Tryd.prog.globalNamed "internal/strconv.uint64pow10" = some g := Option.isSome_iff_exists.1 (by kernel_rfl)
  unfold TabOk Lib.TabIs World.var? at h ⊢
  rw [hg] at h ⊢
  simp only [Option.bind_some] at h ⊢
  have hlt : g < w.heap.size := by
    rcases Nat.lt_or_ge g w.heap.size with h' | h'
    · exact h'
    · rw [Array.getElem?_eq_none h'] at h; cases h
  rw [hb.block g hlt]
  exact h

/-- a number in figures -/
def textL (n : Int) : List UInt8 := if n < 0 then [] else Lib.itoa n
def StrIs (w : World) (l : List UInt8) (e : Ending) (w' : World) : Prop := e = .returned (.string ⟨l.toArray⟩) ∧ Below w.heap.size w w'

theorem below_grow {w W : World} (h : Below w.heap.size w W) (k : Nat) (os : Array Obj) : Below w.heap.size w (Sort.grow (W.drewN k) os) :=
  h.trans ((show Below W.heap.size W (Sort.grow (W.drewN k) os) from ⟨rfl, rfl, rfl, by show W.heap.size ≤ (W.heap ++ os).size; rw [Array.size_append]; omega, fun i hi => by
    show ((W.drewN k).heap ++ os)[i]? = _
    rw [Array.getElem?_append_left (by show i < W.heap.size; omega)]
    rfl⟩).mono h.size)

set_option maxRecDepth 100000 in
set_option maxHeartbeats 1000000 in
theorem num_Text (n : Int) (w : World) (h0 : -9223372036854775808 ≤ n) (h1 : n ≤ 9223372036854775807) (htab : TabOk w) :
    Calls Tryd.prog 132 #[.int .i64 n] w (StrIs w (textL n)) := by
  by_cases hn : n < 0
  · have d : decide (n < 0) = true := by simpa using hn
    have HT : Hid (textL n = []) := Lib.hid (by simp [textL, hn])
    go_enter Tryd.func132, Tryd.ntmps132
    go_wp2
    go_ret
    rw [HT.out]
    exact ⟨rfl, Below.refl _ _⟩
  · have d : decide (n < 0) = false := by simpa using hn
    have HT : Hid (textL n = Lib.itoa n) := Lib.hid (by simp [textL, hn])
    clear hn
    go_enter Tryd.func132, Tryd.ntmps132
    go_wp2_with (go_at_call 150; refine (Tryd.strconv_Itoa n h0 h1 _ htab).mono ?_; rintro e w1 ⟨rfl, k, os, rfl⟩)
    go_ret
    rw [HT.out]
    exact ⟨rfl, below_grow (Below.refl _ _) _ _⟩

/-- is a byte a figure -/
def figB (c : Int) : Bool := decide (48 ≤ c) && decide (c ≤ 57)
set_option maxRecDepth 100000 in
set_option maxHeartbeats 1000000 in
theorem num_Take1 (c : Int) (w : World) : Calls Tryd.prog 166 #[.int .u8 c] w (fun e w' => e = .returned (.bool (figB c)) ∧ w = w') := by
  cases d1 : decide (48 ≤ c) <;> cases d2 : decide (c ≤ 57)
  all_goals
    have HF := Lib.hid (show figB c = _ from by rw [figB, d1, d2])
    go_enter Tryd.func166, Tryd.ntmps166
    go_wp2
    go_ret
    rw [HF.out]
    exact ⟨rfl, rfl⟩

/-- the number that figures make, from n on, and how many these are -/
def numGo (n : Int) : List Int → Int × Nat
  | [] => (n, 0)
  | c :: r => if figB c then ((numGo (min (10 * n + (c - 48)) 1114111) r).1, (numGo (min (10 * n + (c - 48)) 1114111) r).2 + 1) else (n, 0)
def numTakeL (bs : List Int) : Int × Nat := numGo 0 bs
theorem numGo_stop (n : Int) (l : List Int) (i : Nat) (hi : i < l.length) (h : figB (l.getD i 0) = false) : numGo n (l.drop i) = (n, 0) := by
  rw [List.drop_eq_getElem_cons hi, numGo]
  rw [List.getD_eq_getElem?_getD, List.getElem?_eq_getElem hi] at h
  simp at h
  simp [h]
theorem numGo_go (n : Int) (l : List Int) (i : Nat) (hi : i < l.length) (h : figB (l.getD i 0) = true) : numGo n (l.drop i) = ((numGo (min (10 * n + (l.getD i 0 - 48)) 1114111) (l.drop (i + 1))).1, (numGo (min (10 * n + (l.getD i 0 - 48)) 1114111) (l.drop (i + 1))).2 + 1) := by
  rw [List.drop_eq_getElem_cons hi, numGo]
  rw [List.getD_eq_getElem?_getD, List.getElem?_eq_getElem hi] at h ⊢
  simp at h
  simp [h]

def Num2Is (w : World) (x : Int × Nat) (e : Ending) (w' : World) : Prop := e = .returned (.tuple #[.int .i64 x.1, .int .i64 x.2]) ∧ ∃ q, w' = w.drewN q

set_option maxRecDepth 100000 in
set_option maxHeartbeats 2000000 in
theorem num_Take (p : Option Addr) (n c : Nat) (bs : List Int) (w : World) (hn : n ≤ 9223372036854775807) (hl : bs.length = n) (hb : ∀ i, 0 ≤ bs.getD i 0 ∧ bs.getD i 0 < 256) (hin : Lib.BytesIn w p n bs) :
    Calls Tryd.prog 157 #[.slice p n c] w (Num2Is w (numTakeL bs)) := by
  have hmx : Tryd.prog.follows .mixedOrders = true := by kernel_rfl
  have HB := Lib.hid hb
  clear hb
  go_enter Tryd.func157, Tryd.ntmps157
  go_wp2
  go_loopw [5, 9] (fun m i wr => ∃ (x : Int) (k q : Nat), k ≤ n ∧ i = .int .i64 k ∧ m = .int .i64 x ∧ 0 ≤ x ∧ x ≤ 1114111 ∧ Hid (((numGo x (bs.drop k)).1, (numGo x (bs.drop k)).2 + k) = numTakeL bs) ∧ wr = w.drewN q) (fun _ i _ => n - (intOf i).toNat)
  case atStart => exact ⟨0, 0, 0, by omega, rfl, rfl, by omega, by omega, Lib.hid rfl, rfl⟩
  case round =>
    obtain ⟨x, k, q, hk, rfl, rfl, hx0, hx1, hR, rfl⟩ := hrel
    by_cases hlt : k < n
    · have hd : decide ((k : Int) < (n : Int)) = true := by simp; omega
      obtain ⟨b, o, rfl, g⟩ := hin.at (by omega)
      have c0 := g k hlt
      clear g hin
      have q0 := HB.out k
      have kx : k < bs.length := by omega
      by_cases hf : figB (bs.getD k 0) = true
      · have HN := Lib.hid (numGo_go x bs k kx hf)
        obtain ⟨y, hy⟩ : ∃ y, bs.getD k 0 = y := ⟨_, rfl⟩
        rw [hy] at q0 c0 hf HN
        have hf' := hf
        simp only [figB, Bool.and_eq_true, decide_eq_true_eq] at hf'
        clear hy kx
        have hcall : ∀ W, Calls Tryd.prog 166 #[.int .u8 y] W (fun e w' => e = .returned (.bool true) ∧ W = w') := fun W => by have := num_Take1 y W; rwa [hf] at this
        clear hf
        go_wp2_with (go_at_call 166; refine (hcall _).mono ?_; rintro e w1 ⟨rfl, rfl⟩)
        exact ⟨⟨min (10 * x + (y - 48)) 1114111, k + 1, q, by omega, by go_num, rfl, by omega, by omega, Lib.hid (by rw [← hR.out, HN.out]; simp only [Prod.mk.injEq, true_and]; omega), rfl⟩, by simp [intOf]; omega⟩
      · have hf' : figB (bs.getD k 0) = false := by simpa using hf
        have HN := Lib.hid (numGo_stop x bs k kx hf')
        obtain ⟨y, hy⟩ : ∃ y, bs.getD k 0 = y := ⟨_, rfl⟩
        rw [hy] at q0 c0 hf'
        clear hy kx hf
        have hcall : ∀ W, Calls Tryd.prog 166 #[.int .u8 y] W (fun e w' => e = .returned (.bool false) ∧ W = w') := fun W => by have := num_Take1 y W; rwa [hf'] at this
        clear hf'
        go_wp2_with (go_at_call 166; refine (hcall _).mono ?_; rintro e w1 ⟨rfl, rfl⟩)
        go_ret2
        rw [← hR.out, HN.out]
        exact ⟨by simp, q, rfl⟩
    · obtain rfl : k = n := by omega
      have HN := Lib.hid (show numGo x (bs.drop k) = (x, 0) from by rw [List.drop_of_length_le (by omega)]; rfl)
      go_wp2
      go_ret2
      rw [← hR.out, HN.out]
      exact ⟨by simp, q, rfl⟩
end Go.Proofs.YtieppcjpbjefkaaDoor

/- Contracts of package wire: number. -/
namespace Go.Proofs.YtieppcjpbjefkaaDoor
open Go.RowKit Go.Proofs Go.Lib

def u8s (l : List UInt8) : List Int := l.map fun b => (b.toNat : Int)
theorem u8s_length (l : List UInt8) : (u8s l).length = l.length := by simp [u8s]
theorem u8s_range (l : List UInt8) (i : Nat) : 0 ≤ (u8s l).getD i 0 ∧ (u8s l).getD i 0 < 256 := by
  rw [List.getD_eq_getElem?_getD, u8s, List.getElem?_map]
  cases l[i]? with
  | none => simp
  | some b => have := b.toNat_lt; simp; omega
/-- []byte of a text -/
theorem conv_bytes (W : World) (l : List UInt8) : ∃ c, l.length ≤ c ∧ (convert 9 31 (.string ⟨l.toArray⟩)).run Tryd.prog W = .ok (.slice (some ⟨W.heap.size, 0, none⟩) l.length c) (Lib.bytesWorld W 5 ⟨l.toArray⟩) := by
  refine ⟨_, ?_, Lib.run_convert_string_bytes (u := .string) W _ _ 5 ⟨l.toArray⟩ (by kernel_rfl) (by kernel_rfl) (by kernel_rfl)⟩
  have := grownCap_ge W (⟨l.toArray⟩ : ByteArray).size 0 5
  simpa [ByteArray.size] using this
theorem conv_below {w W : World} (h : Below w.heap.size w W) (s : ByteArray) (e : TypeId) : Below w.heap.size w (Lib.bytesWorld W e s) :=
  below_then h ⟨rfl, rfl, rfl, by rw [Lib.bytesWorld_size]; omega, fun j hj => Lib.bytesWorld_at_old W e s j hj⟩
theorem conv_in (W : World) (l : List UInt8) (e : TypeId) : Lib.BytesIn (Lib.bytesWorld W e ⟨l.toArray⟩) (some ⟨W.heap.size, 0, none⟩) l.length (u8s l) := fun h0 => by
  refine ⟨W.heap.size, 0, rfl, fun i hi => ?_⟩
  rw [Nat.zero_add, Lib.bytesWorld_cell _ _ _ _ (by simpa [ByteArray.size] using hi)]
  simp [u8s, List.getD_eq_getElem?_getD, List.getElem?_eq_getElem hi]

/-- a part of a parameter -/
def numberL (t : List UInt8) : Int := if t.isEmpty then -1 else (numTakeL (u8s t)).1

set_option maxRecDepth 100000 in
set_option maxHeartbeats 2000000 in
theorem wire_number (t : List UInt8) (w : World) (ht : t.length ≤ 1000000000) :
    Calls Tryd.prog 137 #[.string ⟨t.toArray⟩] w (IntIs w (numberL t)) := by
  have hcv := fun W => conv_bytes W t
  have hN := fun (W : World) (c : Nat) => num_Take (some ⟨W.heap.size, 0, none⟩) t.length c (u8s t) (Lib.bytesWorld W 5 ⟨t.toArray⟩) (by omega) (u8s_length t) (u8s_range t) (conv_in W t _)
  obtain ⟨c, hc, hr⟩ := hcv w
  have HN := Lib.hid (hN w c)
  have hb := conv_below (Below.refl _ w) ⟨t.toArray⟩ 5
  unfold numberL
  obtain ⟨A, hA⟩ : ∃ A, (if t.isEmpty then (-1 : Int) else (numTakeL (u8s t)).1) = A := ⟨_, rfl⟩
  rw [hA]
  have HA := Lib.hid hA
  clear hcv hN hA
  go_enter Tryd.func137, Tryd.ntmps137
  go_wp2_with (go_at_call 157; refine (HN.out).mono ?_; rintro e w1 ⟨rfl, q, rfl⟩)
  all_goals
    go_ret
    refine ⟨?_, by first | exact below_drewN hb _ | exact Below.refl _ _⟩
    have h := HA.out
    clear HN HA hr
    simp_all
end Go.Proofs.YtieppcjpbjefkaaDoor

/- Contracts of package wire: what sequences may be. -/
namespace Go.Proofs.YtieppcjpbjefkaaDoor
open Go.RowKit Go.Proofs Go.Lib

/-- cells that hold values, one behind the other -/
def CellsIn (w : World) (p : Option Addr) (vs : List Value) : Prop := 0 < vs.length → ∃ b o, p = some ⟨b, o, none⟩ ∧ ∀ i v, vs[i]? = some v → w.cell? ⟨b, o + i, none⟩ = some v
theorem CellsIn.later {w w1 : World} {p : Option Addr} {vs : List Value} (h : CellsIn w p vs) (hb : Below w.heap.size w w1) : CellsIn w1 p vs := fun h0 => by
  obtain ⟨b, o, rfl, hc⟩ := h h0
  exact ⟨b, o, rfl, fun i v hv => cell_old hb (hc i v hv)⟩
/-- a value that is a slice of ints -/
def RowIs (w : World) (v : Value) (xs : List Int) : Prop := ∃ p c, v = .slice p xs.length c ∧ xs.length ≤ c ∧ c ≤ 9223372036854775807 ∧ CellsIn w p (nums .i64 xs) ∧ ∀ x, x ∈ xs → -9223372036854775808 ≤ x ∧ x ≤ 9223372036854775807
theorem RowIs.later {w w1 : World} {v : Value} {xs : List Int} (h : RowIs w v xs) (hb : Below w.heap.size w w1) : RowIs w1 v xs := by
  obtain ⟨p, c, rfl, h1, h2, h3, h4⟩ := h
  exact ⟨p, c, rfl, h1, h2, h3.later hb, h4⟩
/-- a value that is a slice of slices of ints -/
def Rows2 (w : World) (v : Value) (ll : List (List Int)) : Prop := ∃ p c vs, v = .slice p ll.length c ∧ ll.length ≤ c ∧ c ≤ 9223372036854775807 ∧ vs.length = ll.length ∧ CellsIn w p vs ∧ ∀ (i : Nat) (u : Value) (xs : List Int), vs[i]? = some u → ll[i]? = some xs → RowIs w u xs
theorem Rows2.later {w w1 : World} {v : Value} {ll : List (List Int)} (h : Rows2 w v ll) (hb : Below w.heap.size w w1) : Rows2 w1 v ll := by
  obtain ⟨p, c, vs, rfl, h1, h2, h3, h4, h5⟩ := h
  exact ⟨p, c, vs, rfl, h1, h2, h3, h4.later hb, fun i u xs hu hx => (h5 i u xs hu hx).later hb⟩
/-- row i of such a slice -/
theorem Rows2.at {w : World} {p : Option Addr} {n c : Nat} {ll : List (List Int)} (h : Rows2 w (.slice p n c) ll) : n = ll.length ∧ n ≤ c ∧ c ≤ 9223372036854775807 ∧ (0 < n → ∃ b o, p = some ⟨b, o, none⟩ ∧ ∀ i, i < n → ∃ q d, w.cell? ⟨b, o + i, none⟩ = some (.slice q (ll.getD i []).length d) ∧ (ll.getD i []).length ≤ d ∧ d ≤ 9223372036854775807 ∧ CellsIn w q (nums .i64 (ll.getD i [])) ∧ ∀ x, x ∈ ll.getD i [] → -9223372036854775808 ≤ x ∧ x ≤ 9223372036854775807) := by
  obtain ⟨p', c', vs, he, h1, h2, h3, h4, h5⟩ := h
  cases he
  refine ⟨rfl, h1, h2, fun h0 => ?_⟩
  obtain ⟨b, o, rfl, hc⟩ := h4 (by omega)
  refine ⟨b, o, rfl, fun i hi => ?_⟩
  have hv : i < vs.length := by omega
  obtain ⟨q, d, he, h6, h7, h8, h9⟩ := h5 i vs[i] (ll.getD i []) (List.getElem?_eq_getElem hv) (by rw [List.getD_eq_getElem?_getD, List.getElem?_eq_getElem hi]; rfl)
  exact ⟨q, d, by rw [hc i _ (List.getElem?_eq_getElem hv), he], h6, h7, h8, h9⟩
theorem ints_at {w : World} {p : Option Addr} {xs : List Int} (h : CellsIn w p (nums .i64 xs)) (h0 : 0 < xs.length) : ∃ b o, p = some ⟨b, o, none⟩ ∧ ∀ i, i < xs.length → w.cell? ⟨b, o + i, none⟩ = some (.int .i64 (xs.getD i 0)) := by
  obtain ⟨b, o, rfl, hc⟩ := h (by rw [nums_length]; exact h0)
  exact ⟨b, o, rfl, fun i hi => hc i _ (nums_get _ _ i hi)⟩

/-- a rune beyond two bounds -/
def beyond (a b : Int) (x : Nat) : Bool := decide ((x : Int) < a) || decide ((x : Int) > b)

set_option maxRecDepth 100000 in
set_option maxHeartbeats 1000000 in
theorem wire_between1 (x : Nat) (p1 p2 : Addr) (a b : Int) (w : World) (h1 : w.cell? p1 = some (.int .u8 a)) (h2 : w.cell? p2 = some (.int .u8 b)) (ha0 : 0 ≤ a) (ha : a < 256) (hb0 : 0 ≤ b) (hb : b < 256) :
    Calls Tryd.prog 104 #[.int .i32 x, .pointer (some p1), .pointer (some p2)] w (fun e w' => e = .returned (.bool (beyond a b x)) ∧ w = w') := by
  cases d1 : decide ((x : Int) < a) <;> cases d2 : decide ((x : Int) > b)
  all_goals
    have HF := Lib.hid (show beyond a b x = _ from by rw [beyond, d1, d2])
    go_enter Tryd.func104, Tryd.ntmps104
    go_wp2
    go_ret
    rw [HF.out]
    exact ⟨rfl, rfl⟩

def BoolIs (w : World) (b : Bool) (e : Ending) (w' : World) : Prop := e = .returned (.bool b) ∧ Below w.heap.size w w'
theorem box_cell (W : World) (v : Value) (t : TypeId) (n : Nat) (h : n = W.heap.size) : (W.alloc (.cells #[v] t)).cell? ⟨n, 0, none⟩ = some v := by
  subst h
  rw [World.cell?_alloc_at _ _ _ _ (by simp)]; rfl
theorem wire_pred (p1 p2 : Addr) (a b : Int) (w : World) (h1 : w.cell? p1 = some (.int .u8 a)) (h2 : w.cell? p2 = some (.int .u8 b)) (ha0 : 0 ≤ a) (ha : a < 256) (hb0 : 0 ≤ b) (hb : b < 256) :
    PredAt Tryd.prog 104 #[.pointer (some p1), .pointer (some p2)] encR (beyond a b) w := fun W x hbl =>
  (wire_between1 x p1 p2 a b W (cell_old hbl h1) (cell_old hbl h2) ha0 ha hb0 hb).mono fun e w' h => ⟨h.1, 0, by rw [← h.2]; rfl⟩

set_option maxRecDepth 100000 in
set_option maxHeartbeats 1000000 in
theorem wire_between0 (s : ByteArray) (a b : Int) (w : World) (ha0 : 0 ≤ a) (ha : a < 256) (hb0 : 0 ≤ b) (hb : b < 256) :
    Calls Tryd.prog 55 #[.string s, .int .u8 a, .int .u8 b] w (BoolIs w (!(decide (0 ≤ Lib.idxFunc (beyond a b) true s)))) := by
  obtain ⟨d, hd⟩ : ∃ d, decide (0 ≤ Lib.idxFunc (beyond a b) true s) = d := ⟨_, rfl⟩
  rw [hd]
  have HD := Lib.hid hd
  clear hd
  go_enter Tryd.func55, Tryd.ntmps55
  go_wp2_with (go_at_call 103; refine (Tryd.strings_ContainsFunc 104 _ (fun _ _ => by kernel_rfl) (beyond a b) _ _ (wire_pred _ _ a b _ (cell_old (below_alloc (Below.refl _ _) _) (box_cell _ _ _ _ rfl)) (box_cell _ _ _ _ (by simp)) ha0 ha hb0 hb)).mono ?_; rintro e w1 ⟨rfl, hb1⟩; rw [HD.out])
  go_ret
  exact ⟨rfl, below_then (below_alloc (below_alloc (Below.refl _ _) _) _) hb1⟩

/-- all bytes stand between two -/
def betB (a b : Int) (l : List UInt8) : Bool := l.all fun c => decide (a ≤ (c.toNat : Int)) && decide ((c.toNat : Int) ≤ b)

def intBeyond (n : Int) : Bool := decide (n < -1) || decide (n > 1114111)
set_option maxRecDepth 100000 in
set_option maxHeartbeats 1000000 in
theorem wire_listed1 (n : Int) (w : World) :
    Calls Tryd.prog 106 #[.int .i64 n] w (fun e w' => e = .returned (.bool (intBeyond n)) ∧ w = w') := by
  cases d1 : decide (n < -1) <;> cases d2 : decide (n > 1114111)
  all_goals
    have HF := Lib.hid (show intBeyond n = _ from by rw [intBeyond, d1, d2])
    go_enter Tryd.func106, Tryd.ntmps106
    go_wp2
    go_ret
    rw [HF.out]
    exact ⟨rfl, rfl⟩

theorem any_snoc (l : List Int) (k : Nat) (hk : k < l.length) (p : Int → Bool) : (l.take (k + 1)).any p = ((l.take k).any p || p (l.getD k 0)) := by
  rw [List.take_succ_eq_append_getElem hk, List.any_append]
  simp [List.getD_eq_getElem?_getD, List.getElem?_eq_getElem hk]

set_option maxRecDepth 100000 in
set_option maxHeartbeats 1000000 in
theorem slices_IndexFunc_listed (p : Option Addr) (c : Nat) (xs : List Int) (w : World) (hn : xs.length ≤ 9223372036854775807) (hin : CellsIn w p (nums .i64 xs)) :
    Calls Tryd.prog 134 #[.slice p xs.length c, .func (.func 106) #[] #[]] w (fun e w' => ∃ r, e = .returned (.int .i64 r) ∧ decide (r ≥ 0) = xs.any intBeyond ∧ w = w') := by
  have hmx : Tryd.prog.follows .mixedOrders = true := by kernel_rfl
  obtain ⟨n, hl⟩ : ∃ n, xs.length = n := ⟨_, rfl⟩
  rw [hl] at hn ⊢
  go_enter Tryd.func134, Tryd.ntmps134
  go_wp2
  go_loopw [8] (fun i wr => ∃ (k : Nat), k ≤ n ∧ i = .int .i64 k ∧ Hid ((xs.take k).any intBeyond = false) ∧ wr = w) (fun i _ => n - (intOf i).toNat)
  case atStart => exact ⟨0, by omega, rfl, Lib.hid rfl, rfl⟩
  case round =>
    obtain ⟨k, hk, rfl, hR, rfl⟩ := hrel
    by_cases hlt : k < n
    · have hd : decide ((k : Int) < (n : Int)) = true := by simp; omega
      obtain ⟨b, o, rfl, g⟩ := ints_at hin (by omega)
      have c0 := g k (by omega)
      clear g hin
      have HN := Lib.hid (any_snoc xs k (by omega) intBeyond)
      obtain ⟨y, hy⟩ : ∃ y, xs.getD k 0 = y := ⟨_, rfl⟩
      rw [hy] at c0 HN
      clear hy
      obtain ⟨r, hr⟩ : ∃ r, intBeyond y = r := ⟨_, rfl⟩
      rw [hr] at HN
      have hcall : ∀ W, Calls Tryd.prog 106 #[.int .i64 y] W (fun e w' => e = .returned (.bool r) ∧ W = w') := fun W => by have := wire_listed1 y W; rwa [hr] at this
      clear hr
      cases r
      · go_wp2_with (go_at_call 106; refine (hcall _).mono ?_; rintro e w1 ⟨rfl, rfl⟩)
        exact ⟨⟨k + 1, by omega, by go_num, Lib.hid (by rw [HN.out, hR.out]; rfl), trivial⟩, by simp [intOf]; omega⟩
      · go_wp2_with (go_at_call 106; refine (hcall _).mono ?_; rintro e w1 ⟨rfl, rfl⟩)
        go_ret
        refine ⟨_, rfl, ?_, rfl⟩
        have h1 : (xs.take (k + 1)).any intBeyond = true := by rw [HN.out]; simp
        have h2 : xs.any intBeyond = true := by
          obtain ⟨x, hx, hp⟩ := List.any_eq_true.1 h1
          exact List.any_eq_true.2 ⟨x, List.mem_of_mem_take hx, hp⟩
        rw [h2]; simp
    · obtain rfl : k = n := by omega
      go_wp2
      go_ret
      refine ⟨_, rfl, ?_, rfl⟩
      have := hR.out
      rw [List.take_of_length_le (by omega)] at this
      rw [this]; rfl

set_option maxRecDepth 100000 in
set_option maxHeartbeats 1000000 in
theorem slices_ContainsFunc_listed (p : Option Addr) (c : Nat) (xs : List Int) (w : World) (hn : xs.length ≤ 9223372036854775807) (hin : CellsIn w p (nums .i64 xs)) :
    Calls Tryd.prog 105 #[.slice p xs.length c, .func (.func 106) #[] #[]] w (fun e w' => e = .returned (.bool (xs.any intBeyond)) ∧ w = w') := by
  obtain ⟨d, hd⟩ : ∃ d, xs.any intBeyond = d := ⟨_, rfl⟩
  rw [hd]
  have HC := Lib.hid (slices_IndexFunc_listed p c xs w hn hin)
  rw [hd] at HC
  clear hd
  go_enter Tryd.func105, Tryd.ntmps105
  go_wp2_with (go_at_call 134; refine (HC.out).mono ?_; rintro e w1 ⟨r, rfl, hr, rfl⟩)
  go_ret
  exact ⟨rfl, rfl⟩
end Go.Proofs.YtieppcjpbjefkaaDoor

/- Contracts of Go's library at this program's instances: strings.ContainsRune of a rune from 128 to 255 in wire's own list of bytes. -/
namespace Go.Proofs.YtieppcjpbjefkaaDoor
open Go.RowKit Go.Proofs Go.Lib

def firstsS : ByteArray := ⟨#[79, 80, 88, 91, 93, 92, 94, 95]⟩

theorem encode_high : ∀ k : Fin 128, Utf8.encode (128 + (k.val : Int)) = ⟨#[(192 + (128 + k.val) / 64).toUInt8, (128 + k.val % 64).toUInt8]⟩ := by decide +kernel
theorem encode_two (r : Int) (h0 : 128 ≤ r) (h1 : r < 256) : ∃ b0 b1 : UInt8, Utf8.encode r = ⟨#[b0, b1]⟩ ∧ 128 ≤ b1.toNat := by
  have := encode_high ⟨(r - 128).toNat, by omega⟩
  rw [show (128 + (((⟨(r - 128).toNat, by omega⟩ : Fin 128).val : Nat) : Int)) = r from by simp; omega] at this
  refine ⟨_, _, this, ?_⟩
  rw [Nat.toUInt8, UInt8.toNat_ofNat_of_lt' (by simp [UInt8.size]; omega)]
  omega

theorem high_none : ∀ k : Fin 256, 128 ≤ k.val → Lib.indexByte [88, 91, 93, 92, 94, 95] ((k.val : Int).toNat.toUInt8) = -1 := by decide +kernel

set_option maxRecDepth 100000 in
set_option maxHeartbeats 1000000 in
theorem strings_IndexRune_high (r : Int) (w : World) (h0 : 128 ≤ r) (h1 : r < 256) :
    Calls Tryd.prog 135 #[.string firstsS, .int .i32 r] w (fun e w' => e = .returned (.int .i64 (-1)) ∧ ∃ q, w' = w.drewN q) := by
  have hv : Lib.validRune r = true := by simp [Lib.validRune]; omega
  have d1 : decide (0 ≤ r) = true := by simp; omega
  have d2 : decide (r < 128) = false := by simp; omega
  have d3 : (r == 65533) = false := by simp; omega
  unfold firstsS
  obtain ⟨b0, b1, he, hb⟩ := encode_two r h0 h1
  have hcv : ∀ w, (convert 21 9 (.int .i32 r)).run Tryd.prog w = .ok (.string ⟨#[b0, b1]⟩) w := fun w => by rw [← he]; exact run_convert_int_string w _ _ _ _ (by kernel_rfl) (by kernel_rfl)
  clear he
  have i1 : ∀ w, (Instr.index 9 (.string ⟨#[79, 80, 88, 91, 93, 92, 94, 95]⟩) (.int .i64 1)).run Tryd.prog w = .ok (.int .u8 80) w := fun _ => by kernel_rfl
  have i2 : ∀ w, (Instr.index 9 (.string ⟨#[b0, b1]⟩) (.int .i64 1)).run Tryd.prog w = .ok (.int .u8 b1.toNat) w := fun _ => by kernel_rfl
  have hq : ((80 : Int) != (b1.toNat : Int)) = true := by rw [bne_iff_ne]; omega
  have hix : Lib.indexByte ((⟨#[79, 80, 88, 91, 93, 92, 94, 95]⟩ : ByteArray).extract 2 8).data.toList (b1.toNat : Int).toNat.toUInt8 = -1 := by
    rw [show ((⟨#[79, 80, 88, 91, 93, 92, 94, 95]⟩ : ByteArray).extract 2 8).data.toList = [88, 91, 93, 92, 94, 95] from by decide +kernel]
    exact high_none ⟨b1.toNat, b1.toNat_lt⟩ hb
  go_enter Tryd.func135, Tryd.ntmps135
  go_wp2_with (first | (go_at_call 153; refine (Tryd.utf8_ValidRune _ _).mono ?_; rintro e w1 ⟨rfl, rfl⟩; rw [hv]) | (go_at_call 152; refine (Tryd.strings_IndexByte _ _ _).mono ?_; rintro e w1 ⟨rfl, rfl⟩))
  go_step3
  go_wp2
  refine wp_loop_rounds 1 ?_
  rw [rounds_succ]
  go_wp2
  go_step3
  go_wp2
  go_quiet (fail)
  go_wp2
  go_region_with (go_at_call 152; refine (Tryd.strings_IndexByte _ _ _).mono ?_; rintro e w2 ⟨rfl, rfl⟩; rw [hix])
  all_goals first
    | (exfalso; rename_i h; exact h (by decide))
    | (go_wp2; rw [Exit.noGoto_ret]; go_wp2; rw [Exit.noGoto_ret]; go_wp2; go_ret; exact ⟨rfl, _, rfl⟩)

set_option maxRecDepth 100000 in
set_option maxHeartbeats 1000000 in
theorem strings_ContainsRune_high (r : Int) (w : World) (h0 : 128 ≤ r) (h1 : r < 256) :
    Calls Tryd.prog 107 #[.string firstsS, .int .i32 r] w (fun e w' => e = .returned (.bool false) ∧ ∃ q, w' = w.drewN q) := by
  go_enter Tryd.func107, Tryd.ntmps107
  go_wp2_with (go_at_call 135; refine (strings_IndexRune_high _ _ h0 h1).mono ?_; rintro e w1 ⟨rfl, q, rfl⟩)
  go_ret
  exact ⟨rfl, _, rfl⟩

/-- is a byte one of wire's own -/
def firstB (c : Int) : Bool := c == 79 || c == 80 || c == 88 || c == 91 || c == 93 || c == 92 || c == 94 || c == 95
theorem firstB_low : ∀ k : Fin 128, decide (0 ≤ Lib.indexByte firstsS.data.toList ((k.val : Int).toNat.toUInt8)) = firstB k.val := by decide +kernel

theorem strings_ContainsRune_firsts (r : Int) (w : World) (h0 : 0 ≤ r) (h1 : r < 256) :
    Calls Tryd.prog 107 #[.string firstsS, .int .i32 r] w (fun e w' => e = .returned (.bool (firstB r)) ∧ ∃ q, w' = w.drewN q) := by
  by_cases h : r < 128
  · refine (Tryd.strings_ContainsRune_ascii firstsS r w h0 h).mono ?_
    rintro e w1 ⟨rfl, rfl⟩
    have := firstB_low ⟨r.toNat, by omega⟩
    simp only [Int.toNat_of_nonneg h0] at this
    rw [this]
    exact ⟨rfl, 0, rfl⟩
  · have : firstB r = false := by simp [firstB]; omega
    rw [this]
    exact strings_ContainsRune_high r w (by omega) h1
end Go.Proofs.YtieppcjpbjefkaaDoor

/- Contracts of package wire: what sequences may be: listed, shaped, May. -/
namespace Go.Proofs.YtieppcjpbjefkaaDoor
open Go.RowKit Go.Proofs Go.Lib

structure SeqD where
  kind : Int
  priv : Int
  params : List (List Int)
  inter : List UInt8
  final : Int
  data : List UInt8

def SeqIs (w : World) (v : Value) (s : SeqD) : Prop := ∃ pv, v = .agg #[.int .i64 s.kind, .int .u8 s.priv, pv, .string ⟨s.inter.toArray⟩, .int .u8 s.final, .string ⟨s.data.toArray⟩] ∧ Rows2 w pv s.params ∧
  -9223372036854775808 ≤ s.kind ∧ s.kind ≤ 9223372036854775807 ∧ 0 ≤ s.priv ∧ s.priv < 256 ∧ 0 ≤ s.final ∧ s.final < 256 ∧ s.inter.length ≤ 9223372036854775807 ∧ s.data.length ≤ 9223372036854775807
theorem SeqIs.later {w w1 : World} {v : Value} {s : SeqD} (h : SeqIs w v s) (hb : Below w.heap.size w w1) : SeqIs w1 v s := by
  obtain ⟨pv, he, h1, h2⟩ := h
  exact ⟨pv, he, h1.later hb, h2⟩

/-- whether a sequence has what its kind has -/
def shapedB (k pr : Int) (n : Nat) (it : List UInt8) (fi : Int) (da : List UInt8) : Bool :=
  if k = 1 then da.isEmpty && decide (64 ≤ fi) && decide (fi ≤ 126)
  else if k = 3 then decide (64 ≤ fi) && decide (fi ≤ 126)
  else if k = 2 then (pr == 0) && ((n : Int) == 0) && it.isEmpty && da.isEmpty && decide (64 ≤ fi) && decide (fi ≤ 126)
  else if k = 4 then (pr == 0) && ((n : Int) == 0) && it.isEmpty && (fi == 0)
  else if k = 5 then (pr == 0) && ((n : Int) == 0) && da.isEmpty && (!it.isEmpty || !firstB fi) && decide (48 ≤ fi) && decide (fi ≤ 126)
  else false

set_option maxRecDepth 100000 in
set_option maxHeartbeats 1000000 in
theorem wire_shaped1 (pr fi : Int) (p : Option Addr) (n c : Nat) (it da : List UInt8) (w : World) :
    Calls Tryd.prog 57 #[.agg #[.int .i64 1, .int .u8 pr, .slice p n c, .string ⟨it.toArray⟩, .int .u8 fi, .string ⟨da.toArray⟩]] w (BoolIs w (da.isEmpty && decide (64 ≤ fi) && decide (fi ≤ 126))) := by
  go_enter Tryd.func57, Tryd.ntmps57
  go_wp2
  all_goals
    go_ret
    refine ⟨?_, below_alloc (Below.refl _ _) _⟩
    simp_all <;> omega
set_option maxRecDepth 100000 in
set_option maxHeartbeats 1000000 in
theorem wire_shaped3 (pr fi : Int) (p : Option Addr) (n c : Nat) (it da : List UInt8) (w : World) :
    Calls Tryd.prog 57 #[.agg #[.int .i64 3, .int .u8 pr, .slice p n c, .string ⟨it.toArray⟩, .int .u8 fi, .string ⟨da.toArray⟩]] w (BoolIs w (decide (64 ≤ fi) && decide (fi ≤ 126))) := by
  go_enter Tryd.func57, Tryd.ntmps57
  go_wp2
  all_goals
    go_ret
    refine ⟨?_, below_alloc (Below.refl _ _) _⟩
    simp_all <;> omega
set_option maxRecDepth 100000 in
set_option maxHeartbeats 1000000 in
theorem wire_shaped2 (pr fi : Int) (p : Option Addr) (n c : Nat) (it da : List UInt8) (w : World) :
    Calls Tryd.prog 57 #[.agg #[.int .i64 2, .int .u8 pr, .slice p n c, .string ⟨it.toArray⟩, .int .u8 fi, .string ⟨da.toArray⟩]] w (BoolIs w ((pr == 0) && ((n : Int) == 0) && it.isEmpty && da.isEmpty && decide (64 ≤ fi) && decide (fi ≤ 126))) := by
  go_enter Tryd.func57, Tryd.ntmps57
  go_wp2
  all_goals
    go_ret
    refine ⟨?_, below_alloc (Below.refl _ _) _⟩
    simp_all <;> omega
set_option maxRecDepth 100000 in
set_option maxHeartbeats 1000000 in
theorem wire_shaped4 (pr fi : Int) (p : Option Addr) (n c : Nat) (it da : List UInt8) (w : World) :
    Calls Tryd.prog 57 #[.agg #[.int .i64 4, .int .u8 pr, .slice p n c, .string ⟨it.toArray⟩, .int .u8 fi, .string ⟨da.toArray⟩]] w (BoolIs w ((pr == 0) && ((n : Int) == 0) && it.isEmpty && (fi == 0))) := by
  go_enter Tryd.func57, Tryd.ntmps57
  go_wp2
  all_goals
    go_ret
    refine ⟨?_, below_alloc (Below.refl _ _) _⟩
    simp_all <;> omega
set_option maxRecDepth 100000 in
set_option maxHeartbeats 1000000 in
theorem wire_shaped5 (pr fi : Int) (p : Option Addr) (n c : Nat) (it da : List UInt8) (w : World) (h0 : 0 ≤ fi) (h1 : fi < 256) :
    Calls Tryd.prog 57 #[.agg #[.int .i64 5, .int .u8 pr, .slice p n c, .string ⟨it.toArray⟩, .int .u8 fi, .string ⟨da.toArray⟩]] w (BoolIs w ((pr == 0) && ((n : Int) == 0) && da.isEmpty && (!it.isEmpty || !firstB fi) && decide (48 ≤ fi) && decide (fi ≤ 126))) := by
  have hF := fun w => strings_ContainsRune_firsts fi w h0 h1
  unfold firstsS at hF
  obtain ⟨f, hf⟩ : ∃ f, firstB fi = f := ⟨_, rfl⟩
  rw [hf]
  rw [hf] at hF
  have HF := Lib.hid hF
  clear hF hf
  go_enter Tryd.func57, Tryd.ntmps57
  go_wp2_with (go_at_call 107; refine (HF.out _).mono ?_; rintro e w1 ⟨rfl, q, rfl⟩)
  all_goals
    go_ret
    refine ⟨?_, by first | exact below_alloc (Below.refl _ _) _ | exact below_drewN (below_alloc (Below.refl _ _) _) _⟩
    simp_all <;> omega
set_option maxRecDepth 100000 in
set_option maxHeartbeats 1000000 in
theorem wire_shaped0 (k pr fi : Int) (p : Option Addr) (n c : Nat) (it da : List UInt8) (w : World) (k1 : (k == 1) = false) (k2 : (k == 2) = false) (k3 : (k == 3) = false) (k4 : (k == 4) = false) (k5 : (k == 5) = false) :
    Calls Tryd.prog 57 #[.agg #[.int .i64 k, .int .u8 pr, .slice p n c, .string ⟨it.toArray⟩, .int .u8 fi, .string ⟨da.toArray⟩]] w (BoolIs w false) := by
  go_enter Tryd.func57, Tryd.ntmps57
  go_wp2
  all_goals
    go_ret
    exact ⟨rfl, below_alloc (Below.refl _ _) _⟩
theorem wire_shaped (k pr fi : Int) (p : Option Addr) (n c : Nat) (it da : List UInt8) (w : World) (h0 : 0 ≤ fi) (h1 : fi < 256) :
    Calls Tryd.prog 57 #[.agg #[.int .i64 k, .int .u8 pr, .slice p n c, .string ⟨it.toArray⟩, .int .u8 fi, .string ⟨da.toArray⟩]] w (BoolIs w (shapedB k pr n it fi da)) := by
  unfold shapedB
  by_cases h : k = 1
  · subst h; rw [if_pos rfl]; exact wire_shaped1 pr fi p n c it da w
  rw [if_neg h]
  by_cases h' : k = 3
  · subst h'; rw [if_pos rfl]; exact wire_shaped3 pr fi p n c it da w
  rw [if_neg h']
  by_cases h2 : k = 2
  · subst h2; rw [if_pos rfl]; exact wire_shaped2 pr fi p n c it da w
  rw [if_neg h2]
  by_cases h3 : k = 4
  · subst h3; rw [if_pos rfl]; exact wire_shaped4 pr fi p n c it da w
  rw [if_neg h3]
  by_cases h4 : k = 5
  · subst h4; rw [if_pos rfl]; exact wire_shaped5 pr fi p n c it da w h0 h1
  rw [if_neg h4]
  exact wire_shaped0 k pr fi p n c it da w (by simpa using h) (by simpa using h2) (by simpa using h') (by simpa using h3) (by simpa using h4)

/-- whether parameters may be -/
def rowOk (p : List Int) : Bool := !(p.any intBeyond) && decide (1 ≤ p.length) && decide (p.length ≤ 8)
def listedB (ll : List (List Int)) : Bool := decide (ll.length ≤ 16) && !(decide (ll.length = 1) && (ll.getD 0 [] == [-1])) && ll.all rowOk
theorem all_snoc (l : List (List Int)) (k : Nat) (hk : k < l.length) (p : List Int → Bool) : (l.take (k + 1)).all p = ((l.take k).all p && p (l.getD k [])) := by
  rw [List.take_succ_eq_append_getElem hk, List.all_append]
  simp [List.getD_eq_getElem?_getD, List.getElem?_eq_getElem hk]

theorem cellsIn_new (W : World) (vs : List Value) (arr : Array Value) (t : TypeId) (n : Nat) (h : n = W.heap.size) (ha : arr = vs.toArray) : CellsIn (W.alloc (.cells arr t)) (some ⟨n, 0, none⟩) vs := fun _ => by
  subst h ha
  refine ⟨_, _, rfl, fun i v hv => ?_⟩
  rw [World.cell?_alloc_at _ _ _ _ (by simp)]
  simpa using hv

theorem eq_ints (p q : Option Addr) (c d : Nat) (xs ys : List Int) (w : World) (hx : xs.length ≤ 9223372036854775807) (hy : ys.length ≤ 9223372036854775807) (h1 : CellsIn w p (nums .i64 xs)) (h2 : CellsIn w q (nums .i64 ys)) :
    Calls Tryd.prog 65 #[.slice p xs.length c, .slice q ys.length d] w (SameB w (xs == ys)) := by
  by_cases h0 : xs.length = 0
  · have : xs = [] := List.length_eq_zero_iff.1 h0
    subst this
    refine (Tryd.slices_Equal_int_empty p q c ys.length d w hy).mono ?_
    rintro e w' ⟨rfl, rfl⟩
    refine ⟨?_, 0, rfl⟩
    congr 2
    cases ys <;> simp <;> rfl
  by_cases h0' : ys.length = 0
  · refine (Tryd.slices_Equal_int_lens p q xs.length c ys.length d w (by omega)).mono ?_
    rintro e w' ⟨rfl, rfl⟩
    refine ⟨?_, 0, rfl⟩
    congr 2
    symm
    rw [beq_eq_false_iff_ne]
    rintro rfl
    exact h0 h0'
  obtain ⟨b1, o1, rfl, g1⟩ := ints_at h1 (by omega)
  obtain ⟨b2, o2, rfl, g2⟩ := ints_at h2 (by omega)
  refine (Tryd.slices_Equal_int b1 o1 xs.length c b2 o2 ys.length d xs ys w (Nat.le_refl _) (Nat.le_refl _) hx hy g1 g2).mono ?_
  rintro e w' ⟨rfl, q, rfl⟩
  rw [List.take_length, List.take_length]
  exact ⟨rfl, q, rfl⟩

def RowsOk (w : World) (p : Option Addr) (n c : Nat) (ll : List (List Int)) : Prop := Rows2 w (.slice p n c) ll

set_option maxRecDepth 100000 in
set_option maxHeartbeats 1000000 in
theorem wire_listed_loop (p : Option Addr) (n c : Nat) (ll : List (List Int)) (w : World) (hR : RowsOk w p n c ll) (h16 : n ≤ 16) (h1 : (n == 1) = false) :
    Calls Tryd.prog 56 #[.slice p n c] w (BoolIs w (ll.all rowOk)) := by
  have hmx : Tryd.prog.follows .mixedOrders = true := by kernel_rfl
  have hl := hR.at.1.symm
  have hg : decide ((n : Int) > 16) = false := by simp; omega
  have h1' : ((n : Int) == 1) = false := by simp at h1 ⊢; omega
  go_enter Tryd.func56, Tryd.ntmps56
  go_wp2
  go_loopw [23] (fun i wr => ∃ (k : Nat), k ≤ n ∧ i = .int .i64 k ∧ Hid ((ll.take k).all rowOk = true) ∧ Below w.heap.size w wr ∧ RowsOk wr p n c ll) (fun i _ => n - (intOf i).toNat)
  case atStart => exact ⟨0, by omega, rfl, Lib.hid rfl, Below.refl _ _, hR⟩
  case round =>
    obtain ⟨k, hk, rfl, hA, hB, hRk⟩ := hrel
    by_cases hlt : k < n
    · have hd : decide ((k : Int) < (n : Int)) = true := by simp; omega
      obtain ⟨b, o, rfl, g⟩ := hRk.at.2.2.2 (by omega)
      obtain ⟨q, d, c0, hd1, hd2, hci, _⟩ := g k hlt
      clear g
      have HN := Lib.hid (all_snoc ll k (by omega) rowOk)
      have HL := Lib.hid (show ll.all rowOk = true → (ll.take (k + 1)).all rowOk = true from fun h => List.all_eq_true.2 fun x hx => List.all_eq_true.1 h x (List.mem_of_mem_take hx))
      obtain ⟨y, hy⟩ : ∃ y, ll.getD k [] = y := ⟨_, rfl⟩
      rw [hy] at c0 HN hd1 hci
      clear hy
      have hcall := slices_ContainsFunc_listed q d y wr (by omega) hci
      have HR := Lib.hid (show rowOk y = (!(y.any intBeyond) && decide (1 ≤ y.length) && decide (y.length ≤ 8)) from rfl)
      obtain ⟨r, hr⟩ : ∃ r, y.any intBeyond = r := ⟨_, rfl⟩
      obtain ⟨m, hm⟩ : ∃ m, y.length = m := ⟨_, rfl⟩
      rw [hr] at hcall HR
      rw [hm] at hcall c0 hd1 HR
      have HC := Lib.hid hcall
      clear hr hm hcall hci
      go_wp2_with (go_at_call 105; refine (HC.out).mono ?_; rintro e w1 ⟨rfl, rfl⟩)
      all_goals first
        | (go_ret
           refine ⟨?_, hB⟩
           have hF : rowOk y = false := by rw [HR.out]; simp_all <;> omega
           have hG : ll.all rowOk = false := by
             cases hG : ll.all rowOk
             · rfl
             · have := HL.out hG
               rw [HN.out, hF] at this
               simp at this
           rw [hG]
           rfl)
        | (refine ⟨⟨k + 1, by omega, by go_num, ?_, hB, hRk⟩, ?_⟩
           · refine Lib.hid ?_
             rw [HN.out, hA.out, HR.out]
             simp_all <;> omega
           · simp [intOf]
             omega)
    · obtain rfl : k = n := by omega
      have hF := hA.out
      rw [List.take_of_length_le (by omega)] at hF
      go_wp2
      go_ret
      rw [hF]
      exact ⟨rfl, hB⟩

set_option maxRecDepth 100000 in
set_option maxHeartbeats 1000000 in
theorem wire_listed_big (p : Option Addr) (n c : Nat) (w : World) (h16 : 16 < n) :
    Calls Tryd.prog 56 #[.slice p n c] w (BoolIs w false) := by
  have hg : decide ((n : Int) > 16) = true := by simp; omega
  go_enter Tryd.func56, Tryd.ntmps56
  go_wp2
  all_goals
    go_ret
    exact ⟨rfl, Below.refl _ _⟩

set_option maxRecDepth 100000 in
set_option maxHeartbeats 1000000 in
theorem wire_listed_one (p : Option Addr) (c : Nat) (y : List Int) (w : World) (hR : RowsOk w p 1 c [y]) :
    Calls Tryd.prog 56 #[.slice p 1 c] w (BoolIs w (!(y == [-1]) && rowOk y)) := by
  have hmx : Tryd.prog.follows .mixedOrders = true := by kernel_rfl
  obtain ⟨b, o, rfl, g⟩ := hR.at.2.2.2 (by omega)
  obtain ⟨q, d, c0, hd1, hd2, hci, _⟩ := g 0 (by omega)
  have hb0 := World.block_lt_of_cell? _ _ c0
  simp only [List.getD_cons_zero, Nat.add_zero] at c0 hd1 hci
  clear g
  have hcall := fun W (h : Below w.heap.size w W) => slices_ContainsFunc_listed q d y W (by omega) (hci.later h)
  have HR := Lib.hid (show rowOk y = (!(y.any intBeyond) && decide (1 ≤ y.length) && decide (y.length ≤ 8)) from rfl)
  have hE := fun W (h : Below w.heap.size w W) c2 a (hx : CellsIn W a (nums .i64 [-1])) => eq_ints q a d c2 y [-1] W (by omega) (by decide) (hci.later h) hx
  obtain ⟨e, he⟩ : ∃ e, (y == [-1]) = e := ⟨_, rfl⟩
  obtain ⟨r, hr⟩ : ∃ r, y.any intBeyond = r := ⟨_, rfl⟩
  obtain ⟨m, hm⟩ : ∃ m, y.length = m := ⟨_, rfl⟩
  rw [hr] at hcall HR
  rw [hm] at hcall c0 hd1 HR hE
  rw [he] at hE ⊢
  rw [HR.out]
  have HC := Lib.hid hcall
  have HE := Lib.hid hE
  clear hr hm hcall hci he hE HR
  go_enter Tryd.func56, Tryd.ntmps56
  go_wp2_with (go_at_call 65; refine ((HE.out) _ (below_alloc (Below.refl _ _) _) 1 _ (cellsIn_new _ _ _ _ _ rfl rfl)).mono ?_; rintro e w1 ⟨rfl, nq, rfl⟩)
  all_goals first
    | (go_ret
       refine ⟨?_, below_drewN (below_alloc (Below.refl _ _) _) _⟩
       simp_all)
    | skip
  refine wp_loop_rounds 2 ?_
  rw [rounds_succ]
  go_wp2_with (go_at_call 105; refine ((HC.out) _ (below_drewN (below_alloc (Below.refl _ _) _) _)).mono ?_; rintro e w1 ⟨rfl, rfl⟩)
  all_goals first
    | (go_ret
       refine ⟨?_, below_drewN (below_alloc (Below.refl _ _) _) _⟩
       simp_all <;> omega)
    | (rw [rounds_succ]
       go_wp2
       go_ret
       refine ⟨?_, below_drewN (below_alloc (Below.refl _ _) _) _⟩
       simp_all <;> omega)

theorem wire_listed (p : Option Addr) (n c : Nat) (ll : List (List Int)) (w : World) (hR : RowsOk w p n c ll) :
    Calls Tryd.prog 56 #[.slice p n c] w (BoolIs w (listedB ll)) := by
  have hl := hR.at.1
  by_cases h16 : 16 < n
  · have : listedB ll = false := by simp [listedB]; omega
    rw [this]
    exact wire_listed_big p n c w h16
  by_cases h1 : n = 1
  · match ll, hl with
    | [], hl => simp at hl; omega
    | y :: z :: r, hl => simp at hl; omega
    | [y], hl =>
      subst h1
      have : listedB [y] = (!(y == [-1]) && rowOk y) := by simp [listedB]
      rw [this]
      exact wire_listed_one p c y w hR
  · have : listedB ll = ll.all rowOk := by
      have h2 : decide (ll.length ≤ 16) = true := by simp; omega
      have h3 : decide (ll.length = 1) = false := by simp; omega
      simp [listedB, h2, h3]
    rw [this]
    exact wire_listed_loop p n c ll w hR (by omega) (by simpa using h1)
end Go.Proofs.YtieppcjpbjefkaaDoor

/- Contracts of package wire: texts of parameters: one, body, glue. -/
namespace Go.Proofs.YtieppcjpbjefkaaDoor
open Go.RowKit Go.Proofs Go.Lib

def strs (l : List (List UInt8)) : List Value := l.map fun s => .string ⟨s.toArray⟩
theorem strs_length (l : List (List UInt8)) : (strs l).length = l.length := by simp [strs]
theorem strs_append (l m : List (List UInt8)) : strs (l ++ m) = strs l ++ strs m := by simp [strs]

theorem Tryd.info_string : (Tryd.prog.info? 9).map (fun i => (i.zero, i.size, i.bytes)) = some (some (.string ⟨#[]⟩), 1, 16) := by kernel_rfl

/-- strings.Join of a row of the call's own -/
theorem join_own (base : Nat) (v : Value) (n : Nat) (ss : List (List UInt8)) (sep : List UInt8) (w : World) (h : w.ownsRow base 9 1 v n (strs ss)) (hn : ss.length ≤ 1000000) (hlen : (Lib.join ss sep).length ≤ 140737488355328) :
    Calls Tryd.prog 100 #[v, .string ⟨sep.toArray⟩] w (StrIs w (Lib.join ss sep)) := by
  have hl : ss.length = n := by have := h.1; simpa [strs_length] using this
  have hm : (ss.map (fun s => (⟨s.toArray⟩ : ByteArray))).map (·.data.toList) = ss := by
    rw [List.map_map]
    conv => rhs; rw [← List.map_id ss]
    exact List.map_congr_left fun s _ => by simp
  rcases h.2 with ⟨rfl, h0⟩ | ⟨g, cap, cur, rfl, hb, hg, hnc, hmc, _, _⟩
  · have : ss = [] := List.length_eq_zero_iff.1 (by rw [hl]; simpa using h0)
    subst this
    simp only [List.length_nil] at hl
    subst hl
    refine (Tryd.strings_Join_none none 0 _ w).mono ?_
    rintro e w' ⟨rfl, rfl⟩
    exact ⟨rfl, Below.refl _ _⟩
  · have hlt : g < w.heap.size := (Array.getElem?_eq_some_iff.1 hg).1
    subst hl
    have hj := Tryd.strings_Join g 0 cap (ss.map (fun s => (⟨s.toArray⟩ : ByteArray))) ⟨sep.toArray⟩ w (fun j x hx => by
      have := h.cells (g := g) rfl j (.string x) (by simp only [strs, List.getElem?_map] at hx ⊢; cases he : ss[j]? <;> simp_all)
      rwa [Go.WideShapes.add_plain] at this) hlt (by simp; omega) (by simpa using hnc) (by rw [hm]; simpa using hlen)
    simp only [List.length_map] at hj
    refine hj.mono ?_
    rintro e w' ⟨rfl, hbl⟩
    refine ⟨?_, hbl⟩
    rw [hm]

def oneL (p : List Int) : List UInt8 := Lib.join (p.map textL) [58]

set_option maxRecDepth 100000 in
set_option maxHeartbeats 2000000 in
theorem wire_one (p : Option Addr) (n c : Nat) (xs : List Int) (w : World) (hl : xs.length = n) (hn : n ≤ 8) (hx : ∀ x, x ∈ xs → -9223372036854775808 ≤ x ∧ x ≤ 9223372036854775807) (hin : CellsIn w p (nums .i64 xs)) (htab : TabOk w) (hj : (oneL xs).length ≤ 140737488355328) :
    Calls Tryd.prog 101 #[.slice p n c] w (StrIs w (oneL xs)) := by
  obtain ⟨i0, hi, hz0, hz1, hz2⟩ := info_parts Tryd.info_string
  have HX := Lib.hid hx
  have HJ := Lib.hid (fun v W (h : World.ownsRow W w.heap.size 9 1 v n (strs (xs.map textL))) => join_own w.heap.size v n (xs.map textL) [58] W h (by simp; omega) hj)
  clear hx hj
  go_enter Tryd.func101, Tryd.ntmps101
  go_wp2
  go_loopw [3, 8] (fun v i wr => ∃ k : Nat, k ≤ n ∧ i = .int .i64 k ∧ wr.ownsRow w.heap.size 9 1 v k (strs ((xs.take k).map textL)) ∧ Below w.heap.size w wr) (fun _ i _ => n - (intOf i).toNat)
  case atStart => exact ⟨0, by omega, rfl, World.ownsRow_nil _ _ _ _, Below.refl _ _⟩
  case round =>
    obtain ⟨k, hk, rfl, hown, hB⟩ := hrel
    by_cases hlt : k < n
    · have hd : decide ((k : Int) < (n : Int)) = true := by simp; omega
      obtain ⟨b, o, rfl, g⟩ := ints_at hin (by omega)
      have c0 := cell_old hB (g k (by omega))
      clear g hin
      have hS : Hid (strs ((xs.take (k + 1)).map textL) = strs ((xs.take k).map textL) ++ [.string ⟨(textL (xs.getD k 0)).toArray⟩]) := Lib.hid (by
        rw [List.take_succ_eq_append_getElem (by omega), List.map_append, strs_append]
        simp [strs, List.getD_eq_getElem?_getD, List.getElem?_eq_getElem (show k < xs.length from by omega)])
      have hxk := HX.out (xs.getD k 0) (by rw [List.getD_eq_getElem?_getD, List.getElem?_eq_getElem (by omega)]; simp)
      obtain ⟨y, hy⟩ : ∃ y, xs.getD k 0 = y := ⟨_, rfl⟩
      rw [hy] at c0 hS hxk
      have HT := Lib.hid (num_Text y wr hxk.1 hxk.2 (htab.later hB))
      clear hy
      go_wp2_with (first
        | (go_at_call 132; refine (HT.out).mono ?_; rintro e w1 ⟨rfl, hb1⟩; have hown1 := own_later hown hb1)
        | (at_builtin; refine wpList_append_own _ rfl _ _ 124 rfl w.heap.size 9 i0 (.string ⟨#[]⟩) 1 16 Tryd.underlying124 hi hz0 hz1 hz2 rfl (by decide) _ _ _ rfl (hown1.alloc _) ⟨w1.heap.size, 0, none⟩ 1 1 [.string ⟨(textL y).toArray⟩] rfl rfl ?c1 ?c2 ?c3 ?c4 ?c5 ?_))
      case c1 => exact new_cell _ _ _ _ rfl
      case c2 => intro u hu; simp at hu; subst hu; rfl
      case c3 => simp [maxLen]; omega
      case c4 => omega
      case c5 => have := hB.size; have := hb1.size; simp; omega
      intro v' w2 hown2 hgrow _
      have hB2 := below_append (below_then hB hb1) hown1 (Nat.le_refl _) hgrow
      have hown3 : w2.ownsRow w.heap.size 9 1 v' (k + 1) (strs ((xs.take (k + 1)).map textL)) := by rw [hS.out]; simpa [List.map_take] using hown2
      clear hown2 hown1 hown hgrow hS
      go_wp2
      exact ⟨⟨k + 1, by omega, by go_num, hown3, hB2⟩, by simp [intOf]; omega⟩
    · obtain rfl : k = n := by omega
      go_wp2_with (go_at_call 100; refine (HJ.out _ _ (by rwa [List.take_of_length_le (by omega)] at hown)).mono ?_; rintro e w1 ⟨rfl, hb1⟩)
      go_ret
      exact ⟨rfl, below_then hB hb1⟩
end Go.Proofs.YtieppcjpbjefkaaDoor
