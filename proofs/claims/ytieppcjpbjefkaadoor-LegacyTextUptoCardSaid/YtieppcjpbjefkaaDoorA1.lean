/- Small words that all contracts of this seat use: no function of the program stands here. -/
import Derived.Test.YtieppcjpbjefkaaDoorProg
import Derived.WalkKit
import Derived.WalkSpells
import Derived.WalkLawsBesides
import Derived.Handy
import Derived.Shelf.Bytes.SlEqualAll
import Derived.Deep.RegionWith
import Derived.BigQuiet
import Derived.Deep.QuietTactic
import Derived.Lib.Hide
import Derived.Carry
import Derived.MapKept
import Derived.RangeFuncNested
import Derived.RangeFuncBound
import Derived.RangeFuncCalls
import Derived.RangeFuncLeaves
import Derived.RangeFuncBox
import Derived.Shelf.Abstract
import Derived.OwnWalkIn
import Derived.TacticsInMore
import Derived.LoopNIn
import Derived.LoopIn
import Derived.Shelf.RegionOpen
import Derived.Deep.RegionHeld3
set_option linter.all false

/- Small words that all contracts of this seat use: no function of the program stands here. -/
namespace Go.Proofs.YtieppcjpbjefkaaDoor
open Go.RowKit Go.Proofs

/-- numbers of a kind, as cells -/
def nums (k : IntKind) (l : List Int) : List Value := l.map fun x => .int k x
theorem nums_length (k : IntKind) (l : List Int) : (nums k l).length = l.length := by simp [nums]
theorem nums_append (k : IntKind) (l m : List Int) : nums k (l ++ m) = nums k l ++ nums k m := by simp [nums]
theorem nums_get (k : IntKind) (l : List Int) (i : Nat) (h : i < l.length) : (nums k l)[i]? = some (.int k (l.getD i 0)) := by
  simp [nums, List.getElem?_eq_getElem h, List.getD_eq_getElem?_getD]

theorem below_then {w w1 w2 : World} (h : Below w.heap.size w w1) (k : Below w1.heap.size w1 w2) : Below w.heap.size w w2 := h.trans (k.mono h.size)
theorem below_alloc {w W : World} (h : Below w.heap.size w W) (o : Obj) : Below w.heap.size w (W.alloc o) := h.alloc h.size o

theorem below_drewN {B : Nat} {w W : World} (h : Below B w W) (n : Nat) : Below B w (W.drewN n) := ⟨h.os, h.tape, h.output, h.size, h.block⟩

/-- a block that was just laid is a row of the call's own -/
theorem own_new {W : World} {base g : Nat} {e : TypeId} {n : Nat} (cur : List Value) (hg : g = W.heap.size) (hb : base ≤ W.heap.size) (hn : cur.length = n) (hm : n ≤ 9223372036854775807) :
    (W.alloc (.cells cur.toArray e)).ownsRow base e 1 (.slice (some ⟨g, 0, none⟩) n n) n cur := by
  subst hg hn
  refine ⟨by simp, .inr ⟨W.heap.size, cur.length, cur.toArray, rfl, hb, heap_alloc_new W _, Nat.le_refl _, by simpa [maxLen] using hm, by simp, by simp⟩⟩

theorem heap_at (W : World) (o : Obj) (n : Nat) (h : n = W.heap.size) : (W.alloc o).heap[n]? = some o := by subst h; exact heap_alloc_new W o
theorem heap_past (W : World) (o : Obj) (n : Nat) (h : n < W.heap.size) : (W.alloc o).heap[n]? = W.heap[n]? := (Below.refl W.heap.size W).alloc (Nat.le_refl _) o |>.block n h

/-- what a row of the call's own reads as -/
theorem own_bytes {w : World} {base n : Nat} {e : TypeId} {v : Value} {xs : List Int} (h : w.ownsRow base e 1 v n (nums .u8 xs)) :
    xs.length = n ∧ ∃ p c, v = .slice p n c ∧ n ≤ c ∧ c ≤ 9223372036854775807 ∧ Lib.BytesIn w p n xs := by
  have hl : xs.length = n := by have := h.1; simpa [nums_length] using this
  refine ⟨hl, ?_⟩
  rcases h.2 with ⟨rfl, rfl⟩ | ⟨g, cap, cur, rfl, hb, hg, hn, hm, _, _⟩
  · exact ⟨none, 0, rfl, Nat.le_refl _, by omega, Lib.BytesIn.nil _ _ _⟩
  · refine ⟨_, cap, rfl, hn, by simpa [maxLen] using hm, fun _ => ⟨g, 0, rfl, fun i hi => ?_⟩⟩
    have := h.cells (g := g) rfl i _ (nums_get .u8 xs i (by omega))
    rwa [Go.WideShapes.add_plain] at this

theorem own_later {w w1 : World} {base n : Nat} {e : TypeId} {size : Nat} {v : Value} {xs : List Value} (h : w.ownsRow base e size v n xs) (hb : Below w.heap.size w w1) : w1.ownsRow base e size v n xs :=
  h.kept (row := none) ⟨hb.os, hb.tape, hb.output, hb.size, fun i hi _ => hb.block i hi⟩ (by cases v.ownBlock <;> simp)

theorem bytesIn_later {w w1 : World} {p : Option Addr} {n : Nat} {xs : List Int} (h : Lib.BytesIn w p n xs) (hb : Below w.heap.size w w1) : Lib.BytesIn w1 p n xs := fun hn => by
  obtain ⟨b, o, rfl, hc⟩ := h.at hn
  exact ⟨b, o, rfl, fun i hi => (hb.cell (p := ⟨b, o + i, none⟩) (World.block_lt_of_cell? _ _ (hc i hi))).trans (hc i hi)⟩

theorem cell_old {w w1 : World} (h : Below w.heap.size w w1) {a : Addr} {v : Value} (hc : w.cell? a = some v) : w1.cell? a = some v := (h.cell (World.block_lt_of_cell? w a hc)).trans hc
theorem frozen_old {w w1 : World} (h : Below w.heap.size w w1) {a : Addr} {v : Value} (hc : w.cell? a = some v) : w1.frozen? a = w.frozen? a := h.frozen (World.block_lt_of_cell? w a hc)

theorem blk_set {w : World} {b : Nat} {c : Array Value} {t : TypeId} {fr : Nat × Nat} (h : w.heap[b]? = some (.cells c t fr)) (i : Nat) (v : Value) : (w.setCell ⟨b, i, none⟩ v).heap[b]? = some (.cells (c.setIfInBounds i v) t fr) := by
  simp only [World.setCell, Array.getElem?_modify, h]
  simp

theorem bytesIn_take {w : World} {p : Option Addr} {n : Nat} {xs : List Int} (h : Lib.BytesIn w p n xs) (k : Nat) (hk : k ≤ n) : Lib.BytesIn w p k (xs.take k) := fun h0 => by
  obtain ⟨b, o, rfl, hc⟩ := h.at (by omega)
  refine ⟨b, o, rfl, fun i hi => ?_⟩
  rw [hc i (by omega), List.getD_eq_getElem?_getD, List.getD_eq_getElem?_getD, List.getElem?_take_of_lt hi]

/-- masks of an int -/
theorem and_mask (i : Nat) (hi : i ≤ 63) (x : Int) (h0 : 0 ≤ x) (h1 : x ≤ 9223372036854775807) : bits .and .i64 x (2 ^ i - 1) = x % 2 ^ i :=
  bits_mask .i64 63 (by decide) (fun n a b => by rw [IntKind.wrap_i64]; omega) i hi x h0 (by omega)

theorem wrap64_u8 (c : UInt8) : wrap64 (c.toNat : Int) = c.toNat := by
  have := c.toNat_lt
  unfold wrap64
  omega
attribute [go_sem] wrap64_u8

/-- behind so many new blocks: one step each, since the walk's simp goes two steps deep alone -/
theorem lt_past2 (a : Nat) (w : World) (h : a < w.heap.size) : a < w.heap.size + 1 + 1 := by omega
theorem lt_past3 (a : Nat) (w : World) (h : a < w.heap.size) : a < w.heap.size + 1 + 1 + 1 := by omega
theorem lt_past4 (a : Nat) (w : World) (h : a < w.heap.size) : a < w.heap.size + 1 + 1 + 1 + 1 := by omega
theorem lt_past5 (a : Nat) (w : World) (h : a < w.heap.size) : a < w.heap.size + 1 + 1 + 1 + 1 + 1 := by omega
theorem lt_past6 (a : Nat) (w : World) (h : a < w.heap.size) : a < w.heap.size + 1 + 1 + 1 + 1 + 1 + 1 := by omega
theorem lt_past7 (a : Nat) (w : World) (h : a < w.heap.size) : a < w.heap.size + 1 + 1 + 1 + 1 + 1 + 1 + 1 := by omega
theorem lt_past8 (a : Nat) (w : World) (h : a < w.heap.size) : a < w.heap.size + 1 + 1 + 1 + 1 + 1 + 1 + 1 + 1 := by omega
theorem lt_past9 (a : Nat) (w : World) (h : a < w.heap.size) : a < w.heap.size + 1 + 1 + 1 + 1 + 1 + 1 + 1 + 1 + 1 := by omega
theorem lt_past10 (a : Nat) (w : World) (h : a < w.heap.size) : a < w.heap.size + 1 + 1 + 1 + 1 + 1 + 1 + 1 + 1 + 1 + 1 := by omega
theorem lt_past11 (a : Nat) (w : World) (h : a < w.heap.size) : a < w.heap.size + 1 + 1 + 1 + 1 + 1 + 1 + 1 + 1 + 1 + 1 + 1 := by omega
theorem lt_past12 (a : Nat) (w : World) (h : a < w.heap.size) : a < w.heap.size + 1 + 1 + 1 + 1 + 1 + 1 + 1 + 1 + 1 + 1 + 1 + 1 := by omega
attribute [go_sem high] lt_past2 lt_past3 lt_past4 lt_past5 lt_past6 lt_past7 lt_past8 lt_past9 lt_past10 lt_past11 lt_past12

end Go.Proofs.YtieppcjpbjefkaaDoor

/- Small words on rows of a call's own that grow. -/
namespace Go.Proofs.YtieppcjpbjefkaaDoor
open Go.RowKit Go.Proofs

theorem own_block {w : World} {base n : Nat} {e : TypeId} {size : Nat} {v : Value} {xs : List Value} (h : w.ownsRow base e size v n xs) : ∀ k, v.ownBlock = some k → base ≤ k := fun k hk => by
  rcases h.2 with ⟨rfl, _⟩ | ⟨g, cap, cur, rfl, hb, _⟩
  · simp [Value.ownBlock] at hk
  · simp [Value.ownBlock] at hk
    omega
/-- the one cell that an append's new element is stored in first -/
theorem new_cell (W : World) (v : Value) (t : TypeId) (n : Nat) (hn : n = W.heap.size) : ∀ (j : Nat) (u : Value), [v][j]? = some u → (W.alloc (.cells #[v] t)).cell? ((⟨n, 0, none⟩ : Addr).add j) = some u := fun j u hu => by
  match j with
  | 0 =>
    simp at hu
    subst hu hn
    rw [Go.WideShapes.add_plain, World.cell?_alloc_at _ _ _ _ (by simp)]
    rfl
  | j + 1 => simp at hu
theorem below_append {w W W' : World} {base n : Nat} {e : TypeId} {size : Nat} {v : Value} {xs : List Value} (h : Below w.heap.size w W) (hown : W.ownsRow base e size v n xs) (hb : w.heap.size ≤ base) {o : Obj} (hg : (W.alloc o).grownBy W' v.ownBlock) : Below w.heap.size w W' :=
  (below_alloc h o).grown hg (by have := h.size; simp; omega) (fun k hk => Nat.le_trans hb (own_block hown k hk))

theorem box6 {w w' : World} {a b c d e f : Value} {t : TypeId} (h : Below (w.alloc (.cells #[a, b, c, d, e, f] t)).heap.size (w.alloc (.cells #[a, b, c, d, e, f] t)) w') :
    w'.cell? ⟨w.heap.size, 0, none⟩ = some a ∧ w'.cell? ⟨w.heap.size, 1, none⟩ = some b ∧ w'.cell? ⟨w.heap.size, 2, none⟩ = some c ∧ w'.cell? ⟨w.heap.size, 3, none⟩ = some d ∧ w'.cell? ⟨w.heap.size, 4, none⟩ = some e ∧ w'.cell? ⟨w.heap.size, 5, none⟩ = some f := by
  refine ⟨?_, ?_, ?_, ?_, ?_, ?_⟩
  all_goals
    refine cell_old h ?_
    rw [World.cell?_alloc_at _ _ _ _ (by simp)]
    rfl
def IntIs (w : World) (x : Int) (e : Ending) (w' : World) : Prop := e = .returned (.int .i64 x) ∧ Below w.heap.size w w'
end Go.Proofs.YtieppcjpbjefkaaDoor

/- Maps that a call lays by a literal: what it puts in, and what it finds. No function of the program stands here. -/
namespace Go.Proofs.YtieppcjpbjefkaaDoor
open Go.RowKit Go.Proofs Go.MapKept

theorem setIf_alloc (W : World) (o o' : Obj) : { W.alloc o with heap := (W.alloc o).heap.setIfInBounds W.heap.size o' } = W.alloc o' := by
  have e : (W.heap.push o).setIfInBounds W.heap.size o' = W.heap.push o' := by
    apply Array.ext
    · simp
    · intro i h1 h2
      by_cases h : i = W.heap.size
      · subst h; simp
      · have hlt : i < W.heap.size := by simp at h2; omega
        rw [Array.getElem_setIfInBounds_ne _ (fun e => h e.symm), Array.getElem_push_lt hlt, Array.getElem_push_lt hlt]
        simp
        omega
  simp only [World.alloc, e]

section
variable {P : Program} {T K E : TypeId} {d : TypeDesc} {k v z : Value} {W : World} {es : Array MapEntry} {c b : Nat}

theorem run_insert (hT : P.underlying T = some (.map K E)) (hK : P.underlying K = some d) (hk : IsKey d k) (hb : b = W.heap.size) (hf : Instr.findNow d k es.toList 0 = some none) :
    (Instr.mapUpdate T (.map (some b)) k v).run P (W.alloc (.map es c)) = .ok () (W.alloc (.map (es.push ⟨k, v, c⟩) (c + 1))) := by
  subst hb
  have hb := heap_at W (.map es c) W.heap.size rfl
  have hc : (Instr.checkKey false 10000 K k).run P (W.alloc (.map es c)) = .ok () (W.alloc (.map es c)) := MapKept.run_checkKey hK hk false 9999
  simp only [Instr.mapUpdate, Sem.run_bind, run_underlying hT, Result.andThen, MapKept.run_getObj_map hb, hc, MapKept.run_findKey hK hf, MapKept.run_setObj_map _ hb, setIf_alloc]

theorem run_look (ok : Bool) (hT : P.underlying T = some (.map K E)) (hK : P.underlying K = some d) (hk : IsKey d k) (hb : W.heap[b]? = some (.map es c)) (he : es.isEmpty = false) {i : Nat} (hf : Instr.findNow d k es.toList 0 = some (some (i, v))) :
    (Instr.lookup T (.map (some b)) k ok).run P W = .ok (if ok then .tuple #[v, .bool true] else v) W := by
  have hc : (Instr.checkKey false 10000 K k).run P W = .ok () W := MapKept.run_checkKey hK hk false 9999
  simp [Instr.lookup, run_underlying hT, MapKept.run_getObj_map hb, he, hc, MapKept.run_findKey hK hf, Result.andThen]

theorem run_look_not (ok : Bool) (hT : P.underlying T = some (.map K E)) (hK : P.underlying K = some d) (hk : IsKey d k) (hb : W.heap[b]? = some (.map es c)) (he : es.isEmpty = false) (hf : Instr.findNow d k es.toList 0 = some none) (hz : (zeroValue E).run P W = .ok z W) :
    (Instr.lookup T (.map (some b)) k ok).run P W = .ok (if ok then .tuple #[z, .bool false] else z) W := by
  have hc : (Instr.checkKey false 10000 K k).run P W = .ok () W := MapKept.run_checkKey hK hk false 9999
  simp [Instr.lookup, run_underlying hT, MapKept.run_getObj_map hb, he, hc, MapKept.run_findKey hK hf, Result.andThen, hz]

/-- the first j entries of a literal -/
def litEs (l : List (Value × Value)) (j : Nat) : Array MapEntry := ((l.take j).zipIdx.map fun x => (⟨x.1.1, x.1.2, x.2⟩ : MapEntry)).toArray
theorem litEs_succ {l : List (Value × Value)} {j : Nat} {x : Value × Value} (h : l[j]? = some x) : litEs l (j + 1) = (litEs l j).push ⟨x.1, x.2, j⟩ := by
  obtain ⟨hj, rfl⟩ := List.getElem?_eq_some_iff.1 h
  unfold litEs
  rw [List.take_succ_eq_append_getElem hj, List.zipIdx_append, List.map_append, List.length_take, Nat.min_eq_left (Nat.le_of_lt hj)]
  simp
theorem run_lit (l : List (Value × Value)) (j : Nat) (x y : Value) (h : l[j]? = some (x, y)) (hT : P.underlying T = some (.map K E)) (hK : P.underlying K = some d) (hk : IsKey d x) (hf : Instr.findNow d x (litEs l j).toList 0 = some none) (W : World) (b : Nat) (hb : b = W.heap.size) :
    (Instr.mapUpdate T (.map (some b)) x y).run P (W.alloc (.map (litEs l j) j)) = .ok () (W.alloc (.map (litEs l (j + 1)) (j + 1))) := by
  rw [litEs_succ h]
  exact run_insert hT hK hk hb hf
end

/-- a literal of whole numbers' keys -/
def litP (q : IntKind) (f : Int → Value) (l : List (Int × Int)) : List (Value × Value) := l.map fun x => (.int q x.1, f x.2)
theorem findNow_pairs (q : IntKind) (f : Int → Value) (c : Int) : ∀ (l : List (Int × Int)) (s i : Nat),
    (∀ x, l.find? (fun x => x.1 == c) = some x → ∃ j, Instr.findNow (.int q) (.int q c) (((litP q f l).zipIdx s).map fun x => (⟨x.1.1, x.1.2, x.2⟩ : MapEntry)) i = some (some (j, f x.2))) ∧
    (l.find? (fun x => x.1 == c) = none → Instr.findNow (.int q) (.int q c) (((litP q f l).zipIdx s).map fun x => (⟨x.1.1, x.1.2, x.2⟩ : MapEntry)) i = some none)
  | [], s, i => by simp [litP, Instr.findNow]
  | y :: r, s, i => by
    have ih := findNow_pairs q f c r (s + 1) (i + 1)
    simp only [litP, List.map_cons, List.zipIdx_cons, Instr.findNow, Instr.sameNow, if_true, List.find?_cons] at ih ⊢
    by_cases h : c = y.1
    · have h1 : (c == y.1) = true := by simpa using h
      have h2 : (y.1 == c) = true := by simpa using h.symm
      rw [h1, h2]
      simp
    · have h1 : (c == y.1) = false := by simpa using h
      have h2 : (y.1 == c) = false := by simpa using fun e => h e.symm
      rw [h1, h2]
      exact ih
theorem litEs_all (l : List (Value × Value)) : (litEs l l.length).toList = (l.zipIdx 0).map fun x => (⟨x.1.1, x.1.2, x.2⟩ : MapEntry) := by simp [litEs]
end Go.Proofs.YtieppcjpbjefkaaDoor

/- Contracts of package mods: Old, Param, Shown, Fold. -/
namespace Go.Proofs.YtieppcjpbjefkaaDoor
open Go.RowKit Go.Proofs

/-- has modifiers one? -/
def hasB (m one : Int) : Bool := decide (max m 0 / one % 2 = 1)
def oldL (m : Int) : Int := max m 0 % 8
def paramL (m : Int) : Int := if m < 0 ∨ 255 < m then 1 else m + 1

/-- a key's event -/
structure KeyD where
  code : Int
  mods : Int
  typ : Int
  shifted : Int
  base : Int
  text : List UInt8
def KeyD.v (k : KeyD) : Value := .agg #[.int .i64 k.code, .int .i64 k.mods, .int .i64 k.typ, .int .i64 k.shifted, .int .i64 k.base, .string ⟨k.text.toArray⟩]
def i64r (x : Int) : Prop := -9223372036854775808 ≤ x ∧ x ≤ 9223372036854775807
structure KeyD.wf (k : KeyD) : Prop where
  code : i64r k.code
  mods : i64r k.mods
  typ : i64r k.typ
  shifted : i64r k.shifted
  base : i64r k.base

def shownL (k : KeyD) : Int := if max k.mods 0 % 2 = 0 then k.code else if k.shifted ≠ 0 then k.shifted else if 97 ≤ k.code ∧ k.code ≤ 122 then k.code - 32 else k.code

set_option maxRecDepth 100000 in
theorem mods_Old (m : Int) (w : World) (h : i64r m) : Calls Tryd.prog 96 #[.int .i64 m] w fun e w' => e = .returned (.int .i64 (oldL m)) ∧ w = w' := by
  obtain ⟨h0, h1⟩ := h
  have hm := and_mask 3 (by decide) (max m 0) (by omega) (by omega)
  simp only [Int.reducePow, Int.reduceSub] at hm
  go_enter Tryd.func96, Tryd.ntmps96
  go_wp2
  go_ret
  exact ⟨rfl, rfl⟩

set_option maxRecDepth 100000 in
theorem mods_Param (m : Int) (w : World) (h : i64r m) : Calls Tryd.prog 97 #[.int .i64 m] w fun e w' => e = .returned (.int .i64 (paramL m)) ∧ w = w' := by
  obtain ⟨h0, h1⟩ := h
  by_cases h : m < 0 ∨ 255 < m
  · have HP := Lib.hid (show paramL m = 1 from by rw [paramL, if_pos h])
    rcases h with h | h
    all_goals
      go_enter Tryd.func97, Tryd.ntmps97
      go_wp2
      go_ret
      rw [HP.out]
      exact ⟨rfl, rfl⟩
  · have HP := Lib.hid (show paramL m = m + 1 from by rw [paramL, if_neg h])
    have h2 : 0 ≤ m := by omega
    have h3 : m ≤ 255 := by omega
    clear h
    go_enter Tryd.func97, Tryd.ntmps97
    go_wp2
    go_ret
    rw [HP.out]
    exact ⟨rfl, rfl⟩

set_option maxRecDepth 100000 in
theorem mods_Shown (k : KeyD) (w : World) (hk : k.wf) : Calls Tryd.prog 93 #[k.v] w fun e w' => e = .returned (.int .i64 (shownL k)) ∧ Below w.heap.size w w' := by
  obtain ⟨⟨c0, c1⟩, ⟨m0, m1⟩, -, ⟨s0, s1⟩, -⟩ := hk
  obtain ⟨code, mods, typ, sh, base, text⟩ := k
  unfold KeyD.v
  simp only at *
  obtain ⟨X, hX⟩ : ∃ X, shownL ⟨code, mods, typ, sh, base, text⟩ = X := ⟨_, rfl⟩
  rw [hX]
  simp only [shownL] at hX
  have hm := and_mask 1 (by decide) (max mods 0) (by omega) (by omega)
  simp only [Int.reducePow, Int.reduceSub] at hm
  by_cases h1 : max mods 0 % 2 = 0
  · have d1 : (max mods 0 % 2 == 0) = true := by simpa using h1
    rw [if_pos h1] at hX
    have HX := Lib.hid hX
    clear hX h1
    go_enter Tryd.func93, Tryd.ntmps93
    go_wp2
    go_ret
    rw [HX.out]
    exact ⟨rfl, below_alloc (Below.refl _ _) _⟩
  have d1 : (max mods 0 % 2 == 0) = false := by simpa using h1
  rw [if_neg h1] at hX
  clear h1
  by_cases h2 : sh = 0
  · rw [if_neg (by simpa using h2)] at hX
    have d2 : (sh != 0) = false := by simpa using h2
    by_cases h3 : 97 ≤ code ∧ code ≤ 122
    · rw [if_pos h3] at hX
      have HX := Lib.hid hX
      obtain ⟨h3, h4⟩ := h3
      clear hX h2
      go_enter Tryd.func93, Tryd.ntmps93
      go_wp2
      go_ret
      rw [← HX.out]
      exact ⟨by rw [show code - 32 = code - 97 + 65 from by omega]; rfl, below_alloc (Below.refl _ _) _⟩
    · rw [if_neg h3] at hX
      have HX := Lib.hid hX
      have h3 : code < 97 ∨ 122 < code := by omega
      clear hX h2
      rcases h3 with h3 | h3
      all_goals
        go_enter Tryd.func93, Tryd.ntmps93
        go_wp2
        go_ret
        rw [HX.out]
        exact ⟨rfl, below_alloc (Below.refl _ _) _⟩
  · rw [if_pos h2] at hX
    have d2 : (sh != 0) = true := by simpa using h2
    have HX := Lib.hid hX
    clear hX h2
    go_enter Tryd.func93, Tryd.ntmps93
    go_wp2
    go_ret
    rw [HX.out]
    exact ⟨rfl, below_alloc (Below.refl _ _) _⟩

/-- the control character of a character -/
def foldsE : List (Int × Int) := [(32, 0), (50, 0), (64, 0), (51, 27), (91, 27), (52, 28), (92, 28), (53, 29), (93, 29), (54, 30), (94, 30), (55, 31), (47, 31), (95, 31), (56, 127), (63, 127)]
def foldL (c : Int) : Int × Bool :=
  if 97 ≤ c ∧ c ≤ 122 then (c - 96, true) else if 65 ≤ c ∧ c ≤ 90 then (c - 64, true) else
  match foldsE.find? (fun x => x.1 == c) with
  | some x => (x.2, true)
  | none => (0, false)

def foldsV : List (Value × Value) := litP .i32 (.int .i64) foldsE

set_option maxRecDepth 100000 in
theorem mods_Fold (c : Int) (w : World) (hc : i64r c) : Calls Tryd.prog 94 #[.int .i64 c] w fun e w' => e = .returned (.tuple #[.int .i64 (foldL c).1, .bool (foldL c).2]) ∧ Below w.heap.size w w' := by
  have hmm : (Instr.makeMap 149 none).run Tryd.prog w = .ok (.map (some w.heap.size)) (w.alloc (.map (litEs foldsV 0) 0)) := run_makeMap _ _
  have i0 := run_lit (P := Tryd.prog) (T := 149) (d := .int .i32) foldsV 0 (.int .i32 32) (.int .i64 0) rfl Tryd.underlying149 Tryd.underlying21 rfl rfl w w.heap.size rfl
  have i1 := run_lit (P := Tryd.prog) (T := 149) (d := .int .i32) foldsV 1 (.int .i32 50) (.int .i64 0) rfl Tryd.underlying149 Tryd.underlying21 rfl rfl w w.heap.size rfl
  have i2 := run_lit (P := Tryd.prog) (T := 149) (d := .int .i32) foldsV 2 (.int .i32 64) (.int .i64 0) rfl Tryd.underlying149 Tryd.underlying21 rfl rfl w w.heap.size rfl
  have i3 := run_lit (P := Tryd.prog) (T := 149) (d := .int .i32) foldsV 3 (.int .i32 51) (.int .i64 27) rfl Tryd.underlying149 Tryd.underlying21 rfl rfl w w.heap.size rfl
  have i4 := run_lit (P := Tryd.prog) (T := 149) (d := .int .i32) foldsV 4 (.int .i32 91) (.int .i64 27) rfl Tryd.underlying149 Tryd.underlying21 rfl rfl w w.heap.size rfl
  have i5 := run_lit (P := Tryd.prog) (T := 149) (d := .int .i32) foldsV 5 (.int .i32 52) (.int .i64 28) rfl Tryd.underlying149 Tryd.underlying21 rfl rfl w w.heap.size rfl
  have i6 := run_lit (P := Tryd.prog) (T := 149) (d := .int .i32) foldsV 6 (.int .i32 92) (.int .i64 28) rfl Tryd.underlying149 Tryd.underlying21 rfl rfl w w.heap.size rfl
  have i7 := run_lit (P := Tryd.prog) (T := 149) (d := .int .i32) foldsV 7 (.int .i32 53) (.int .i64 29) rfl Tryd.underlying149 Tryd.underlying21 rfl rfl w w.heap.size rfl
  have i8 := run_lit (P := Tryd.prog) (T := 149) (d := .int .i32) foldsV 8 (.int .i32 93) (.int .i64 29) rfl Tryd.underlying149 Tryd.underlying21 rfl rfl w w.heap.size rfl
  have i9 := run_lit (P := Tryd.prog) (T := 149) (d := .int .i32) foldsV 9 (.int .i32 54) (.int .i64 30) rfl Tryd.underlying149 Tryd.underlying21 rfl rfl w w.heap.size rfl
  have i10 := run_lit (P := Tryd.prog) (T := 149) (d := .int .i32) foldsV 10 (.int .i32 94) (.int .i64 30) rfl Tryd.underlying149 Tryd.underlying21 rfl rfl w w.heap.size rfl
  have i11 := run_lit (P := Tryd.prog) (T := 149) (d := .int .i32) foldsV 11 (.int .i32 55) (.int .i64 31) rfl Tryd.underlying149 Tryd.underlying21 rfl rfl w w.heap.size rfl
  have i12 := run_lit (P := Tryd.prog) (T := 149) (d := .int .i32) foldsV 12 (.int .i32 47) (.int .i64 31) rfl Tryd.underlying149 Tryd.underlying21 rfl rfl w w.heap.size rfl
  have i13 := run_lit (P := Tryd.prog) (T := 149) (d := .int .i32) foldsV 13 (.int .i32 95) (.int .i64 31) rfl Tryd.underlying149 Tryd.underlying21 rfl rfl w w.heap.size rfl
  have i14 := run_lit (P := Tryd.prog) (T := 149) (d := .int .i32) foldsV 14 (.int .i32 56) (.int .i64 127) rfl Tryd.underlying149 Tryd.underlying21 rfl rfl w w.heap.size rfl
  have i15 := run_lit (P := Tryd.prog) (T := 149) (d := .int .i32) foldsV 15 (.int .i32 63) (.int .i64 127) rfl Tryd.underlying149 Tryd.underlying21 rfl rfl w w.heap.size rfl
  obtain ⟨c0, c1⟩ := hc
  by_cases h1 : 97 ≤ c ∧ c ≤ 122
  · have HF := Lib.hid (show foldL c = (c - 97 + 1, true) from by rw [foldL, if_pos h1]; congr 1; omega)
    obtain ⟨h1, h2⟩ := h1
    go_enter Tryd.func94, Tryd.ntmps94
    go_wp2
    go_ret2
    rw [HF.out]
    exact ⟨rfl, below_alloc (Below.refl _ _) _⟩
  by_cases h2 : 65 ≤ c ∧ c ≤ 90
  · have HF := Lib.hid (show foldL c = (c - 65 + 1, true) from by rw [foldL, if_neg h1, if_pos h2]; congr 1; omega)
    clear h1
    obtain ⟨h1, h2⟩ := h2
    go_enter Tryd.func94, Tryd.ntmps94
    go_wp2
    go_ret2
    rw [HF.out]
    exact ⟨rfl, below_alloc (Below.refl _ _) _⟩
  have hF : foldL c = match foldsE.find? (fun x => x.1 == c) with | some x => (x.2, true) | none => (0, false) := by rw [foldL, if_neg h1, if_neg h2]
  have h1 : c < 97 ∨ 122 < c := by omega
  have h2 : c < 65 ∨ 90 < c := by omega
  by_cases h3 : c < 0 ∨ 255 < c
  · have hn : foldsE.find? (fun x => x.1 == c) = none := by
      rw [List.find?_eq_none]
      intro x hx
      have : 0 ≤ x.1 ∧ x.1 ≤ 255 := (by decide +kernel : ∀ x ∈ foldsE, 0 ≤ x.1 ∧ x.1 ≤ 255) x hx
      simp
      omega
    rw [hn] at hF
    have HF := Lib.hid hF
    clear hF hn
    have h1 : c < 65 ∨ 122 < c := by omega
    rcases h3 with h3 | h3 <;> rcases h1 with h1 | h1 <;> first | (exfalso; omega) | skip
    all_goals
      go_enter Tryd.func94, Tryd.ntmps94
      go_wp2
      go_ret2
      rw [HF.out]
      exact ⟨rfl, below_alloc (Below.refl _ _) _⟩
  · have h4 : 0 ≤ c := by omega
    have h5 : c ≤ 255 := by omega
    clear h3
    have hr : ∃ v b, foldL c = (v, b) ∧ (Instr.lookup 149 (.map (some w.heap.size)) (.int .i32 c) true).run Tryd.prog (w.alloc (.map (litEs foldsV 16) 16)) = .ok (.tuple #[.int .i64 v, .bool b]) (w.alloc (.map (litEs foldsV 16) 16)) := by
      have hp := findNow_pairs .i32 (.int .i64) c foldsE 0 0
      have hl : (litEs foldsV 16).toList = ((litP .i32 (.int .i64) foldsE).zipIdx 0).map fun x => (⟨x.1.1, x.1.2, x.2⟩ : MapEntry) := litEs_all foldsV
      rw [← hl] at hp
      have hb := heap_at w (.map (litEs foldsV 16) 16) w.heap.size rfl
      cases hfd : foldsE.find? (fun x => x.1 == c) with
      | none =>
        rw [hfd] at hF
        exact ⟨_, _, hF, run_look_not (P := Tryd.prog) (d := .int .i32) true Tryd.underlying149 Tryd.underlying21 (k := .int .i32 c) rfl hb rfl (hp.2 hfd) (by kernel_rfl)⟩
      | some x =>
        rw [hfd] at hF
        obtain ⟨j, hj⟩ := hp.1 x hfd
        exact ⟨_, _, hF, run_look (P := Tryd.prog) (d := .int .i32) true Tryd.underlying149 Tryd.underlying21 (k := .int .i32 c) rfl hb rfl hj⟩
    obtain ⟨v, b, hF2, hr⟩ := hr
    have HF := Lib.hid hF2
    have hw : IntKind.i32.wrap c = c := by rw [IntKind.wrap_i32]; omega
    clear hF hF2
    rcases h1 with h1 | h1 <;> rcases h2 with h2 | h2 <;> first | (exfalso; omega) | skip
    all_goals
      go_enter Tryd.func94, Tryd.ntmps94
      go_wp2
      go_ret2
      rw [HF.out]
      exact ⟨rfl, below_alloc (Below.refl _ _) _⟩
end Go.Proofs.YtieppcjpbjefkaaDoor

/- A law for ranges over a function whose iterator keeps a variable of its own in a cell (block 'B'): the caller's invariant abides the iterator's own stores into that block, beside what the loop itself turns. No function of the program stands here. -/
namespace Go.Proofs.YtieppcjpbjefkaaDoor
open Go.RowKit Go.Proofs

/-- What a caller's word must abide: a turn of block B (the iterator's own variable), of new blocks, and of blocks from n₀ on that hold no cells. -/
def Calm {β : Type} (B : Option Nat) (n₀ : Nat) (I : β → World → Prop) : Prop :=
  ∀ s W W' row, I s W → W.grownBy W' row → (∀ r, row = some r → some r = B ∨ (n₀ ≤ r ∧ ∃ o : Obj, W.heap[r]? = some o ∧ o.isCells = false)) → I s W'
/-- What an iterator may rely on. -/
def CalmIt {β : Type} (B : Option Nat) (J : β → World → Prop) : Prop :=
  ∀ s W W' row, J s W → W.grownBy W' row → (∀ r, row = some r → some r = B) → J s W'

/-- The word of an iterator with a variable of its own in block B. 'Kp': what a round that goes on keeps. -/
def SeqB {α : Type} (F : Fence) (n : Nat) (P : Program) (g : Nat) (lb : Array Value) (encs : α → Array Value) (B : Option Nat) (Kp : World → World → Prop) (S Sp : List α → Prop) (w : World) (Sx : List α → α → Prop := fun _ _ => True) : Prop :=
  ∀ (l : Nat) (J Jx : List α → World → Prop) (W : World), Below w.heap.size w W → CalmIt B J → CalmIt B Jx →
    (∀ pre x W1, Sx pre x → J pre W1 → YieldAt F (n - 1) P l (encs x) W1 fun e W' =>
      (e = .returned (.bool true) ∧ J (pre ++ [x]) W' ∧ Kp W1 W') ∨ (e = .returned (.bool false) ∧ Jx (pre ++ [x]) W')) →
    J [] W →
    CallsIn F n P g (#[.func (.yield l) #[] #[]] ++ lb) W fun e W' => (∃ v, e = .returned v) ∧ ((∃ xs, S xs ∧ J xs W') ∨ (∃ pre, Sp pre ∧ Jx pre W'))

theorem SeqB.inRound {α : Type} {F : Fence} {n : Nat} {P : Program} {g : Nat} {lb : Array Value} {encs : α → Array Value} {B : Option Nat} {Kp : World → World → Prop} {S Sp : List α → Prop} {w : World} {Sx : List α → α → Prop} (l : Nat)
    (h : SeqB F n P g lb encs B Kp S Sp w Sx) : SeqB (F.inRound l) n P g lb encs B Kp S Sp w Sx := h

/-- How the body of a round may be left. -/
def left {α : Type} (n₀ : Nat) (Kp : World → World → Prop) (I : List α → World → Prop) (Ix : Code → List α → World → Prop) (xs : List α) (W : World) : Exit → Act → World → Prop
  | .normal, _, W' => KeepsFrom n₀ W W' ∧ Kp W W' ∧ I xs W'
  | .ret, _, W' => KeepsFrom n₀ W W' ∧ Ix .ret xs W'
  | .exit id, _, W' => KeepsFrom n₀ W W' ∧ Ix (.exit id) xs W'
  | _, _, _ => False

theorem Calm.put {β : Type} {B : Option Nat} {n₀ : Nat} {I : β → World → Prop} (h : Calm B n₀ I) {s : β} {W : World} {l : Nat} {o : Obj} (o' : Obj) (hs : I s W) (hn : n₀ ≤ l) (hl : W.heap[l]? = some o) (ho : o.isCells = false) : I s (W.putObj l o') :=
  h s W _ (some l) hs (grownBy_putObj' W l o') (fun r e => by cases e; exact .inr ⟨hn, o, hl, ho⟩)
theorem Calm.alloc {β : Type} {B : Option Nat} {n₀ : Nat} {I : β → World → Prop} (h : Calm B n₀ I) {s : β} {W : World} (o : Obj) (hs : I s W) : I s (W.alloc o) :=
  h s W _ none hs (World.grownBy_alloc W o none) (fun r e => by cases e)
theorem Calm.and {β : Type} {B : Option Nat} {n₀ : Nat} {I I' : β → World → Prop} (h : Calm B n₀ I) (h' : Calm B n₀ I') : Calm B n₀ (fun s W => I s W ∧ I' s W) := fun s W W' row hs hg hr => ⟨h s W W' row hs.1 hg hr, h' s W W' row hs.2 hg hr⟩
theorem calm_block {β : Type} {B : Option Nat} {n₀ b : Nat} {cs : β → Array Value} {t : TypeId} {fr : Nat × Nat} (hB : B ≠ some b) : Calm B n₀ (fun (s : β) W => W.heap[b]? = some (.cells (cs s) t fr)) := fun s W W' row hs hg hr =>
  (hg.block b (Array.getElem?_eq_some_iff.1 hs).1 (fun e => by
    rcases hr b e.symm with h | ⟨_, o, ho, hc⟩
    · exact hB h.symm
    · rw [show W.heap[b]? = _ from hs] at ho; cases ho; cases hc)).trans hs
theorem calm_cell {β : Type} {B : Option Nat} {n₀ b i : Nat} {v : β → Value} (hB : B ≠ some b) : Calm B n₀ (fun (s : β) W => W.cell? ⟨b, i, none⟩ = some (v s)) := fun s W W' row hs hg hr => by
  obtain ⟨o, ho, hc⟩ := cells_of_cell hs
  refine (World.cell?_of_block (hg.block b (Array.getElem?_eq_some_iff.1 ho).1 (fun e => ?_))).trans hs
  rcases hr b e.symm with h | ⟨_, o', ho', hc'⟩
  · exact hB h.symm
  · simp only at ho; rw [ho] at ho'; cases ho'; rw [hc] at hc'; cases hc'
theorem calm_below {β : Type} {B : Option Nat} {n₀ m : Nat} {w : World} (hB : ∀ b, B = some b → m ≤ b) (hm : m ≤ n₀) (hw : m ≤ w.heap.size) : Calm B n₀ (fun (_ : β) W => Below m w W) := fun s W W' row hs hg hr =>
  hs.grown hg (Nat.le_trans hw hs.size) (fun k e => by
    rcases hr k e with h | ⟨h, _⟩
    · exact hB k h.symm
    · omega)
theorem calm_pure {β : Type} {B : Option Nat} {n₀ : Nat} (p : β → Prop) : Calm B n₀ (fun s (_ : World) => p s) := fun _ _ _ _ hs _ _ => hs
/-- what an iterator with block B does leaves whatever holds no cells -/
theorem still {W W' : World} {B : Option Nat} {row : Option Nat} {l : Nat} {o : Obj} (hg : W.grownBy W' row) (hr : ∀ r, row = some r → some r = B) (hl : W.heap[l]? = some o) (hB : B ≠ some l) : W'.heap[l]? = some o :=
  (hg.block l (Array.getElem?_eq_some_iff.1 hl).1 (fun e => hB (hr l e.symm).symm)).trans hl

section
variable {α : Type} {F : Fence} {n : Nat} {P : Program}

/-- One round, whichever the loop stands in. 'rec': the loop's record, at block l; it ends with the record ready again, or done with a jump. -/
theorem one_round {ps : Array Tmp} {assign body : Code} {w : World} {l : Nat} {rec : LoopState → Option Code → Loop} {fn : FuncId} {tmps : Array Value} {dfs : Nat} (hrec : rec = fun st pe => { state := st, pending := pe, fn, tmps, params := ps, assign, body, defers := dfs }) (hfn : F.fn fn)
    {encs : α → Array Value} (hps : ∀ x, (encs x).size = ps.size) {B : Option Nat} {Kp : World → World → Prop} (hKt : ∀ {A B C : World}, Kp A B → Kp B C → Kp A C)
    (hKb : ∀ (W : World) (l : Nat) (o o' : Obj), w.heap.size ≤ l → W.heap[l]? = some o → o.isCells = false → Kp W (W.putObj l o'))
    {I : List α → World → Prop} {Ix : Code → List α → World → Prop} (hI : Calm B w.heap.size I) (hIx : ∀ c, Calm B w.heap.size (Ix c)) {Ax : α → Act → World → Prop} (hAx : ∀ x a', Calm B w.heap.size (fun (_ : Unit) W => Ax x a' W))
    (hassign : ∀ (pre : List α) (x : α) (W : World) (K : Act → World → Prop), I pre W → (∀ a' W', KeepsFrom w.heap.size W W' → Kp W W' → I pre W' → Ax x a' W' → K a' W') →
      assign.wpIn (F.inRound l) n P (Exit.then K (fun _ _ _ => False)) { tmps := (ps.zip (encs x)).foldl (fun t (p, v) => t.setIfInBounds p v) tmps, defers := [] } W)
    (pre : List α) (x : α) (hbody : ∀ (a' : Act) (W : World), (∃ r, W.heap[l]? = some (.loop r)) → I pre W → Ax x a' W → body.wpIn (F.inRound l) n P (left w.heap.size Kp I Ix (pre ++ [x]) W) a' W)
    (hle : w.heap.size ≤ l) (Z : World → Prop) (hZ : ∀ A A' : World, Z A → KeepsFrom w.heap.size A A' → Z A') (hZl : ∀ (A : World) o', Z A → Z (A.putObj l o'))
    (W : World) (hi : I pre W) (hl : W.heap[l]? = some (.loop (rec .ready none))) (hz : Z W) :
    YieldAt F n P l (encs x) W fun e W' =>
      (e = .returned (.bool true) ∧ (I (pre ++ [x]) W' ∧ W'.heap[l]? = some (.loop (rec .ready none)) ∧ Z W') ∧ Kp W W') ∨
      (e = .returned (.bool false) ∧ ∃ c, Ix c (pre ++ [x]) W' ∧ W'.heap[l]? = some (.loop (rec .done (some c))) ∧ Z W') := by
  have hy := run_yield (P := P) (args := encs x) hl (by rw [hrec]; exact hps x)
  rw [hrec] at hy
  refine ⟨fn, _, assign, body, hy, roundIn_of_wpIn hfn (hassign pre x W _ hi ?_)⟩
  intro a' Wa hka hkp hia hax
  have hla := hka.same _ _ hle hl rfl
  have hlt := (Array.getElem?_eq_some_iff.1 hla).1
  refine ⟨_, run_beginRound hla (by rw [hrec]), ?_⟩
  have hl2 : (Wa.putObj l (.loop { rec .ready none with state := .busy })).heap[l]? = some (.loop { rec .ready none with state := .busy }) := World.putObj_heap_same hlt
  have hz2 : Z (Wa.putObj l (.loop { rec .ready none with state := .busy })) := hZl _ _ (hZ _ _ hz hka)
  have hk2 : Kp Wa (Wa.putObj l (.loop { rec .ready none with state := .busy })) := hKb _ _ _ _ hle hla rfl
  refine wpIn_mono (hbody a' _ ⟨_, hl2⟩ (hI.put _ hia hle hla rfl) ((hAx x a').put (s := ()) _ hax hle hla rfl)) ?_
  have fin : ∀ (jump : Option Code) (W3 : World), KeepsFrom w.heap.size (Wa.putObj l (.loop { rec .ready none with state := .busy })) W3 →
      (Instr.endRound l jump).run P W3 = .ok (.bool jump.isNone) (W3.putObj l (.loop (rec (if jump.isNone then .ready else .done) jump))) ∧
      W3.heap[l]? = some (.loop { rec .ready none with state := .busy }) ∧
      (W3.putObj l (.loop (rec (if jump.isNone then .ready else .done) jump))).heap[l]? = some (.loop (rec (if jump.isNone then .ready else .done) jump)) ∧
      Z (W3.putObj l (.loop (rec (if jump.isNone then .ready else .done) jump))) := fun jump W3 hk3 => by
    have hl3 := hk3.same _ _ hle hl2 rfl
    have := run_endRound (P := P) jump hl3
    rw [hrec] at this ⊢
    exact ⟨this, by rw [hrec] at hl3; exact hl3, World.putObj_heap_same (Array.getElem?_eq_some_iff.1 hl3).1, hZl _ _ (hZ _ _ hz2 hk3)⟩
  rintro e a3 W3 hp
  cases e with
  | normal =>
    obtain ⟨hk3, hkp3, hi3⟩ := hp
    obtain ⟨hr, hl3, hl4, hz4⟩ := fin none W3 hk3
    exact ⟨_, _, hr, .inl ⟨rfl, ⟨hI.put _ hi3 hle hl3 rfl, hl4, hz4⟩, hKt hkp (hKt (hKt hk2 hkp3) (hKb _ _ _ _ hle hl3 rfl))⟩⟩
  | ret =>
    obtain ⟨hk3, hi3⟩ := hp
    obtain ⟨hr, hl3, hl4, hz4⟩ := fin (some .ret) W3 hk3
    exact ⟨_, _, hr, .inr ⟨rfl, .ret, (hIx _).put _ hi3 hle hl3 rfl, hl4, hz4⟩⟩
  | exit id =>
    obtain ⟨hk3, hi3⟩ := hp
    obtain ⟨hr, hl3, hl4, hz4⟩ := fin (some (.exit id)) W3 hk3
    exact ⟨_, _, hr, .inr ⟨rfl, .exit id, (hIx _).put _ hi3 hle hl3 rfl, hl4, hz4⟩⟩
  | goto t => exact hp.elim
  | panic ch => exact hp.elim
  | outgrown => exact hp.elim

variable {g : Operand} {ps : Array Tmp} {assign body : Code} {Q : Exit → Act → World → Prop} {a : Act} {w : World}

/-- THE LAW, for a loop that stands in no round. -/
theorem range_outer (hro : F.round = none) (h1 : 1 ≤ n) {gf : Nat} {lb : Array Value} (hg : a.eval g = .func (.func gf) #[] lb) (hFg : F.fn gf) (eg : ∀ args w, (callFunc gf args).run P w = .ok (.enter gf args) w)
    {encs : α → Array Value} {B : Option Nat} {Kp : World → World → Prop} {S Sp : List α → Prop} {w0 : World} {Sx : List α → α → Prop} (hseq : SeqB F (n - 1) P gf lb encs B Kp S Sp w0 Sx) (hBw : ∀ b, B = some b → b < w.heap.size)
    (hKt : ∀ {A B C : World}, Kp A B → Kp B C → Kp A C) (hKb : ∀ (W : World) (l : Nat) (o o' : Obj), w.heap.size ≤ l → W.heap[l]? = some o → o.isCells = false → Kp W (W.putObj l o')) (hb0 : Below w0.heap.size w0 w) (hps : ∀ x, (encs x).size = ps.size)
    (I : List α → World → Prop) (Ix : Code → List α → World → Prop) (hI : Calm B w.heap.size I) (hIx : ∀ c, Calm B w.heap.size (Ix c)) (h0 : I [] w) (Ax : α → Act → World → Prop) (hAx : ∀ x a', Calm B w.heap.size (fun (_ : Unit) W => Ax x a' W))
    (hassign : ∀ (l : Nat) (pre : List α) (x : α) (W : World) (K : Act → World → Prop), I pre W → (∀ a' W', KeepsFrom w.heap.size W W' → Kp W W' → I pre W' → Ax x a' W' → K a' W') →
      assign.wpIn (F.inRound l) (n - 1 - 1) P (Exit.then K (fun _ _ _ => False)) { tmps := (ps.zip (encs x)).foldl (fun t (p, v) => t.setIfInBounds p v) a.tmps, defers := [] } W)
    (hbody : ∀ (l : Nat) (pre : List α) (x : α) (a' : Act) (W : World), Sx pre x → w.heap.size ≤ l → (∃ r, W.heap[l]? = some (.loop r)) → I pre W → Ax x a' W → body.wpIn (F.inRound l) (n - 1 - 1) P (left w.heap.size Kp I Ix (pre ++ [x]) W) a' W)
    (hdone : ∀ (D : Nat) (xs : List α) (W : World), w.heap.size ≤ D → S xs → I xs W → W.heap[D]? = some (.deferred (some [])) → Q .normal { a with defers := { target := .collected D, args := #[] } :: a.defers } W)
    (hstop : ∀ (D : Nat) (c : Code) (pre : List α) (W : World), w.heap.size ≤ D → Sp pre → Ix c pre W → W.heap[D]? = some (.deferred (some [])) → c.wpIn F n P Q { a with defers := { target := .collected D, args := #[] } :: a.defers } W) :
    (Code.rangeFunc g ps assign body).wpIn F n P Q a w := by
  refine wpIn_rangeFunc ?_
  intro fn hfn
  rw [hro]
  obtain ⟨rec, hrec⟩ : ∃ rec : LoopState → Option Code → Loop, rec = fun st pe => { state := st, pending := pe, fn, tmps := a.tmps, params := ps, assign, body, defers := w.heap.size } := ⟨_, rfl⟩
  obtain ⟨W1, hW1⟩ : ∃ W1, (w.alloc (.deferred (some []))).alloc (.loop (rec .ready none)) = W1 := ⟨_, rfl⟩
  have hL1 : W1.heap[w.heap.size + 1]? = some (.loop (rec .ready none)) := by
    rw [← hW1]; have := World.alloc_heap_new (w.alloc (.deferred (some []))) (.loop (rec .ready none)); rwa [World.size_alloc] at this
  have hK1 : W1.heap[w.heap.size]? = some (.deferred (some [])) := by
    rw [← hW1]; exact (Below.heap_alloc _ _ _ (by simp)).trans (World.alloc_heap_new w _)
  have hI1 : I [] W1 := by rw [← hW1]; exact hI.alloc _ (hI.alloc _ h0)
  have hb1 : Below w0.heap.size w0 W1 := by
    rw [← hW1]; exact hb0.trans ((((Below.refl _ w).alloc (Nat.le_refl _) _).alloc (by simp) _).mono hb0.size)
  have hne : ∀ k, w.heap.size ≤ k → B ≠ some k := fun k hk e => by have := hBw k e; omega
  refine ⟨w.heap.size + 1, [{ target := .collected w.heap.size, args := #[] }], W1, { target := .fn (.func gf) lb, args := #[.func (.yield (w.heap.size + 1)) #[] #[]] }, W1, gf,
    #[.func (.yield (w.heap.size + 1)) #[] #[]] ++ lb, W1, ?_, ?_, ?_, ?_, fun _ => h1, ?_⟩
  · rw [← hW1, hrec]; exact run_enterLoop_outer _ _ _ _ _
  · simp only [resolve, hg]
    simp [go_sem]
  · intro f' hf'; simp [Target.leads] at hf'; subst hf'; exact hFg
  · simp [invoke, go_sem, eg]
  refine (hseq (w.heap.size + 1) (fun pre W => I pre W ∧ W.heap[w.heap.size + 1]? = some (.loop (rec .ready none)) ∧ W.heap[w.heap.size]? = some (.deferred (some [])))
    (fun pre W => ∃ c, Ix c pre W ∧ W.heap[w.heap.size + 1]? = some (.loop (rec .done (some c))) ∧ W.heap[w.heap.size]? = some (.deferred (some []))) W1 hb1
    (fun s A A' row hs hg' hr => ⟨hI s A A' row hs.1 hg' (fun r e => .inl (hr r e)), still hg' hr hs.2.1 (hne _ (by omega)), still hg' hr hs.2.2 (hne _ (Nat.le_refl _))⟩)
    (fun s A A' row hs hg' hr => by
      obtain ⟨c, hc, hl, hk⟩ := hs
      exact ⟨c, hIx c s A A' row hc hg' (fun r e => .inl (hr r e)), still hg' hr hl (hne _ (by omega)), still hg' hr hk (hne _ (Nat.le_refl _))⟩)
    ?_ ⟨hI1, hL1, hK1⟩).mono ?_
  · rintro pre x W hsx ⟨hi, hl, hk⟩
    exact one_round (l := w.heap.size + 1) (n := n - 1 - 1) (Kp := Kp) hrec hfn hps (fun h k => hKt h k) hKb hI hIx hAx (fun pre x W K => hassign _ pre x W K) pre x (fun a' W => hbody _ pre x a' W hsx (by omega)) (by omega) (fun W => W.heap[w.heap.size]? = some (.deferred (some [])))
      (fun A A' hz hkf => hkf.same _ _ (Nat.le_refl _) hz rfl) (fun A o' hz => (World.putObj_heap_other (by omega)).trans hz) W hi hl hk
  · rintro e W2 ⟨⟨v, rfl⟩, (⟨xs, hS, hi, hl, hk⟩ | ⟨pre, hSp, c, hi, hl, hk⟩)⟩
    · exact ⟨none, _, by have := run_endLoop (P := P) hl (by rw [hrec]; simp); rw [hrec] at this; exact this, hdone _ xs _ (Nat.le_refl _) hS (hI.put _ hi (by omega) hl rfl) ((World.putObj_heap_other (by omega)).trans hk)⟩
    · exact ⟨some c, _, by have := run_endLoop (P := P) hl (by rw [hrec]; simp); rw [hrec] at this; exact this, hstop _ c pre _ (Nat.le_refl _) hSp ((hIx c).put _ hi (by omega) hl rfl) ((World.putObj_heap_other (by omega)).trans hk)⟩

/-- THE LAW, for a loop that stands in a round of loop l₀. -/
theorem range_inner {l₀ : Nat} {r₀ : Loop} (hro : F.round = some l₀) (hl₀ : w.heap[l₀]? = some (.loop r₀)) (h1 : 1 ≤ n) {gf : Nat} {lb : Array Value} (hg : a.eval g = .func (.func gf) #[] lb) (hFg : F.fn gf) (eg : ∀ args w, (callFunc gf args).run P w = .ok (.enter gf args) w)
    {encs : α → Array Value} {B : Option Nat} {Kp : World → World → Prop} {S Sp : List α → Prop} {w0 : World} {Sx : List α → α → Prop} (hseq : SeqB F (n - 1) P gf lb encs B Kp S Sp w0 Sx) (hBw : ∀ b, B = some b → b < w.heap.size)
    (hKt : ∀ {A B C : World}, Kp A B → Kp B C → Kp A C) (hKb : ∀ (W : World) (l : Nat) (o o' : Obj), w.heap.size ≤ l → W.heap[l]? = some o → o.isCells = false → Kp W (W.putObj l o')) (hb0 : Below w0.heap.size w0 w) (hps : ∀ x, (encs x).size = ps.size)
    (I : List α → World → Prop) (Ix : Code → List α → World → Prop) (hI : Calm B w.heap.size I) (hIx : ∀ c, Calm B w.heap.size (Ix c)) (h0 : I [] w) (Ax : α → Act → World → Prop) (hAx : ∀ x a', Calm B w.heap.size (fun (_ : Unit) W => Ax x a' W))
    (hassign : ∀ (l : Nat) (pre : List α) (x : α) (W : World) (K : Act → World → Prop), I pre W → (∀ a' W', KeepsFrom w.heap.size W W' → Kp W W' → I pre W' → Ax x a' W' → K a' W') →
      assign.wpIn (F.inRound l) (n - 1 - 1) P (Exit.then K (fun _ _ _ => False)) { tmps := (ps.zip (encs x)).foldl (fun t (p, v) => t.setIfInBounds p v) a.tmps, defers := [] } W)
    (hbody : ∀ (l : Nat) (pre : List α) (x : α) (a' : Act) (W : World), Sx pre x → w.heap.size ≤ l → (∃ r, W.heap[l]? = some (.loop r)) → I pre W → Ax x a' W → body.wpIn (F.inRound l) (n - 1 - 1) P (left w.heap.size Kp I Ix (pre ++ [x]) W) a' W)
    (hdone : ∀ (xs : List α) (W : World), S xs → I xs W → Q .normal a W)
    (hstop : ∀ (c : Code) (pre : List α) (W : World), Sp pre → Ix c pre W → c.wpIn F n P Q a W) :
    (Code.rangeFunc g ps assign body).wpIn F n P Q a w := by
  refine wpIn_rangeFunc ?_
  intro fn hfn
  rw [hro]
  obtain ⟨rec, hrec⟩ : ∃ rec : LoopState → Option Code → Loop, rec = fun st pe => { state := st, pending := pe, fn, tmps := a.tmps, params := ps, assign, body, defers := r₀.defers } := ⟨_, rfl⟩
  obtain ⟨W1, hW1⟩ : ∃ W1, w.alloc (.loop (rec .ready none)) = W1 := ⟨_, rfl⟩
  have hL1 : W1.heap[w.heap.size]? = some (.loop (rec .ready none)) := by rw [← hW1]; exact World.alloc_heap_new w _
  have hI1 : I [] W1 := by rw [← hW1]; exact hI.alloc _ h0
  have hb1 : Below w0.heap.size w0 W1 := by
    rw [← hW1]; exact hb0.trans (((Below.refl _ w).alloc (Nat.le_refl _) _).mono hb0.size)
  have hne : ∀ k, w.heap.size ≤ k → B ≠ some k := fun k hk e => by have := hBw k e; omega
  refine ⟨w.heap.size, [], W1, { target := .fn (.func gf) lb, args := #[.func (.yield w.heap.size) #[] #[]] }, W1, gf,
    #[.func (.yield w.heap.size) #[] #[]] ++ lb, W1, ?_, ?_, ?_, ?_, fun _ => h1, ?_⟩
  · rw [← hW1, hrec]; exact run_enterLoop_inner hl₀ _ _ _ _ _
  · simp only [resolve, hg]
    simp [go_sem]
  · intro f' hf'; simp [Target.leads] at hf'; subst hf'; exact hFg
  · simp [invoke, go_sem, eg]
  refine (hseq w.heap.size (fun pre W => I pre W ∧ W.heap[w.heap.size]? = some (.loop (rec .ready none)) ∧ True)
    (fun pre W => ∃ c, Ix c pre W ∧ W.heap[w.heap.size]? = some (.loop (rec .done (some c))) ∧ True) W1 hb1
    (fun s A A' row hs hg' hr => ⟨hI s A A' row hs.1 hg' (fun r e => .inl (hr r e)), still hg' hr hs.2.1 (hne _ (Nat.le_refl _)), trivial⟩)
    (fun s A A' row hs hg' hr => by
      obtain ⟨c, hc, hl, _⟩ := hs
      exact ⟨c, hIx c s A A' row hc hg' (fun r e => .inl (hr r e)), still hg' hr hl (hne _ (Nat.le_refl _)), trivial⟩)
    ?_ ⟨hI1, hL1, trivial⟩).mono ?_
  · rintro pre x W hsx ⟨hi, hl, _⟩
    exact one_round (l := w.heap.size) (n := n - 1 - 1) (Kp := Kp) hrec hfn hps (fun h k => hKt h k) hKb hI hIx hAx (fun pre x W K => hassign _ pre x W K) pre x (fun a' W => hbody _ pre x a' W hsx (Nat.le_refl _)) (Nat.le_refl _) (fun _ => True) (fun _ _ _ _ => trivial) (fun _ _ _ => trivial) W hi hl trivial
  · rintro e W2 ⟨⟨v, rfl⟩, (⟨xs, hS, hi, hl, _⟩ | ⟨pre, hSp, c, hi, hl, _⟩)⟩
    · exact ⟨none, _, by have := run_endLoop (P := P) hl (by rw [hrec]; simp); rw [hrec] at this; exact this, hdone xs _ hS (hI.put _ hi (Nat.le_refl _) hl rfl)⟩
    · exact ⟨some c, _, by have := run_endLoop (P := P) hl (by rw [hrec]; simp); rw [hrec] at this; exact this, hstop c pre _ hSp ((hIx c).put _ hi (Nat.le_refl _) hl rfl)⟩
end
end Go.Proofs.YtieppcjpbjefkaaDoor

/- Contracts of package utf: code points as bytes. -/
namespace Go.Proofs.YtieppcjpbjefkaaDoor
open Go.RowKit Go.Proofs

def isB (r : Int) : Bool := decide (0 ≤ r) && (decide (r ≤ 1114111) && (decide (r < 55296) || decide (57343 < r)))

theorem utf_is (r : Int) (w : World) :
    Calls Tryd.prog 90 #[.int .i64 r] w fun e w' => e = .returned (.bool (isB r)) ∧ w = w' := by
  go_enter Tryd.func90, Tryd.ntmps90
  go_wp2
  all_goals go_ret
  all_goals refine ⟨?_, rfl⟩
  all_goals simp [isB, *]
  all_goals omega

set_option maxHeartbeats 1000000 in
theorem utf_sizes (w : World) :
    Calls Tryd.prog 91 #[] w fun e w' => e = .returned (.agg #[.int .i64 1, .int .i64 127, .int .u8 0, .int .u8 127, .int .i64 2, .int .i64 2047, .int .u8 192, .int .u8 31, .int .i64 3, .int .i64 65535, .int .u8 224, .int .u8 15, .int .i64 4, .int .i64 1114111, .int .u8 240, .int .u8 7]) ∧ Below w.heap.size w w' := by
  go_enter Tryd.func91, Tryd.ntmps91
  go_wp2
  go_returns
  exact ⟨rfl, by go_grown⟩
end Go.Proofs.YtieppcjpbjefkaaDoor

/- Contracts of package utf: code points as bytes: Put. -/
namespace Go.Proofs.YtieppcjpbjefkaaDoor
open Go.RowKit Go.Proofs

theorem or128 (r : Int) (h0 : 0 ≤ r) (h1 : r ≤ 1114111) : bits .or .u8 128 (bits .and .i64 r 63 % 256) = 128 + r % 64 := by
  have := and_mask 6 (by decide) r h0 (by omega)
  simp only [Int.reducePow, Int.reduceSub] at this
  rw [this, show r % 64 % 256 = r % 64 from by omega]
  exact u8_or128 _ (by omega) (by omega)
theorem or0 (r : Int) (h0 : 0 ≤ r) (h1 : r ≤ 255) : bits .or .u8 0 r = r := by
  have := bits_join .u8 8 (by decide) wraps_u8 8 0 r (by decide) (by decide) (by decide) h0 (by omega) (by omega)
  omega

/-- the bytes of a code point -/
def putL (r : Int) : List Int :=
  if isB r then
    (if r ≤ 127 then [r] else if r ≤ 2047 then [192 + r / 64, 128 + r % 64] else if r ≤ 65535 then [224 + r / 4096, 128 + r / 64 % 64, 128 + r % 64]
     else [240 + r / 262144, 128 + r / 4096 % 64, 128 + r / 64 % 64, 128 + r % 64])
  else []
theorem putL_length (r : Int) : (putL r).length ≤ 4 := by unfold putL; (repeat' split) <;> simp

set_option maxRecDepth 100000 in
set_option maxHeartbeats 1000000 in
theorem utf_Put1 (r : Int) (w : World) (h0 : 0 ≤ r) (h1 : r ≤ 127) (hb : isB r = true) :
    Calls Tryd.prog 44 #[.int .i64 r] w fun e w' => ∃ v, e = .returned v ∧ w'.ownsRow w.heap.size 5 1 v 1 (nums .u8 [r]) ∧ Below w.heap.size w w' := by
  have i0 : ∀ w, (Instr.index 118 (.agg #[.int .i64 1, .int .i64 127, .int .u8 0, .int .u8 127, .int .i64 2, .int .i64 2047, .int .u8 192, .int .u8 31, .int .i64 3, .int .i64 65535, .int .u8 224, .int .u8 15, .int .i64 4, .int .i64 1114111, .int .u8 240, .int .u8 7]) (.int .i64 0)).run Tryd.prog w = .ok (.agg #[.int .i64 1, .int .i64 127, .int .u8 0, .int .u8 127]) w := fun _ => by kernel_rfl
  have hmk : ∀ w, (Instr.makeSlice 31 (.int .i64 1) (.int .i64 1)).run Tryd.prog w = .ok (.slice (some ⟨w.heap.size, 0, none⟩) 1 1) (w.alloc (.cells #[.int .u8 0] 5)) := fun _ => by kernel_rfl
  go_enter Tryd.func44, Tryd.ntmps44
  go_wp2_with (first | (go_at_call 90; refine (utf_is _ _).mono ?_; rintro e w' ⟨rfl, rfl⟩) | (go_at_call 91; refine (utf_sizes _).mono ?_; rintro e w' ⟨rfl, hbl⟩))
  refine wp_loop_rounds 1 ?_
  rw [rounds_succ]
  go_wp2_with fail
  refine wp_loop_rounds 1 ?_
  rw [rounds_succ]
  go_wp2_with fail
  have hs := hbl.size
  refine bodyPost_ret (results_tmp rfl _ _ _) rfl ⟨_, rfl, ?_, by go_grown⟩
  rw [or0 r (by omega) (by omega)]
  exact own_new (nums .u8 _) (by simp) (by simp; omega) rfl (by decide)

set_option maxRecDepth 100000 in
set_option maxHeartbeats 1000000 in
theorem utf_Put2 (r : Int) (w : World) (h0 : 128 ≤ r) (h1 : r ≤ 2047) (hb : isB r = true) :
    Calls Tryd.prog 44 #[.int .i64 r] w fun e w' => ∃ v, e = .returned v ∧ w'.ownsRow w.heap.size 5 1 v 2 (nums .u8 [192 + r / 64, 128 + r % 64]) ∧ Below w.heap.size w w' := by
  have i0 : ∀ w, (Instr.index 118 (.agg #[.int .i64 1, .int .i64 127, .int .u8 0, .int .u8 127, .int .i64 2, .int .i64 2047, .int .u8 192, .int .u8 31, .int .i64 3, .int .i64 65535, .int .u8 224, .int .u8 15, .int .i64 4, .int .i64 1114111, .int .u8 240, .int .u8 7]) (.int .i64 0)).run Tryd.prog w = .ok (.agg #[.int .i64 1, .int .i64 127, .int .u8 0, .int .u8 127]) w := fun _ => by kernel_rfl
  have i1 : ∀ w, (Instr.index 118 (.agg #[.int .i64 1, .int .i64 127, .int .u8 0, .int .u8 127, .int .i64 2, .int .i64 2047, .int .u8 192, .int .u8 31, .int .i64 3, .int .i64 65535, .int .u8 224, .int .u8 15, .int .i64 4, .int .i64 1114111, .int .u8 240, .int .u8 7]) (.int .i64 1)).run Tryd.prog w = .ok (.agg #[.int .i64 2, .int .i64 2047, .int .u8 192, .int .u8 31]) w := fun _ => by kernel_rfl
  have hmk : ∀ w, (Instr.makeSlice 31 (.int .i64 2) (.int .i64 2)).run Tryd.prog w = .ok (.slice (some ⟨w.heap.size, 0, none⟩) 2 2) (w.alloc (.cells #[.int .u8 0, .int .u8 0] 5)) := fun _ => by kernel_rfl
  go_enter Tryd.func44, Tryd.ntmps44
  go_wp2_with (first | (go_at_call 90; refine (utf_is _ _).mono ?_; rintro e w' ⟨rfl, rfl⟩) | (go_at_call 91; refine (utf_sizes _).mono ?_; rintro e w' ⟨rfl, hbl⟩))
  refine wp_loop_rounds 2 ?_
  rw [rounds_succ]
  go_wp2_with fail
  rw [rounds_succ]
  go_wp2_with fail
  refine wp_loop_rounds 2 ?_
  rw [rounds_succ]
  go_wp2_with fail
  rw [rounds_succ]
  go_wp2_with fail
  have hs := hbl.size
  refine bodyPost_ret (results_tmp rfl _ _ _) rfl ⟨_, rfl, ?_, by go_grown⟩
  rw [or128 r (by omega) (by omega)]
  exact own_new (nums .u8 _) (by simp) (by simp; omega) rfl (by decide)

set_option maxRecDepth 100000 in
set_option maxHeartbeats 1000000 in
theorem utf_Put3 (r : Int) (w : World) (h0 : 2048 ≤ r) (h1 : r ≤ 65535) (hb : isB r = true) :
    Calls Tryd.prog 44 #[.int .i64 r] w fun e w' => ∃ v, e = .returned v ∧ w'.ownsRow w.heap.size 5 1 v 3 (nums .u8 [224 + r / 4096, 128 + r / 64 % 64, 128 + r % 64]) ∧ Below w.heap.size w w' := by
  have i0 : ∀ w, (Instr.index 118 (.agg #[.int .i64 1, .int .i64 127, .int .u8 0, .int .u8 127, .int .i64 2, .int .i64 2047, .int .u8 192, .int .u8 31, .int .i64 3, .int .i64 65535, .int .u8 224, .int .u8 15, .int .i64 4, .int .i64 1114111, .int .u8 240, .int .u8 7]) (.int .i64 0)).run Tryd.prog w = .ok (.agg #[.int .i64 1, .int .i64 127, .int .u8 0, .int .u8 127]) w := fun _ => by kernel_rfl
  have i1 : ∀ w, (Instr.index 118 (.agg #[.int .i64 1, .int .i64 127, .int .u8 0, .int .u8 127, .int .i64 2, .int .i64 2047, .int .u8 192, .int .u8 31, .int .i64 3, .int .i64 65535, .int .u8 224, .int .u8 15, .int .i64 4, .int .i64 1114111, .int .u8 240, .int .u8 7]) (.int .i64 1)).run Tryd.prog w = .ok (.agg #[.int .i64 2, .int .i64 2047, .int .u8 192, .int .u8 31]) w := fun _ => by kernel_rfl
  have i2 : ∀ w, (Instr.index 118 (.agg #[.int .i64 1, .int .i64 127, .int .u8 0, .int .u8 127, .int .i64 2, .int .i64 2047, .int .u8 192, .int .u8 31, .int .i64 3, .int .i64 65535, .int .u8 224, .int .u8 15, .int .i64 4, .int .i64 1114111, .int .u8 240, .int .u8 7]) (.int .i64 2)).run Tryd.prog w = .ok (.agg #[.int .i64 3, .int .i64 65535, .int .u8 224, .int .u8 15]) w := fun _ => by kernel_rfl
  have hmk : ∀ w, (Instr.makeSlice 31 (.int .i64 3) (.int .i64 3)).run Tryd.prog w = .ok (.slice (some ⟨w.heap.size, 0, none⟩) 3 3) (w.alloc (.cells #[.int .u8 0, .int .u8 0, .int .u8 0] 5)) := fun _ => by kernel_rfl
  go_enter Tryd.func44, Tryd.ntmps44
  go_wp2_with (first | (go_at_call 90; refine (utf_is _ _).mono ?_; rintro e w' ⟨rfl, rfl⟩) | (go_at_call 91; refine (utf_sizes _).mono ?_; rintro e w' ⟨rfl, hbl⟩))
  refine wp_loop_rounds 3 ?_
  rw [rounds_succ]
  go_wp2_with fail
  rw [rounds_succ]
  go_wp2_with fail
  rw [rounds_succ]
  go_wp2_with fail
  refine wp_loop_rounds 3 ?_
  rw [rounds_succ]
  go_wp2_with fail
  rw [rounds_succ]
  go_wp2_with fail
  rw [rounds_succ]
  go_wp2_with fail
  have hs := hbl.size
  refine bodyPost_ret (results_tmp rfl _ _ _) rfl ⟨_, rfl, ?_, by go_grown⟩
  rw [or128 r (by omega) (by omega), or128 (r / 64) (by omega) (by omega), show r / 64 / 64 = r / 4096 from by omega]
  exact own_new (nums .u8 _) (by simp) (by simp; omega) rfl (by decide)

set_option maxRecDepth 100000 in
set_option maxHeartbeats 1000000 in
theorem utf_Put4 (r : Int) (w : World) (h0 : 65536 ≤ r) (h1 : r ≤ 1114111) (hb : isB r = true) :
    Calls Tryd.prog 44 #[.int .i64 r] w fun e w' => ∃ v, e = .returned v ∧ w'.ownsRow w.heap.size 5 1 v 4 (nums .u8 [240 + r / 262144, 128 + r / 4096 % 64, 128 + r / 64 % 64, 128 + r % 64]) ∧ Below w.heap.size w w' := by
  have i0 : ∀ w, (Instr.index 118 (.agg #[.int .i64 1, .int .i64 127, .int .u8 0, .int .u8 127, .int .i64 2, .int .i64 2047, .int .u8 192, .int .u8 31, .int .i64 3, .int .i64 65535, .int .u8 224, .int .u8 15, .int .i64 4, .int .i64 1114111, .int .u8 240, .int .u8 7]) (.int .i64 0)).run Tryd.prog w = .ok (.agg #[.int .i64 1, .int .i64 127, .int .u8 0, .int .u8 127]) w := fun _ => by kernel_rfl
  have i1 : ∀ w, (Instr.index 118 (.agg #[.int .i64 1, .int .i64 127, .int .u8 0, .int .u8 127, .int .i64 2, .int .i64 2047, .int .u8 192, .int .u8 31, .int .i64 3, .int .i64 65535, .int .u8 224, .int .u8 15, .int .i64 4, .int .i64 1114111, .int .u8 240, .int .u8 7]) (.int .i64 1)).run Tryd.prog w = .ok (.agg #[.int .i64 2, .int .i64 2047, .int .u8 192, .int .u8 31]) w := fun _ => by kernel_rfl
  have i2 : ∀ w, (Instr.index 118 (.agg #[.int .i64 1, .int .i64 127, .int .u8 0, .int .u8 127, .int .i64 2, .int .i64 2047, .int .u8 192, .int .u8 31, .int .i64 3, .int .i64 65535, .int .u8 224, .int .u8 15, .int .i64 4, .int .i64 1114111, .int .u8 240, .int .u8 7]) (.int .i64 2)).run Tryd.prog w = .ok (.agg #[.int .i64 3, .int .i64 65535, .int .u8 224, .int .u8 15]) w := fun _ => by kernel_rfl
  have i3 : ∀ w, (Instr.index 118 (.agg #[.int .i64 1, .int .i64 127, .int .u8 0, .int .u8 127, .int .i64 2, .int .i64 2047, .int .u8 192, .int .u8 31, .int .i64 3, .int .i64 65535, .int .u8 224, .int .u8 15, .int .i64 4, .int .i64 1114111, .int .u8 240, .int .u8 7]) (.int .i64 3)).run Tryd.prog w = .ok (.agg #[.int .i64 4, .int .i64 1114111, .int .u8 240, .int .u8 7]) w := fun _ => by kernel_rfl
  have hmk : ∀ w, (Instr.makeSlice 31 (.int .i64 4) (.int .i64 4)).run Tryd.prog w = .ok (.slice (some ⟨w.heap.size, 0, none⟩) 4 4) (w.alloc (.cells #[.int .u8 0, .int .u8 0, .int .u8 0, .int .u8 0] 5)) := fun _ => by kernel_rfl
  go_enter Tryd.func44, Tryd.ntmps44
  go_wp2_with (first | (go_at_call 90; refine (utf_is _ _).mono ?_; rintro e w' ⟨rfl, rfl⟩) | (go_at_call 91; refine (utf_sizes _).mono ?_; rintro e w' ⟨rfl, hbl⟩))
  refine wp_loop_rounds 4 ?_
  rw [rounds_succ]
  go_wp2_with fail
  rw [rounds_succ]
  go_wp2_with fail
  rw [rounds_succ]
  go_wp2_with fail
  rw [rounds_succ]
  go_wp2_with fail
  refine wp_loop_rounds 4 ?_
  rw [rounds_succ]
  go_wp2_with fail
  rw [rounds_succ]
  go_wp2_with fail
  rw [rounds_succ]
  go_wp2_with fail
  rw [rounds_succ]
  go_wp2_with fail
  have hs := hbl.size
  refine bodyPost_ret (results_tmp rfl _ _ _) rfl ⟨_, rfl, ?_, by go_grown⟩
  rw [or128 r (by omega) (by omega), or128 (r / 64) (by omega) (by omega), or128 (r / 64 / 64) (by omega) (by omega), show r / 64 / 64 / 64 = r / 262144 from by omega, show r / 64 / 64 = r / 4096 from by omega]
  exact own_new (nums .u8 _) (by simp) (by simp; omega) rfl (by decide)

set_option maxRecDepth 100000 in
set_option maxHeartbeats 1000000 in
theorem utf_Put0 (r : Int) (w : World) (hb : isB r = false) :
    Calls Tryd.prog 44 #[.int .i64 r] w fun e w' => ∃ v, e = .returned v ∧ w'.ownsRow w.heap.size 5 1 v 0 (nums .u8 []) ∧ Below w.heap.size w w' := by
  go_enter Tryd.func44, Tryd.ntmps44
  go_wp2_with (first | (go_at_call 90; refine (utf_is _ _).mono ?_; rintro e w' ⟨rfl, rfl⟩) | (go_at_call 91; refine (utf_sizes _).mono ?_; rintro e w' ⟨rfl, hbl⟩))
  refine bodyPost_ret (results_tmp rfl _ _ _) rfl ⟨_, rfl, World.ownsRow_nil _ _ _ _, Below.refl _ _⟩

/-- utf.Put: the bytes of a code point, or none. -/
theorem utf_Put (r : Int) (w : World) :
    Calls Tryd.prog 44 #[.int .i64 r] w fun e w' => ∃ v, e = .returned v ∧ w'.ownsRow w.heap.size 5 1 v (putL r).length (nums .u8 (putL r)) ∧ Below w.heap.size w w' := by
  by_cases hb : isB r = true
  · have h : 0 ≤ r ∧ r ≤ 1114111 := by simp [isB] at hb; omega
    unfold putL
    rw [if_pos hb]
    by_cases h1 : r ≤ 127
    · rw [if_pos h1]; exact utf_Put1 r w h.1 h1 hb
    rw [if_neg h1]
    by_cases h2 : r ≤ 2047
    · rw [if_pos h2]; exact utf_Put2 r w (by omega) h2 hb
    rw [if_neg h2]
    by_cases h3 : r ≤ 65535
    · rw [if_pos h3]; exact utf_Put3 r w (by omega) h3 hb
    rw [if_neg h3]; exact utf_Put4 r w (by omega) h.2 hb
  · have hb' : isB r = false := by simpa using hb
    unfold putL
    rw [if_neg hb]
    exact utf_Put0 r w hb'

end Go.Proofs.YtieppcjpbjefkaaDoor

/- Contracts of Go's library at this program's instances: slices.Equal of bytes. -/
namespace Go.Proofs.YtieppcjpbjefkaaDoor
open Go.RowKit Go.Proofs

/-- a bool is returned, orders having been drawn -/
def SameB (w : World) (b : Bool) (e : Ending) (w' : World) : Prop := e = .returned (.bool b) ∧ ∃ n, w' = w.drewN n

set_option maxRecDepth 100000 in
set_option maxHeartbeats 1000000 in
theorem slices_Equal_byte_len (p1 p2 : Option Addr) (n c m d : Nat) (w : World) (h : n ≠ m) :
    Calls Tryd.prog 158 #[.slice p1 n c, .slice p2 m d] w (SameB w false) := by
  have hb : ((n : Int) != (m : Int)) = true := by rw [bne_iff_ne]; omega
  go_enter Tryd.func158, Tryd.ntmps158
  go_wp2
  go_ret
  exact ⟨rfl, 0, rfl⟩

set_option maxRecDepth 100000 in
set_option maxHeartbeats 1000000 in
theorem slices_Equal_byte_at (p1 p2 : Option Addr) (n c d : Nat) (xs ys : List Int) (w : World) (hx : xs.length = n) (hy : ys.length = n) (hn : n ≤ 9223372036854775807) (h1 : Lib.BytesIn w p1 n xs) (h2 : Lib.BytesIn w p2 n ys) :
    Calls Tryd.prog 158 #[.slice p1 n c, .slice p2 n d] w (SameB w (xs == ys)) := by
  have hb : ((n : Int) != (n : Int)) = false := by simp
  go_enter Tryd.func158, Tryd.ntmps158
  go_wp2
  go_loopw [13] (fun i wr => ∃ k q : Nat, k ≤ n ∧ i = .int .i64 k ∧ Hid (xs.take k = ys.take k) ∧ wr = w.drewN q) (fun i _ => n - (intOf i).toNat)
  case atStart => exact ⟨0, 0, by omega, rfl, Lib.hid (by simp), rfl⟩
  case round =>
    obtain ⟨k, q, hk, rfl, he, rfl⟩ := hrel
    by_cases hlt : k < n
    · have hd : decide ((k : Int) < (n : Int)) = true := by simp; omega
      obtain ⟨b1, o1, rfl, g1⟩ := h1.at (by omega)
      obtain ⟨b2, o2, rfl, g2⟩ := h2.at (by omega)
      have c1 := g1 k hlt
      have c2 := g2 k hlt
      clear g1 g2 h1 h2
      go_wp2
      go_quiet (fail)
      have kx : k < xs.length := by omega
      have ky : k < ys.length := by omega
      by_cases hxy : xs[k] = ys[k]
      · have hq : (xs[k] != ys[k]) = false := by simpa using hxy
        have HE : Hid (xs.take (k + 1) = ys.take (k + 1)) := Lib.hid (by rw [List.take_succ_eq_append_getElem kx, List.take_succ_eq_append_getElem ky, he.out, hxy])
        clear hxy
        go_wp2
        go_roundw
        case rel => exact ⟨k + 1, q + nq, by omega, by go_num, HE, rfl⟩
        case measure => simp [intOf]; omega
      · have hq : (xs[k] != ys[k]) = true := by simpa using hxy
        have HE : Hid ((xs == ys) = false) := Lib.hid (by
          rw [beq_eq_false_iff_ne]
          rintro rfl
          exact hxy rfl)
        clear hxy
        go_wp2
        go_ret
        rw [HE.out]
        exact ⟨rfl, q + nq, World.drewN_drewN ..⟩
    · obtain rfl : k = n := by omega
      have HE : Hid ((xs == ys) = true) := Lib.hid (by
        rw [beq_iff_eq]
        have := he.out
        rwa [List.take_of_length_le (by omega), List.take_of_length_le (by omega)] at this)
      go_wp2
      go_ret
      rw [HE.out]
      exact ⟨rfl, q, rfl⟩

theorem slices_Equal_byte (p1 p2 : Option Addr) (n m c d : Nat) (xs ys : List Int) (w : World) (hx : xs.length = n) (hy : ys.length = m) (hn : n ≤ 9223372036854775807) (h1 : Lib.BytesIn w p1 n xs) (h2 : Lib.BytesIn w p2 m ys) :
    Calls Tryd.prog 158 #[.slice p1 n c, .slice p2 m d] w (SameB w (xs == ys)) := by
  by_cases h : n = m
  · subst h; exact slices_Equal_byte_at p1 p2 n c d xs ys w hx hy hn h1 h2
  · have : (xs == ys) = false := by rw [beq_eq_false_iff_ne]; rintro rfl; omega
    rw [this]
    exact slices_Equal_byte_len p1 p2 n c m d w h
end Go.Proofs.YtieppcjpbjefkaaDoor

/- Contracts of package keys: the table. -/
namespace Go.Proofs.YtieppcjpbjefkaaDoor
open Go.RowKit Go.Proofs

/-- a row of the table -/
structure RowD where
  frm : Int
  many : Nat
  kind : Int
  finals : ByteArray
  nums : List Int
  chars : ByteArray
def rowsD : List RowD := [
  ⟨9, 1, 2, ⟨#[]⟩, [], ⟨#[]⟩⟩,
  ⟨13, 1, 2, ⟨#[]⟩, [], ⟨#[]⟩⟩,
  ⟨27, 1, 2, ⟨#[]⟩, [], ⟨#[]⟩⟩,
  ⟨127, 1, 2, ⟨#[]⟩, [], ⟨#[]⟩⟩,
  ⟨57348, 2, 4, ⟨#[]⟩, [2, 3], ⟨#[]⟩⟩,
  ⟨57350, 4, 3, ⟨#[68, 67, 65, 66]⟩, [], ⟨#[]⟩⟩,
  ⟨57354, 2, 4, ⟨#[]⟩, [5, 6], ⟨#[]⟩⟩,
  ⟨57356, 2, 3, ⟨#[72, 70]⟩, [], ⟨#[]⟩⟩,
  ⟨57358, 5, 6, ⟨#[]⟩, [], ⟨#[]⟩⟩,
  ⟨57363, 1, 4, ⟨#[]⟩, [29], ⟨#[]⟩⟩,
  ⟨57364, 4, 3, ⟨#[80, 81, 82, 83]⟩, [], ⟨#[]⟩⟩,
  ⟨57368, 8, 4, ⟨#[]⟩, [15, 17, 18, 19, 20, 21, 23, 24], ⟨#[]⟩⟩,
  ⟨57376, 23, 6, ⟨#[]⟩, [], ⟨#[]⟩⟩,
  ⟨57399, 18, 5, ⟨#[112, 113, 114, 115, 116, 117, 118, 119, 120, 121, 110, 111, 106, 109, 107, 77, 88, 108]⟩, [], ⟨#[48, 49, 50, 51, 52, 53, 54, 55, 56, 57, 46, 47, 42, 45, 43, 13, 61, 44]⟩⟩,
  ⟨57417, 4, 3, ⟨#[68, 67, 65, 66]⟩, [], ⟨#[]⟩⟩,
  ⟨57421, 2, 4, ⟨#[]⟩, [5, 6], ⟨#[]⟩⟩,
  ⟨57423, 2, 3, ⟨#[72, 70]⟩, [], ⟨#[]⟩⟩,
  ⟨57425, 2, 4, ⟨#[]⟩, [2, 3], ⟨#[]⟩⟩,
  ⟨57427, 1, 3, ⟨#[69]⟩, [], ⟨#[]⟩⟩,
  ⟨57428, 13, 6, ⟨#[]⟩, [], ⟨#[]⟩⟩,
  ⟨57441, 14, 7, ⟨#[]⟩, [], ⟨#[]⟩⟩]

/-- a row as it lies in memory, from block b's cell 6 * i on -/
def RowAt (w : World) (b i : Nat) (r : RowD) : Prop :=
  ∃ A : Option Addr, w.cell? ⟨b, i * 6, none⟩ = some (.int .i64 r.frm) ∧ w.cell? ⟨b, i * 6 + 1, none⟩ = some (.int .i64 r.many) ∧ w.cell? ⟨b, i * 6 + 2, none⟩ = some (.int .i64 r.kind) ∧
    w.cell? ⟨b, i * 6 + 3, none⟩ = some (.string r.finals) ∧ w.cell? ⟨b, i * 6 + 4, none⟩ = some (.slice A r.nums.length r.nums.length) ∧ w.cell? ⟨b, i * 6 + 5, none⟩ = some (.string r.chars) ∧
    ((r.nums = [] ∧ A = none) ∨ r.nums ≠ [] ∧ ∃ g, A = some ⟨g, 0, none⟩ ∧ ∀ j x, r.nums[j]? = some x → w.cell? ⟨g, j, none⟩ = some (.int .i64 x))

theorem cell_of_heap {w : World} {b : Nat} {c : Array Value} {t : TypeId} {fr : Nat × Nat} (h : w.heap[b]? = some (.cells c t fr)) (i : Nat) : w.cell? ⟨b, i, none⟩ = c[i]? := by simp [World.cell?, h]

/-- the table's cells, the small blocks lying from g on -/
def rowsCells (g : Nat) : Array Value := #[
  .int .i64 9, .int .i64 1, .int .i64 2, .string ⟨#[]⟩, .slice none 0 0, .string ⟨#[]⟩,
  .int .i64 13, .int .i64 1, .int .i64 2, .string ⟨#[]⟩, .slice none 0 0, .string ⟨#[]⟩,
  .int .i64 27, .int .i64 1, .int .i64 2, .string ⟨#[]⟩, .slice none 0 0, .string ⟨#[]⟩,
  .int .i64 127, .int .i64 1, .int .i64 2, .string ⟨#[]⟩, .slice none 0 0, .string ⟨#[]⟩,
  .int .i64 57348, .int .i64 2, .int .i64 4, .string ⟨#[]⟩, .slice (some ⟨g, 0, none⟩) 2 2, .string ⟨#[]⟩,
  .int .i64 57350, .int .i64 4, .int .i64 3, .string ⟨#[68, 67, 65, 66]⟩, .slice none 0 0, .string ⟨#[]⟩,
  .int .i64 57354, .int .i64 2, .int .i64 4, .string ⟨#[]⟩, .slice (some ⟨g + 1, 0, none⟩) 2 2, .string ⟨#[]⟩,
  .int .i64 57356, .int .i64 2, .int .i64 3, .string ⟨#[72, 70]⟩, .slice none 0 0, .string ⟨#[]⟩,
  .int .i64 57358, .int .i64 5, .int .i64 6, .string ⟨#[]⟩, .slice none 0 0, .string ⟨#[]⟩,
  .int .i64 57363, .int .i64 1, .int .i64 4, .string ⟨#[]⟩, .slice (some ⟨g + 1 + 1, 0, none⟩) 1 1, .string ⟨#[]⟩,
  .int .i64 57364, .int .i64 4, .int .i64 3, .string ⟨#[80, 81, 82, 83]⟩, .slice none 0 0, .string ⟨#[]⟩,
  .int .i64 57368, .int .i64 8, .int .i64 4, .string ⟨#[]⟩, .slice (some ⟨g + 1 + 1 + 1, 0, none⟩) 8 8, .string ⟨#[]⟩,
  .int .i64 57376, .int .i64 23, .int .i64 6, .string ⟨#[]⟩, .slice none 0 0, .string ⟨#[]⟩,
  .int .i64 57399, .int .i64 18, .int .i64 5, .string ⟨#[112, 113, 114, 115, 116, 117, 118, 119, 120, 121, 110, 111, 106, 109, 107, 77, 88, 108]⟩, .slice none 0 0, .string ⟨#[48, 49, 50, 51, 52, 53, 54, 55, 56, 57, 46, 47, 42, 45, 43, 13, 61, 44]⟩,
  .int .i64 57417, .int .i64 4, .int .i64 3, .string ⟨#[68, 67, 65, 66]⟩, .slice none 0 0, .string ⟨#[]⟩,
  .int .i64 57421, .int .i64 2, .int .i64 4, .string ⟨#[]⟩, .slice (some ⟨g + 1 + 1 + 1 + 1, 0, none⟩) 2 2, .string ⟨#[]⟩,
  .int .i64 57423, .int .i64 2, .int .i64 3, .string ⟨#[72, 70]⟩, .slice none 0 0, .string ⟨#[]⟩,
  .int .i64 57425, .int .i64 2, .int .i64 4, .string ⟨#[]⟩, .slice (some ⟨g + 1 + 1 + 1 + 1 + 1, 0, none⟩) 2 2, .string ⟨#[]⟩,
  .int .i64 57427, .int .i64 1, .int .i64 3, .string ⟨#[69]⟩, .slice none 0 0, .string ⟨#[]⟩,
  .int .i64 57428, .int .i64 13, .int .i64 6, .string ⟨#[]⟩, .slice none 0 0, .string ⟨#[]⟩,
  .int .i64 57441, .int .i64 14, .int .i64 7, .string ⟨#[]⟩, .slice none 0 0, .string ⟨#[]⟩]

theorem rowsAt {w : World} {b g : Nat} {t t' : TypeId} (hb : w.heap[b]? = some (.cells (rowsCells g) t (0, 0)))
    (h0 : w.heap[g]? = some (.cells #[.int .i64 2, .int .i64 3] t' (0, 0)))
    (h1 : w.heap[g + 1]? = some (.cells #[.int .i64 5, .int .i64 6] t' (0, 0)))
    (h2 : w.heap[g + 1 + 1]? = some (.cells #[.int .i64 29] t' (0, 0)))
    (h3 : w.heap[g + 1 + 1 + 1]? = some (.cells #[.int .i64 15, .int .i64 17, .int .i64 18, .int .i64 19, .int .i64 20, .int .i64 21, .int .i64 23, .int .i64 24] t' (0, 0)))
    (h4 : w.heap[g + 1 + 1 + 1 + 1]? = some (.cells #[.int .i64 5, .int .i64 6] t' (0, 0)))
    (h5 : w.heap[g + 1 + 1 + 1 + 1 + 1]? = some (.cells #[.int .i64 2, .int .i64 3] t' (0, 0)))
    (i : Nat) (r : RowD) (hr : rowsD[i]? = some r) : RowAt w b i r := by
  have hc := cell_of_heap hb
  have k0 := cell_of_heap h0
  have k1 := cell_of_heap h1
  have k2 := cell_of_heap h2
  have k3 := cell_of_heap h3
  have k4 := cell_of_heap h4
  have k5 := cell_of_heap h5
  match i with
  | 0 => obtain rfl := Option.some.inj hr; exact ⟨_, hc _, hc _, hc _, hc _, hc _, hc _, .inl ⟨rfl, rfl⟩⟩
  | 1 => obtain rfl := Option.some.inj hr; exact ⟨_, hc _, hc _, hc _, hc _, hc _, hc _, .inl ⟨rfl, rfl⟩⟩
  | 2 => obtain rfl := Option.some.inj hr; exact ⟨_, hc _, hc _, hc _, hc _, hc _, hc _, .inl ⟨rfl, rfl⟩⟩
  | 3 => obtain rfl := Option.some.inj hr; exact ⟨_, hc _, hc _, hc _, hc _, hc _, hc _, .inl ⟨rfl, rfl⟩⟩
  | 4 =>
    obtain rfl := Option.some.inj hr
    refine ⟨_, hc _, hc _, hc _, hc _, hc _, hc _,   .inr ⟨List.cons_ne_nil _ _, _, rfl, fun j x hx => (k0 j).trans ?_⟩⟩
    match j, hx with
    | 0, hx => obtain rfl := Option.some.inj hx; rfl
    | 1, hx => obtain rfl := Option.some.inj hx; rfl
    | _ + 2, hx => cases hx
  | 5 => obtain rfl := Option.some.inj hr; exact ⟨_, hc _, hc _, hc _, hc _, hc _, hc _, .inl ⟨rfl, rfl⟩⟩
  | 6 =>
    obtain rfl := Option.some.inj hr
    refine ⟨_, hc _, hc _, hc _, hc _, hc _, hc _,   .inr ⟨List.cons_ne_nil _ _, _, rfl, fun j x hx => (k1 j).trans ?_⟩⟩
    match j, hx with
    | 0, hx => obtain rfl := Option.some.inj hx; rfl
    | 1, hx => obtain rfl := Option.some.inj hx; rfl
    | _ + 2, hx => cases hx
  | 7 => obtain rfl := Option.some.inj hr; exact ⟨_, hc _, hc _, hc _, hc _, hc _, hc _, .inl ⟨rfl, rfl⟩⟩
  | 8 => obtain rfl := Option.some.inj hr; exact ⟨_, hc _, hc _, hc _, hc _, hc _, hc _, .inl ⟨rfl, rfl⟩⟩
  | 9 =>
    obtain rfl := Option.some.inj hr
    refine ⟨_, hc _, hc _, hc _, hc _, hc _, hc _,   .inr ⟨List.cons_ne_nil _ _, _, rfl, fun j x hx => (k2 j).trans ?_⟩⟩
    match j, hx with
    | 0, hx => obtain rfl := Option.some.inj hx; rfl
    | _ + 1, hx => cases hx
  | 10 => obtain rfl := Option.some.inj hr; exact ⟨_, hc _, hc _, hc _, hc _, hc _, hc _, .inl ⟨rfl, rfl⟩⟩
  | 11 =>
    obtain rfl := Option.some.inj hr
    refine ⟨_, hc _, hc _, hc _, hc _, hc _, hc _,   .inr ⟨List.cons_ne_nil _ _, _, rfl, fun j x hx => (k3 j).trans ?_⟩⟩
    match j, hx with
    | 0, hx => obtain rfl := Option.some.inj hx; rfl
    | 1, hx => obtain rfl := Option.some.inj hx; rfl
    | 2, hx => obtain rfl := Option.some.inj hx; rfl
    | 3, hx => obtain rfl := Option.some.inj hx; rfl
    | 4, hx => obtain rfl := Option.some.inj hx; rfl
    | 5, hx => obtain rfl := Option.some.inj hx; rfl
    | 6, hx => obtain rfl := Option.some.inj hx; rfl
    | 7, hx => obtain rfl := Option.some.inj hx; rfl
    | _ + 8, hx => cases hx
  | 12 => obtain rfl := Option.some.inj hr; exact ⟨_, hc _, hc _, hc _, hc _, hc _, hc _, .inl ⟨rfl, rfl⟩⟩
  | 13 => obtain rfl := Option.some.inj hr; exact ⟨_, hc _, hc _, hc _, hc _, hc _, hc _, .inl ⟨rfl, rfl⟩⟩
  | 14 => obtain rfl := Option.some.inj hr; exact ⟨_, hc _, hc _, hc _, hc _, hc _, hc _, .inl ⟨rfl, rfl⟩⟩
  | 15 =>
    obtain rfl := Option.some.inj hr
    refine ⟨_, hc _, hc _, hc _, hc _, hc _, hc _,   .inr ⟨List.cons_ne_nil _ _, _, rfl, fun j x hx => (k4 j).trans ?_⟩⟩
    match j, hx with
    | 0, hx => obtain rfl := Option.some.inj hx; rfl
    | 1, hx => obtain rfl := Option.some.inj hx; rfl
    | _ + 2, hx => cases hx
  | 16 => obtain rfl := Option.some.inj hr; exact ⟨_, hc _, hc _, hc _, hc _, hc _, hc _, .inl ⟨rfl, rfl⟩⟩
  | 17 =>
    obtain rfl := Option.some.inj hr
    refine ⟨_, hc _, hc _, hc _, hc _, hc _, hc _,   .inr ⟨List.cons_ne_nil _ _, _, rfl, fun j x hx => (k5 j).trans ?_⟩⟩
    match j, hx with
    | 0, hx => obtain rfl := Option.some.inj hx; rfl
    | 1, hx => obtain rfl := Option.some.inj hx; rfl
    | _ + 2, hx => cases hx
  | 18 => obtain rfl := Option.some.inj hr; exact ⟨_, hc _, hc _, hc _, hc _, hc _, hc _, .inl ⟨rfl, rfl⟩⟩
  | 19 => obtain rfl := Option.some.inj hr; exact ⟨_, hc _, hc _, hc _, hc _, hc _, hc _, .inl ⟨rfl, rfl⟩⟩
  | 20 => obtain rfl := Option.some.inj hr; exact ⟨_, hc _, hc _, hc _, hc _, hc _, hc _, .inl ⟨rfl, rfl⟩⟩
  | _ + 21 => cases hr

end Go.Proofs.YtieppcjpbjefkaaDoor

/- Contracts of package keys: an entry of a row. -/
namespace Go.Proofs.YtieppcjpbjefkaaDoor
open Go.RowKit Go.Proofs

def onPad (frm kind : Int) : Bool := decide (57399 ≤ frm) && (!(kind == 6) && !(kind == 7))
def EntryIs (w : World) (kind final num char : Int) (pad : Bool) (e : Ending) (w' : World) : Prop :=
  e = .returned (.agg #[.int .i64 kind, .int .u8 final, .int .i64 num, .int .i64 char, .bool pad]) ∧ Below w.heap.size w w'

section
variable (frm many kind : Int) (i : Nat) (w : World)
set_option maxRecDepth 100000
set_option maxHeartbeats 1000000

theorem entry_none : Calls Tryd.prog 89 #[.agg #[.int .i64 frm, .int .i64 many, .int .i64 kind, .string ⟨#[]⟩, .slice none 0 0, .string ⟨#[]⟩], .int .i64 i] w (EntryIs w kind 0 0 0 (onPad frm kind)) := by
  have hq := fun (w : World) (a : Option Addr) (n c n2 c2 : Nat) => run_neq_slice_nil_any (P := Tryd.prog) w 57 _ a n c n2 c2 Tryd.underlying57
  go_enter Tryd.func89, Tryd.ntmps89
  go_wp2
  all_goals go_returns
  all_goals refine ⟨?_, by go_grown⟩
  all_goals clear hq
  all_goals simp_all [onPad]
  all_goals grind
theorem entry_finals (fs : ByteArray) (hi : i < fs.size) (hne : fs.toList.isEmpty = false) : Calls Tryd.prog 89 #[.agg #[.int .i64 frm, .int .i64 many, .int .i64 kind, .string fs, .slice none 0 0, .string ⟨#[]⟩], .int .i64 i] w (EntryIs w kind (fs[i].toNat) 0 0 (onPad frm kind)) := by
  have hq := fun (w : World) (a : Option Addr) (n c n2 c2 : Nat) => run_neq_slice_nil_any (P := Tryd.prog) w 57 _ a n c n2 c2 Tryd.underlying57
  go_enter Tryd.func89, Tryd.ntmps89
  go_wp2
  all_goals go_returns
  all_goals refine ⟨?_, by go_grown⟩
  all_goals clear hq
  all_goals simp_all [onPad]
  all_goals grind
theorem entry_chars (fs cs : ByteArray) (hi : i < fs.size) (hne : fs.toList.isEmpty = false) (hj : i < cs.size) (hnc : cs.toList.isEmpty = false) : Calls Tryd.prog 89 #[.agg #[.int .i64 frm, .int .i64 many, .int .i64 kind, .string fs, .slice none 0 0, .string cs], .int .i64 i] w (EntryIs w kind (fs[i].toNat) 0 (cs[i].toNat) (onPad frm kind)) := by
  have hq := fun (w : World) (a : Option Addr) (n c n2 c2 : Nat) => run_neq_slice_nil_any (P := Tryd.prog) w 57 _ a n c n2 c2 Tryd.underlying57
  go_enter Tryd.func89, Tryd.ntmps89
  go_wp2
  all_goals go_returns
  all_goals refine ⟨?_, by go_grown⟩
  all_goals clear hq
  all_goals simp_all [onPad]
  all_goals grind
theorem entry_nums (g n c : Nat) (x : Int) (hi : i < n) (hc : w.cell? ⟨g, i, none⟩ = some (.int .i64 x)) : Calls Tryd.prog 89 #[.agg #[.int .i64 frm, .int .i64 many, .int .i64 kind, .string ⟨#[]⟩, .slice (some ⟨g, 0, none⟩) n c, .string ⟨#[]⟩], .int .i64 i] w (EntryIs w kind 0 x 0 (onPad frm kind)) := by
  have hg : g < w.heap.size := World.block_lt_of_cell? _ _ hc
  have hq := fun (w : World) (a : Option Addr) (n c n2 c2 : Nat) => run_neq_slice_nil_any (P := Tryd.prog) w 57 _ a n c n2 c2 Tryd.underlying57
  go_enter Tryd.func89, Tryd.ntmps89
  go_wp2
  all_goals go_returns
  all_goals refine ⟨?_, by go_grown⟩
  all_goals clear hq
  all_goals simp_all [onPad]
  all_goals grind
end
end Go.Proofs.YtieppcjpbjefkaaDoor

/- Contracts of package keys: the table is laid. -/
namespace Go.Proofs.YtieppcjpbjefkaaDoor
open Go.RowKit Go.Proofs

def RowsPost (w : World) (e : Ending) (w' : World) : Prop := ∃ b, e = .returned (.slice (some ⟨b, 0, none⟩) 21 21) ∧ (∀ i r, rowsD[i]? = some r → RowAt w' b i r) ∧ w.heap.size ≤ b ∧ Below w.heap.size w w'

set_option maxRecDepth 100000 in
theorem run_rows (g0 g1 g2 g3 g4 g5 : Nat) (w : World) : (Instr.buildSlice 112 21 #[(0, .agg #[.int .i64 9, .int .i64 1, .int .i64 2, .string ⟨#[]⟩, .slice none 0 0, .string ⟨#[]⟩]), (1, .agg #[.int .i64 13, .int .i64 1, .int .i64 2, .string ⟨#[]⟩, .slice none 0 0, .string ⟨#[]⟩]), (2, .agg #[.int .i64 27, .int .i64 1, .int .i64 2, .string ⟨#[]⟩, .slice none 0 0, .string ⟨#[]⟩]), (3, .agg #[.int .i64 127, .int .i64 1, .int .i64 2, .string ⟨#[]⟩, .slice none 0 0, .string ⟨#[]⟩]), (4, .agg #[.int .i64 57348, .int .i64 2, .int .i64 4, .string ⟨#[]⟩, .slice (some ⟨g0, 0, none⟩) 2 2, .string ⟨#[]⟩]), (5, .agg #[.int .i64 57350, .int .i64 4, .int .i64 3, .string ⟨#[68, 67, 65, 66]⟩, .slice none 0 0, .string ⟨#[]⟩]), (6, .agg #[.int .i64 57354, .int .i64 2, .int .i64 4, .string ⟨#[]⟩, .slice (some ⟨g1, 0, none⟩) 2 2, .string ⟨#[]⟩]), (7, .agg #[.int .i64 57356, .int .i64 2, .int .i64 3, .string ⟨#[72, 70]⟩, .slice none 0 0, .string ⟨#[]⟩]), (8, .agg #[.int .i64 57358, .int .i64 5, .int .i64 6, .string ⟨#[]⟩, .slice none 0 0, .string ⟨#[]⟩]), (9, .agg #[.int .i64 57363, .int .i64 1, .int .i64 4, .string ⟨#[]⟩, .slice (some ⟨g2, 0, none⟩) 1 1, .string ⟨#[]⟩]), (10, .agg #[.int .i64 57364, .int .i64 4, .int .i64 3, .string ⟨#[80, 81, 82, 83]⟩, .slice none 0 0, .string ⟨#[]⟩]), (11, .agg #[.int .i64 57368, .int .i64 8, .int .i64 4, .string ⟨#[]⟩, .slice (some ⟨g3, 0, none⟩) 8 8, .string ⟨#[]⟩]), (12, .agg #[.int .i64 57376, .int .i64 23, .int .i64 6, .string ⟨#[]⟩, .slice none 0 0, .string ⟨#[]⟩]), (13, .agg #[.int .i64 57399, .int .i64 18, .int .i64 5, .string ⟨#[112, 113, 114, 115, 116, 117, 118, 119, 120, 121, 110, 111, 106, 109, 107, 77, 88, 108]⟩, .slice none 0 0, .string ⟨#[48, 49, 50, 51, 52, 53, 54, 55, 56, 57, 46, 47, 42, 45, 43, 13, 61, 44]⟩]), (14, .agg #[.int .i64 57417, .int .i64 4, .int .i64 3, .string ⟨#[68, 67, 65, 66]⟩, .slice none 0 0, .string ⟨#[]⟩]), (15, .agg #[.int .i64 57421, .int .i64 2, .int .i64 4, .string ⟨#[]⟩, .slice (some ⟨g4, 0, none⟩) 2 2, .string ⟨#[]⟩]), (16, .agg #[.int .i64 57423, .int .i64 2, .int .i64 3, .string ⟨#[72, 70]⟩, .slice none 0 0, .string ⟨#[]⟩]), (17, .agg #[.int .i64 57425, .int .i64 2, .int .i64 4, .string ⟨#[]⟩, .slice (some ⟨g5, 0, none⟩) 2 2, .string ⟨#[]⟩]), (18, .agg #[.int .i64 57427, .int .i64 1, .int .i64 3, .string ⟨#[69]⟩, .slice none 0 0, .string ⟨#[]⟩]), (19, .agg #[.int .i64 57428, .int .i64 13, .int .i64 6, .string ⟨#[]⟩, .slice none 0 0, .string ⟨#[]⟩]), (20, .agg #[.int .i64 57441, .int .i64 14, .int .i64 7, .string ⟨#[]⟩, .slice none 0 0, .string ⟨#[]⟩])]).run Tryd.prog w =
    .ok (.slice (some ⟨w.heap.size, 0, none⟩) 21 21) (w.alloc (.cells #[.int .i64 9, .int .i64 1, .int .i64 2, .string ⟨#[]⟩, .slice none 0 0, .string ⟨#[]⟩, .int .i64 13, .int .i64 1, .int .i64 2, .string ⟨#[]⟩, .slice none 0 0, .string ⟨#[]⟩, .int .i64 27, .int .i64 1, .int .i64 2, .string ⟨#[]⟩, .slice none 0 0, .string ⟨#[]⟩, .int .i64 127, .int .i64 1, .int .i64 2, .string ⟨#[]⟩, .slice none 0 0, .string ⟨#[]⟩, .int .i64 57348, .int .i64 2, .int .i64 4, .string ⟨#[]⟩, .slice (some ⟨g0, 0, none⟩) 2 2, .string ⟨#[]⟩, .int .i64 57350, .int .i64 4, .int .i64 3, .string ⟨#[68, 67, 65, 66]⟩, .slice none 0 0, .string ⟨#[]⟩, .int .i64 57354, .int .i64 2, .int .i64 4, .string ⟨#[]⟩, .slice (some ⟨g1, 0, none⟩) 2 2, .string ⟨#[]⟩, .int .i64 57356, .int .i64 2, .int .i64 3, .string ⟨#[72, 70]⟩, .slice none 0 0, .string ⟨#[]⟩, .int .i64 57358, .int .i64 5, .int .i64 6, .string ⟨#[]⟩, .slice none 0 0, .string ⟨#[]⟩, .int .i64 57363, .int .i64 1, .int .i64 4, .string ⟨#[]⟩, .slice (some ⟨g2, 0, none⟩) 1 1, .string ⟨#[]⟩, .int .i64 57364, .int .i64 4, .int .i64 3, .string ⟨#[80, 81, 82, 83]⟩, .slice none 0 0, .string ⟨#[]⟩, .int .i64 57368, .int .i64 8, .int .i64 4, .string ⟨#[]⟩, .slice (some ⟨g3, 0, none⟩) 8 8, .string ⟨#[]⟩, .int .i64 57376, .int .i64 23, .int .i64 6, .string ⟨#[]⟩, .slice none 0 0, .string ⟨#[]⟩, .int .i64 57399, .int .i64 18, .int .i64 5, .string ⟨#[112, 113, 114, 115, 116, 117, 118, 119, 120, 121, 110, 111, 106, 109, 107, 77, 88, 108]⟩, .slice none 0 0, .string ⟨#[48, 49, 50, 51, 52, 53, 54, 55, 56, 57, 46, 47, 42, 45, 43, 13, 61, 44]⟩, .int .i64 57417, .int .i64 4, .int .i64 3, .string ⟨#[68, 67, 65, 66]⟩, .slice none 0 0, .string ⟨#[]⟩, .int .i64 57421, .int .i64 2, .int .i64 4, .string ⟨#[]⟩, .slice (some ⟨g4, 0, none⟩) 2 2, .string ⟨#[]⟩, .int .i64 57423, .int .i64 2, .int .i64 3, .string ⟨#[72, 70]⟩, .slice none 0 0, .string ⟨#[]⟩, .int .i64 57425, .int .i64 2, .int .i64 4, .string ⟨#[]⟩, .slice (some ⟨g5, 0, none⟩) 2 2, .string ⟨#[]⟩, .int .i64 57427, .int .i64 1, .int .i64 3, .string ⟨#[69]⟩, .slice none 0 0, .string ⟨#[]⟩, .int .i64 57428, .int .i64 13, .int .i64 6, .string ⟨#[]⟩, .slice none 0 0, .string ⟨#[]⟩, .int .i64 57441, .int .i64 14, .int .i64 7, .string ⟨#[]⟩, .slice none 0 0, .string ⟨#[]⟩] 115)) := by kernel_rfl

set_option maxRecDepth 100000 in
set_option maxHeartbeats 2000000 in
theorem keys_rows (w : World) : Calls Tryd.prog 88 #[] w (RowsPost w) := by
  have hbs := run_rows
  go_enter Tryd.func88, Tryd.ntmps88
  go_wp2
  clear hbs
  refine bodyPost_ret (results_tmp rfl _ _ _) rfl ?_
  refine ⟨_, rfl, ?_, ?_, ?_⟩
  · refine rowsAt (g := w.heap.size) (t := 115) (t' := 3) ?_ ?_ ?_ ?_ ?_ ?_ ?_
    all_goals repeat (first | (refine heap_at _ _ _ ?_; first | rfl | (simp only [World.size_alloc]; done)) | (refine (heap_past _ _ _ ?_).trans ?_; (simp only [World.size_alloc]; omega)))
  · omega
  · go_grown
end Go.Proofs.YtieppcjpbjefkaaDoor

/- Contracts of package keys: the iterator over the table. -/
namespace Go.Proofs.YtieppcjpbjefkaaDoor
open Go.RowKit Go.Proofs

/-- what a key is -/
structure EntryD where
  kind : Int
  final : Int
  num : Int
  char : Int
  pad : Bool
deriving DecidableEq
def sget (s : ByteArray) (i : Nat) : Int := (s.data.toList.map fun c => (c.toNat : Int)).getD i 0
def entryD (r : RowD) (i : Nat) : EntryD := ⟨r.kind, sget r.finals i, r.nums.getD i 0, sget r.chars i, onPad r.frm r.kind⟩
def pairsOf (r : RowD) : List (Int × EntryD) := (List.range r.many).map fun (i : Nat) => (r.frm + (i : Int), entryD r i)
def pairsD : List (Int × EntryD) := rowsD.flatMap pairsOf
def EntryIsD (w : World) (x : EntryD) (e : Ending) (w' : World) : Prop := EntryIs w x.kind x.final x.num x.char x.pad e w'

/-- the shapes of rows -/
def krowOk (r : RowD) : Bool :=
  (r.finals.size == 0 && r.chars.size == 0 && r.nums.length == 0) || (r.many ≤ r.finals.size && r.chars.size == 0 && r.nums.length == 0) ||
  (r.many ≤ r.finals.size && r.many ≤ r.chars.size && r.nums.length == 0) || (r.finals.size == 0 && r.chars.size == 0 && r.many ≤ r.nums.length)
theorem rows_ok : ∀ r ∈ rowsD, krowOk r = true ∧ 0 ≤ r.frm ∧ r.frm ≤ 100000 ∧ 0 ≤ r.kind ∧ r.kind ≤ 100 ∧ 0 < r.many ∧ r.many ≤ 100 := by decide +kernel

theorem sget_get (s : ByteArray) (i : Nat) (h : i < s.size) : sget s i = (s[i].toNat : Int) := by
  have h' : i < s.data.toList.length := by simpa using h
  unfold sget
  rw [List.getD_eq_getElem?_getD, List.getElem?_map, List.getElem?_eq_getElem h']
  rfl
theorem sget_zero (s : ByteArray) (i : Nat) (h : s.size = 0) : sget s i = 0 := by
  have h' : s.data.toList.length = 0 := by simpa using h
  unfold sget
  rw [List.eq_nil_of_length_eq_zero h']
  rfl
theorem empty_of (s : ByteArray) (h : s.size = 0) : s = ⟨#[]⟩ := by
  cases s with | mk d => congr; exact Array.eq_empty_of_size_eq_zero h
theorem notEmpty_of (s : ByteArray) (h : 0 < s.size) : s.toList.isEmpty = false := by
  rw [ByteArray.toList_eq]
  have : s.data.toList.length = s.size := by simp
  cases hh : s.data.toList with
  | nil => rw [hh] at this; simp at this; omega
  | cons a b => rfl

theorem entry_row (r : RowD) (hr : r ∈ rowsD) (A : Option Addr) (i : Nat) (hi : i < r.many) (w : World)
    (hA : (r.nums = [] ∧ A = none) ∨ r.nums ≠ [] ∧ ∃ g, A = some ⟨g, 0, none⟩ ∧ ∀ j x, r.nums[j]? = some x → w.cell? ⟨g, j, none⟩ = some (.int .i64 x)) :
    Calls Tryd.prog 89 #[.agg #[.int .i64 r.frm, .int .i64 r.many, .int .i64 r.kind, .string r.finals, .slice A r.nums.length r.nums.length, .string r.chars], .int .i64 i] w (EntryIsD w (entryD r i)) := by
  obtain ⟨hok, h0, h1, h2, h3, h4, h5⟩ := rows_ok r hr
  obtain ⟨frm, many, kind, finals, nms, chars⟩ := r
  simp only at hi hA h0 h1 h2 h3 h4 h5
  simp only [krowOk, Bool.or_eq_true, Bool.and_eq_true, beq_iff_eq, decide_eq_true_eq] at hok
  unfold EntryIsD entryD
  simp only
  rcases hok with ((⟨⟨hf, hc⟩, hn⟩ | ⟨⟨hf, hc⟩, hn⟩) | ⟨⟨hf, hc⟩, hn⟩) | ⟨⟨hf, hc⟩, hn⟩
  · obtain rfl := List.eq_nil_of_length_eq_zero hn
    obtain rfl : A = none := by rcases hA with h | ⟨h, _⟩; exact h.2; exact absurd rfl h
    rw [sget_zero _ _ hf, sget_zero _ _ hc, empty_of _ hf, empty_of _ hc]
    exact entry_none frm many kind i w
  · obtain rfl := List.eq_nil_of_length_eq_zero hn
    obtain rfl : A = none := by rcases hA with h | ⟨h, _⟩; exact h.2; exact absurd rfl h
    rw [sget_get _ _ (by omega : i < finals.size), sget_zero _ _ hc, empty_of _ hc]
    exact entry_finals frm many kind i w finals (by omega) (notEmpty_of _ (by omega))
  · obtain rfl := List.eq_nil_of_length_eq_zero hn
    obtain rfl : A = none := by rcases hA with h | ⟨h, _⟩; exact h.2; exact absurd rfl h
    rw [sget_get _ _ (by omega : i < finals.size), sget_get _ _ (by omega : i < chars.size)]
    exact entry_chars frm many kind i w finals chars (by omega) (notEmpty_of _ (by omega)) (by omega) (notEmpty_of _ (by omega))
  · rcases hA with ⟨h, _⟩ | ⟨_, g, rfl, hg⟩
    · subst h; simp at hn; omega
    · have hil : i < nms.length := by omega
      rw [sget_zero _ _ hf, sget_zero _ _ hc, empty_of _ hf, empty_of _ hc]
      exact entry_nums frm many kind i w g nms.length nms.length _ hil (hg i _ (by rw [List.getD_eq_getElem?_getD, List.getElem?_eq_getElem hil]; rfl))
theorem pairsOf_length (r : RowD) : (pairsOf r).length = r.many := by simp [pairsOf]
theorem pairsOf_take (r : RowD) (j : Nat) (h : j < r.many) : (pairsOf r).take (j + 1) = (pairsOf r).take j ++ [(r.frm + (j : Int), entryD r j)] := by
  rw [List.take_succ_eq_append_getElem (by rw [pairsOf_length]; exact h)]
  congr 1
  simp [pairsOf]
theorem pairs_next (k : Nat) (r : RowD) (h : rowsD[k]? = some r) : (rowsD.take (k + 1)).flatMap pairsOf = (rowsD.take k).flatMap pairsOf ++ pairsOf r := by
  obtain ⟨hk, rfl⟩ := List.getElem?_eq_some_iff.1 h
  rw [List.take_succ_eq_append_getElem hk, List.flatMap_append]
  simp
theorem pairs_prefix (k j : Nat) (r : RowD) (h : rowsD[k]? = some r) : (rowsD.take k).flatMap pairsOf ++ (pairsOf r).take j <+: pairsD := by
  obtain ⟨hk, rfl⟩ := List.getElem?_eq_some_iff.1 h
  have e : pairsD = (rowsD.take k).flatMap pairsOf ++ (pairsOf rowsD[k] ++ (rowsD.drop (k + 1)).flatMap pairsOf) := by
    unfold pairsD
    conv => lhs; rw [← List.take_append_drop k rowsD, List.flatMap_append, List.drop_eq_getElem_cons hk, List.flatMap_cons]
  rw [e]
  refine (List.prefix_append_right_inj _).2 ?_
  exact (List.take_prefix _ _).trans (List.prefix_append _ _)
theorem RowAt.kept {w w' : World} {b i : Nat} {r : RowD} (h : RowAt w b i r) (hk : ∀ a v, w.cell? a = some v → w'.cell? a = some v) : RowAt w' b i r := by
  obtain ⟨A, c0, c1, c2, c3, c4, c5, hA⟩ := h
  refine ⟨A, hk _ _ c0, hk _ _ c1, hk _ _ c2, hk _ _ c3, hk _ _ c4, hk _ _ c5, hA.imp id ?_⟩
  rintro ⟨hn, g, rfl, hg⟩
  exact ⟨hn, g, rfl, fun j x hx => hk _ _ (hg j x hx)⟩

end Go.Proofs.YtieppcjpbjefkaaDoor

/- Contracts of package keys: the iterator over the table. -/
namespace Go.Proofs.YtieppcjpbjefkaaDoor
open Go.RowKit Go.Proofs Go.Shelf
attribute [local go_sem] Oper.semAt_some

def encsE (x : Int × EntryD) : Array Value := #[.int .i64 x.1, .agg #[.int .i64 x.2.kind, .int .u8 x.2.final, .int .i64 x.2.num, .int .i64 x.2.char, .bool x.2.pad]]
def cellsKept (A B : World) : Prop := ∀ a v, A.cell? a = some v → B.cell? a = some v
def Out (pre : List (Int × EntryD)) (J Jx : List (Int × EntryD) → World → Prop) (W1 : World) (bb : Bool) (W' : World) : Prop :=
  (bb = true ∧ J pre W' ∧ cellsKept W1 W') ∨ (bb = false ∧ Jx pre W')
def ItPost (J Jx : List (Int × EntryD) → World → Prop) (e : Ending) (W' : World) : Prop := (∃ v, e = .returned v) ∧ ((∃ xs, xs = pairsD ∧ J xs W') ∨ (∃ pre, pre <+: pairsD ∧ Jx pre W'))

set_option maxRecDepth 100000 in
set_option maxHeartbeats 2000000 in
theorem keys_all1 (n : Nat) (hn : 1 ≤ n) (l : Nat) (J Jx : List (Int × EntryD) → World → Prop) (W : World) (hJ : CalmIt none J)
    (hY : ∀ pre x W1, J pre W1 → YieldAt Fence.wide (n - 1) Tryd.prog l (encsE x) W1 fun e W' =>
      (e = .returned (.bool true) ∧ J (pre ++ [x]) W' ∧ cellsKept W1 W') ∨ (e = .returned (.bool false) ∧ Jx (pre ++ [x]) W')) (h0 : J [] W) :
    CallsIn Fence.wide n Tryd.prog 87 #[.func (.yield l) #[] #[]] W (ItPost J Jx) := by
  refine callsIn_of_wp Tryd.func87 rfl trivial ?_ rfl
  simp only [Tryd.ntmps87, List.size_toArray, List.length_cons, List.length_nil, Nat.reduceAdd, Nat.reduceSub, Array.replicate_succ, Array.replicate_zero, List.push_toArray, List.append_toArray, List.nil_append, List.cons_append]
  gi_wp2_with (refine ⟨trivial, ?_⟩; gi_at_call 88; refine (callsIn_wide.2 (keys_rows _)).mono ?_; rintro e w1 ⟨b, rfl, hrows, hb, hbl⟩)
  have h1 : J [] w1 := hJ _ _ _ none h0 ⟨hbl.os, hbl.tape, hbl.output, hbl.size, fun i hi _ => hbl.block i hi⟩ (by simp)
  have HR := Lib.hid hrows
  clear hrows
  gi_loopw [7] (fun i wr => ∃ k : Nat, k ≤ 21 ∧ i = .int .i64 k ∧ J ((rowsD.take k).flatMap pairsOf) wr ∧ Hid (∀ (i : Nat) (r : RowD), rowsD[i]? = some r → RowAt wr b i r))
    (fun i _ => 21 - (intOf i).toNat)
  case atStart => exact ⟨0, by omega, rfl, h1, HR⟩
  case round =>
    obtain ⟨k, hk, rfl, hJs, hrs⟩ := hrel
    by_cases hlt : k < 21
    · have hdk : decide ((k : Int) < 21) = true := by simp; omega
      obtain ⟨r, hr⟩ : ∃ r, rowsD[k]? = some r := ⟨_, List.getElem?_eq_getElem (show k < rowsD.length from hlt)⟩
      obtain ⟨hok, r0, r1, r2, r3, r4, r5⟩ := rows_ok r (List.mem_of_getElem? hr)
      obtain ⟨A, c0, c1, c2, c3, c4, c5, hA⟩ := hrs.out k r hr
      have HR := Lib.hid hr
      clear hr
      gi_wp2
      obtain ⟨wo, rfl⟩ : ∃ wo : World, wo = wr := ⟨_, rfl⟩
      gi_loopw [13] (fun i wr => ∃ j : Nat, j ≤ r.many ∧ i = .int .i64 j ∧ J ((rowsD.take k).flatMap pairsOf ++ (pairsOf r).take j) wr ∧ Hid (∀ (i : Nat) (r : RowD), rowsD[i]? = some r → RowAt wr b i r) ∧
          wr.cell? ⟨wo.heap.size, 0, none⟩ = some (.int .i64 r.frm) ∧ wr.cell? ⟨wo.heap.size, 1, none⟩ = some (.int .i64 r.many) ∧ wr.cell? ⟨wo.heap.size, 2, none⟩ = some (.int .i64 r.kind) ∧
          wr.cell? ⟨wo.heap.size, 3, none⟩ = some (.string r.finals) ∧ wr.cell? ⟨wo.heap.size, 4, none⟩ = some (.slice A r.nums.length r.nums.length) ∧ wr.cell? ⟨wo.heap.size, 5, none⟩ = some (.string r.chars) ∧
          Hid ((r.nums = [] ∧ A = none) ∨ r.nums ≠ [] ∧ ∃ g, A = some ⟨g, 0, none⟩ ∧ ∀ j x, r.nums[j]? = some x → wr.cell? ⟨g, j, none⟩ = some (.int .i64 x)))
        (fun i _ => r.many - (intOf i).toNat)
      case atStart =>
        refine ⟨0, by omega, rfl, ?_, ?_, by simp, by simp, by simp, by simp, by simp, by simp, ?_⟩
        · simp only [List.take_zero, List.append_nil]
          exact hJ _ _ _ none hJs (World.grownBy_alloc _ _ _) (by simp)
        · exact Lib.hid fun i r h => (hrs.out i r h).kept fun a v hv => cell_old ((Below.refl _ _).alloc (Nat.le_refl _) _) hv
        · exact Lib.hid (hA.imp id fun ⟨hn, g, e, hg⟩ => ⟨hn, g, e, fun j x hx => cell_old ((Below.refl _ _).alloc (Nat.le_refl _) _) (hg j x hx)⟩)
      case round =>
        obtain ⟨j, hj, rfl, hJs, hrs, d0, d1, d2, d3, d4, d5, hA⟩ := hrel
        by_cases hjl : j < r.many
        · have hmx : Tryd.prog.follows .mixedOrders = true := by kernel_rfl
          have hw : IntKind.i64.wrap (r.frm + (j : Int)) = r.frm + (j : Int) := by rw [IntKind.wrap_i64]; omega
          have HA2 : Hid ((r.nums = [] ∧ A = none) ∨ r.nums ≠ [] ∧ ∃ g, A = some ⟨g, 0, none⟩ ∧ ∀ j x, r.nums[j]? = some x → wr.drew.cell? ⟨g, j, none⟩ = some (.int .i64 x)) := hA
          gi_wp2
          gi_region_with_o (first
            | (refine ⟨trivial, ?_⟩; gi_at_call 89; refine (callsIn_wide.2 (entry_row r (List.mem_of_getElem? HR.out) A j hjl _ HA2.out)).mono ?_; rintro e w2 ⟨rfl, hb2⟩
               obtain ⟨fn, tmps, assign, body, hy, hR⟩ := hY _ (r.frm + (j : Int), entryD r j) w2 (hJ _ _ _ none hJs ⟨hb2.os, hb2.tape, hb2.output, hb2.size, fun i hi _ => hb2.block i hi⟩ (by simp))
               simp only [encsE] at hy
               have e0 := cell_old hb2 d0
               have e1 := cell_old hb2 d1
               have e2 := cell_old hb2 d2
               have e3 := cell_old hb2 d3
               have e4 := cell_old hb2 d4
               have e5 := cell_old hb2 d5
               have hR2 := hR.mono (R' := fun e W' => ∃ bb, e = .returned (.bool bb) ∧ Out _ J Jx w2 bb W') (fun e W' h => by
                 rcases h with ⟨h1, h2, h3⟩ | ⟨h1, h2⟩
                 · exact ⟨true, h1, .inl ⟨rfl, h2, h3⟩⟩
                 · exact ⟨false, h1, .inr ⟨rfl, h2⟩⟩)
               clear hR)
            | (refine hR2.mono ?_; rintro e w3 ⟨bb, rfl, hout⟩))
          all_goals
            rcases hout with ⟨rfl, hJ3, hk3⟩ | ⟨rfl, hx3⟩
            · gi_wp2
              go_roundw
              case rel =>
                have kw : ∀ a v, wr.cell? a = some v → w3.cell? a = some v := fun a v h => hk3 a v (cell_old hb2 h)
                refine ⟨j + 1, hjl, by go_num, ?_, Lib.hid fun i r h => (hrs.out i r h).kept kw, kw _ _ d0, kw _ _ d1, kw _ _ d2, kw _ _ d3, kw _ _ d4, kw _ _ d5, Lib.hid (hA.out.imp id fun ⟨hn, g, e, hg⟩ => ⟨hn, g, e, fun j x hx => kw _ _ (hg j x hx)⟩)⟩
                rw [pairsOf_take r j hjl, ← List.append_assoc]
                exact hJ3
              case measure => simp [intOf]; omega
            · gi_wp2
              refine bodyPost_ret (results_none rfl _ _ _) rfl ?_
              refine ⟨⟨_, rfl⟩, .inr ⟨_, ?_, hx3⟩⟩
              rw [List.append_assoc, ← pairsOf_take r j hjl]
              exact pairs_prefix k (j + 1) r HR.out
        · obtain rfl : j = r.many := by omega
          gi_wp2
          go_roundw
          case rel =>
            refine ⟨k + 1, by omega, by go_num, ?_, hrs⟩
            rw [pairs_next k r HR.out]
            rwa [List.take_of_length_le (l := pairsOf r) (Nat.le_of_eq (pairsOf_length r))] at hJs
          case measure => simp [intOf]; omega
    · obtain rfl : k = 21 := by omega
      gi_wp2
      go_end0
      refine ⟨⟨_, rfl⟩, .inl ⟨_, ?_, hJs⟩⟩
      rfl
end Go.Proofs.YtieppcjpbjefkaaDoor

/- Contracts of package keys: Look. -/
namespace Go.Proofs.YtieppcjpbjefkaaDoor
open Go.RowKit Go.Proofs Go.Shelf
attribute [local go_sem] Oper.semAt_some

theorem cellsKept_trans {A B C : World} (h : cellsKept A B) (k : cellsKept B C) : cellsKept A C := fun a v hv => k a v (h a v hv)
theorem cellsKept_put (W : World) (l : Nat) (o o' : Obj) (h : W.heap[l]? = some o) (ho : o.isCells = false) : cellsKept W (W.putObj l o') := fun _ _ hv =>
  cell_kept hv (grownBy_putObj' W l o') (fun r e => by cases e; exact ⟨o, h, ho⟩)

theorem keys_seq (n : Nat) (hn : 1 ≤ n) (w : World) : SeqB Fence.wide n Tryd.prog 87 #[] encsE none cellsKept (fun xs => xs = pairsD) (fun pre => pre <+: pairsD) w :=
  fun l J Jx W _ hJ _ hY h0 => keys_all1 n hn l J Jx W hJ (fun pre x W1 h => hY pre x W1 trivial h) h0

def zeroE : EntryD := ⟨0, 0, 0, 0, false⟩
def lookD (code : Int) : EntryD :=
  match pairsD.find? (fun x => x.1 == code) with
  | some x => x.2
  | none => if code < 32 ∨ (127 ≤ code ∧ code ≤ 159) ∨ (57344 ≤ code ∧ code < 63744) ∨ putL code = [] then zeroE else ⟨1, 0, 0, 0, false⟩

theorem keys_all (w : World) : Calls Tryd.prog 43 #[] w fun e w' => e = .returned (.func (.func 87) #[] #[]) ∧ w = w' := by
  go_enter Tryd.func43, Tryd.ntmps43
  go_wp2
  go_ret
  exact ⟨rfl, rfl⟩

def entCells (x : EntryD) : Array Value := #[.int .i64 x.kind, .int .u8 x.final, .int .i64 x.num, .int .i64 x.char, .bool x.pad]
def LookI (code : Int) (w : World) (pre : List (Int × EntryD)) (W : World) : Prop :=
  (W.heap[w.heap.size]? = some (.cells #[.int .i64 code] 3 (0, 0)) ∧ W.heap[w.heap.size + 1]? = some (.cells (entCells zeroE) 29 (0, 0)) ∧ ∀ x ∈ pre, x.1 ≠ code) ∧ Below w.heap.size w W
def LookX (code : Int) (w : World) (c : Code) (pre : List (Int × EntryD)) (W : World) : Prop :=
  (c = .ret ∧ ∃ p x, pre = p ++ [x] ∧ x.1 = code ∧ (∀ y ∈ p, y.1 ≠ code) ∧ W.heap[w.heap.size + 1]? = some (.cells (entCells x.2) 29 (0, 0))) ∧ Below w.heap.size w W

theorem lookI_calm (code : Int) (w : World) (n₀ : Nat) (hn : w.heap.size ≤ n₀) : Calm none n₀ (LookI code w) :=
  ((calm_block (by simp)).and ((calm_block (cs := fun _ => _) (by simp)).and (calm_pure _))).and (calm_below (by simp) hn (Nat.le_refl _))
theorem lookX_calm (code : Int) (w : World) (n₀ : Nat) (hn : w.heap.size ≤ n₀) (c : Code) : Calm none n₀ (LookX code w c) :=
  Calm.and (fun s W W' row hs hg hr => by
    obtain ⟨h1, p, x, h2, h3, h4, h5⟩ := hs
    exact ⟨h1, p, x, h2, h3, h4, calm_block (B := none) (n₀ := n₀) (cs := fun _ : Unit => entCells x.2) (by simp) () W W' row h5 hg hr⟩) (calm_below (by simp) hn (Nat.le_refl _))

theorem look_fin (w W5 : World) (D : Nat) (x : EntryD) (tm : Array Value) (ht : tm[2]? = some (.pointer (some ⟨w.heap.size + 1, 0, none⟩))) (hD : w.heap.size + 2 ≤ D) (hK : W5.heap[D]? = some (.deferred (some [])))
    (hB : W5.heap[w.heap.size + 1]? = some (.cells (entCells x) 29 (0, 0))) (hb : Below w.heap.size w W5) :
    bodyPostM Fence.wide 6 Tryd.prog Tryd.f17 (EntryIsD w x) .ret { tmps := tm, defers := [{ target := .collected D, args := #[] }] } W5 := by
  refine ⟨by simp, .inl ⟨_, _, rfl, run_takeDeferred hK, ?_⟩⟩
  have hB6 : (W5.putObj D (.deferred none)).heap[w.heap.size + 1]? = some (.cells (entCells x) 29 (0, 0)) := (World.putObj_heap_other (by omega)).trans hB
  have r0 := cell_of_heap hB6 0
  have r1 := cell_of_heap hB6 1
  have r2 := cell_of_heap hB6 2
  have r3 := cell_of_heap hB6 3
  have r4 := cell_of_heap hB6 4
  simp only [entCells, List.getElem?_toArray, List.getElem?_cons_zero, List.getElem?_cons_succ] at r0 r1 r2 r3 r4
  refine ⟨.agg #[.int .i64 x.kind, .int .u8 x.final, .int .i64 x.num, .int .i64 x.char, .bool x.pad], ?_, rfl, hb.trans ?_⟩
  · simp [results, Tryd.results17, go_sem, ht, r0, r1, r2, r3, r4]
  · exact (Below.refl _ _).grown (grownBy_putObj' _ D _) hb.size (fun k e => by cases e; omega)

set_option maxRecDepth 100000 in
set_option maxHeartbeats 2000000 in
theorem keys_Look (code : Int) (w : World) : Calls Tryd.prog 17 #[.int .i64 code] w (EntryIsD w (lookD code)) := by
  refine (callsIn_wide (n := 6)).1 ?_
  refine callsIn_of_wp_marks Tryd.func17 rfl trivial ?_ rfl
  simp only [Tryd.ntmps17, List.size_toArray, List.length_cons, List.length_nil, Nat.reduceAdd, Nat.reduceSub, Array.replicate_succ, Array.replicate_zero, List.push_toArray, List.append_toArray, List.nil_append, List.cons_append]
  gi_wp2_with (refine ⟨trivial, ?_⟩; gi_at_call 43; refine (callsIn_wide.2 (keys_all _)).mono ?_; rintro e w1 ⟨rfl, rfl⟩)
  have hB0 : Below w.heap.size w ((w.alloc (.cells #[.int .i64 code] 3)).alloc (.cells #[.int .i64 0, .int .u8 0, .int .i64 0, .int .i64 0, .bool false] 29)) := by go_grown
  have hsz : w.heap.size ≤ ((w.alloc (.cells #[.int .i64 code] 3)).alloc (.cells #[.int .i64 0, .int .u8 0, .int .i64 0, .int .i64 0, .bool false] 29)).heap.size := by simp; omega
  refine range_outer rfl (by omega) (gf := 87) (lb := #[]) rfl trivial (enters_of Tryd.func87 (by kernel_rfl) rfl) (keys_seq 5 (by omega) _) (by simp) (fun h k => cellsKept_trans h k) (fun W l o o' _ h ho => cellsKept_put W l o o' h ho) (Below.refl _ _) (fun _ => rfl)
    (LookI code w) (LookX code w) (lookI_calm code w _ hsz) (lookX_calm code w _ hsz) ?start
    (fun x a' W => ∃ Bx, w.heap.size + 1 < Bx ∧ W.heap[Bx]? = some (.cells (entCells x.2) 29 (0, 0)) ∧ a' = { tmps := #[.int .i64 code, .pointer (some ⟨w.heap.size, 0, none⟩), .pointer (some ⟨w.heap.size + 1, 0, none⟩), .int .i64 x.1, .pointer (some ⟨Bx, 0, none⟩), undef, .func (.func 87) #[] #[], .int .i64 x.1, .agg #[.int .i64 x.2.kind, .int .u8 x.2.final, .int .i64 x.2.num, .int .i64 x.2.char, .bool x.2.pad],
        undef, undef, undef, undef, undef, undef, undef, undef, undef, undef, undef, undef, undef, undef, undef, undef, undef, undef, undef, undef, undef, undef, undef, undef, undef, undef, undef, undef, undef, undef, undef], defers := [] })
    ?ax ?assign ?body ?done ?stop
  case start => exact ⟨⟨(heap_past _ _ _ (by simp)).trans (heap_at _ _ _ rfl), heap_at _ _ _ (by simp), by simp⟩, hB0⟩
  case ax =>
    rintro x a' s W W' row ⟨Bx, h1, h2, h3⟩ hg hr
    exact ⟨Bx, h1, calm_block (B := none) (cs := fun _ : Unit => entCells x.2) (by simp) () W W' row h2 hg hr, h3⟩
  case assign =>
    rintro l pre x W K hi hK
    simp only [encsE]
    gi_wp2
    refine hK _ _ ?_ ?_ ?_ ⟨W.heap.size, ?_, ?_, rfl⟩
    · exact ((KeepsOthers.alloc _ _).from _)
    · exact fun a v hv => cell_old ((Below.refl _ _).alloc (Nat.le_refl _) _) hv
    · exact lookI_calm code w w.heap.size (Nat.le_refl _) _ _ _ none hi (World.grownBy_alloc _ _ _) (by simp)
    · have := (Array.getElem?_eq_some_iff.1 hi.1.2.1).1; omega
    · exact heap_at _ _ _ rfl
  case body =>
    rintro l pre x a' W _ hl hrec ⟨⟨hc, hr, hp⟩, hB⟩ ⟨Bx, hBx, bx, rfl⟩
    have k0 : W.cell? ⟨w.heap.size, 0, none⟩ = some (.int .i64 code) := cell_of_heap hc 0
    have b0 := cell_of_heap bx 0
    have b1 := cell_of_heap bx 1
    have b2 := cell_of_heap bx 2
    have b3 := cell_of_heap bx 3
    have b4 := cell_of_heap bx 4
    have r0 := cell_of_heap hr 0
    have r1 := cell_of_heap hr 1
    have r2 := cell_of_heap hr 2
    have r3 := cell_of_heap hr 3
    have r4 := cell_of_heap hr 4
    have f : ∀ i, W.frozen? ⟨w.heap.size + 1, i, none⟩ = false := fun i => by simp [World.frozen?, hr]
    simp only [entCells, List.getElem?_toArray, List.getElem?_cons_zero, List.getElem?_cons_succ] at b0 b1 b2 b3 b4 r0 r1 r2 r3 r4
    have HR := Lib.hid hr
    have HC := Lib.hid hc
    clear hc hr bx
    gi_wp2
    · rename_i hx
      obtain rfl : x.1 = code := eq_of_beq hx
      refine ⟨?_, ⟨rfl, pre, x, rfl, rfl, hp, ?_⟩, ?_⟩
      · exact (((((KeepsOthers.setCell _ _ _).trans (KeepsOthers.setCell _ _ _)).trans (KeepsOthers.setCell _ _ _)).trans (KeepsOthers.setCell _ _ _)).trans (KeepsOthers.setCell _ _ _)).from _
      · exact blk_set (blk_set (blk_set (blk_set (blk_set HR.out 0 _) 1 _) 2 _) 3 _) 4 _
      · exact ((((hB.setCell (p := ⟨w.heap.size + 1, _, none⟩) (by simp) _).setCell (p := ⟨w.heap.size + 1, _, none⟩) (by simp) _).setCell (p := ⟨w.heap.size + 1, _, none⟩) (by simp) _).setCell (p := ⟨w.heap.size + 1, _, none⟩) (by simp) _).setCell (p := ⟨w.heap.size + 1, _, none⟩) (by simp) _
    · rename_i hx
      refine ⟨KeepsFrom.refl _ _, fun a v h => h, ⟨HC.out, HR.out, ?_⟩, hB⟩
      intro y hy
      rcases List.mem_append.1 hy with h | h
      · exact hp y h
      · simp at h; subst h; exact fun e => by simp [e] at hx
  case done =>
    rintro D ys W hD rfl ⟨⟨hc, hr, hp⟩, hB⟩ hK
    have k0 : W.cell? ⟨w.heap.size, 0, none⟩ = some (.int .i64 code) := cell_of_heap hc 0
    have r0 := cell_of_heap hr 0
    have r1 := cell_of_heap hr 1
    have r2 := cell_of_heap hr 2
    have r3 := cell_of_heap hr 3
    have r4 := cell_of_heap hr 4
    have f : ∀ i, W.frozen? ⟨w.heap.size + 1, i, none⟩ = false := fun i => by simp [World.frozen?, hr]
    simp only [entCells, List.getElem?_toArray, List.getElem?_cons_zero, List.getElem?_cons_succ] at r0 r1 r2 r3 r4
    have HR := Lib.hid hr
    have HC := Lib.hid hc
    have HK := Lib.hid hK
    clear hc hr hK
    have hnone : pairsD.find? (fun x => x.1 == code) = none := by
      rw [List.find?_eq_none]
      intro x hx
      simpa using hp x hx
    have hD2 : w.heap.size + 2 ≤ D := by simp at hD; omega
    have fin : ∀ (X : EntryD) (W2 : World) (tm : Array Value), lookD code = X → Below W.heap.size W W2 → tm[2]? = some (.pointer (some ⟨w.heap.size + 1, 0, none⟩)) →
        bodyPostM Fence.wide 6 Tryd.prog Tryd.f17 (EntryIsD w (lookD code)) .ret { tmps := tm, defers := [{ target := .collected D, args := #[] }] }
          (((((W2.setCell ⟨w.heap.size + 1, 0, none⟩ (.int .i64 X.kind)).setCell ⟨w.heap.size + 1, 1, none⟩ (.int .u8 X.final)).setCell ⟨w.heap.size + 1, 2, none⟩ (.int .i64 X.num)).setCell ⟨w.heap.size + 1, 3, none⟩ (.int .i64 X.char)).setCell ⟨w.heap.size + 1, 4, none⟩ (.bool X.pad)) := by
      intro X W2 tm hX hb2 ht
      rw [hX]
      have h1 := (hb2.block _ (Array.getElem?_eq_some_iff.1 HR.out).1).trans HR.out
      have h2 := (hb2.block _ (Array.getElem?_eq_some_iff.1 HK.out).1).trans HK.out
      refine look_fin w _ D X tm ht hD2 ?_ ?_ ?_
      · exact (((((KeepsOthers.setCell _ _ _).trans (KeepsOthers.setCell _ _ _)).trans (KeepsOthers.setCell _ _ _)).trans (KeepsOthers.setCell _ _ _)).trans (KeepsOthers.setCell _ _ _)).same _ _ h2 rfl
      · exact blk_set (blk_set (blk_set (blk_set (blk_set h1 0 _) 1 _) 2 _) 3 _) 4 _
      · exact (((((hB.trans (hb2.mono hB.size)).setCell (p := ⟨w.heap.size + 1, _, none⟩) (by simp) _).setCell (p := ⟨w.heap.size + 1, _, none⟩) (by simp) _).setCell (p := ⟨w.heap.size + 1, _, none⟩) (by simp) _).setCell (p := ⟨w.heap.size + 1, _, none⟩) (by simp) _).setCell (p := ⟨w.heap.size + 1, _, none⟩) (by simp) _
    have FIN := Lib.hid fin
    have HN := Lib.hid hnone
    have HP := Lib.hid hp
    clear fin hnone hp
    by_cases hT : code < 32 ∨ (127 ≤ code ∧ code ≤ 159) ∨ (57344 ≤ code ∧ code < 63744)
    · have HZ : lookD code = zeroE := by
        unfold lookD
        rw [HN.out]
        rw [if_pos]
        rcases hT with h | h | h
        · exact .inl h
        · exact .inr (.inl h)
        · exact .inr (.inr (.inl h))
      have HZ := Lib.hid HZ
      rcases hT with hT | hT | hT
      all_goals
        gi_wp2_with (refine (And.intro (show Fence.wide.fn 44 from trivial) ?_))
        exact FIN.out zeroE W _ HZ.out (Below.refl _ _) rfl
    · have n1 : 32 ≤ code := by omega
      have n2 : code < 127 ∨ 159 < code := by omega
      have n3 : code < 57344 ∨ 63744 ≤ code := by omega
      clear hT
      by_cases hput : putL code = []
      · have HZ : lookD code = zeroE := by
          unfold lookD
          rw [HN.out]
          rw [if_pos (.inr (.inr (.inr hput)))]
        have HZ := Lib.hid HZ
        have hpl : (putL code).length = 0 := by rw [hput]; rfl
        clear hput
        rcases n2 with n2 | n2 <;> rcases n3 with n3 | n3
        all_goals first
          | (exfalso; omega)
          | (gi_wp2_with
              (refine ⟨trivial, ?_⟩; gi_at_call 44; refine (callsIn_wide.2 (utf_Put _ _)).mono ?_; rintro e w2 ⟨v, rfl, hown, hb2⟩; obtain ⟨_, p, c, rfl, hnc, hcm, hin⟩ := own_bytes hown; have e0 := cell_old hb2 r0; have e1 := cell_old hb2 r1; have e2 := cell_old hb2 r2; have e3 := cell_old hb2 r3; have e4 := cell_old hb2 r4; have f2 : ∀ i, w2.frozen? ⟨w.heap.size + 1, i, none⟩ = false := fun i => (hb2.frozen (p := ⟨w.heap.size + 1, i, none⟩) (Array.getElem?_eq_some_iff.1 HR.out).1).trans (f i))
             exact FIN.out zeroE w2 _ HZ.out hb2 rfl)
      · have HZ : lookD code = ⟨1, 0, 0, 0, false⟩ := by
          unfold lookD
          rw [HN.out]
          rw [if_neg (by rintro (h | h | h | h); omega; omega; omega; exact hput h)]
        have HZ := Lib.hid HZ
        have hpl : (((putL code).length : Int) == 0) = false := by
          cases h : putL code with
          | nil => exact absurd h hput
          | cons a l => simp; omega
        clear hput
        rcases n2 with n2 | n2 <;> rcases n3 with n3 | n3
        all_goals first
          | (exfalso; omega)
          | (gi_wp2_with
              (refine ⟨trivial, ?_⟩; gi_at_call 44; refine (callsIn_wide.2 (utf_Put _ _)).mono ?_; rintro e w2 ⟨v, rfl, hown, hb2⟩; obtain ⟨_, p, c, rfl, hnc, hcm, hin⟩ := own_bytes hown; have e0 := cell_old hb2 r0; have e1 := cell_old hb2 r1; have e2 := cell_old hb2 r2; have e3 := cell_old hb2 r3; have e4 := cell_old hb2 r4; have f2 : ∀ i, w2.frozen? ⟨w.heap.size + 1, i, none⟩ = false := fun i => (hb2.frozen (p := ⟨w.heap.size + 1, i, none⟩) (Array.getElem?_eq_some_iff.1 HR.out).1).trans (f i))
             exact FIN.out ⟨1, 0, 0, 0, false⟩ w2 _ HZ.out hb2 rfl)
  case stop =>
    rintro D c pre W hD hpre ⟨⟨rfl, p, x, rfl, hx, hp, hr⟩, hB⟩ hK
    have hX : lookD code = x.2 := by
      unfold lookD
      obtain ⟨t, ht⟩ := hpre
      have : pairsD.find? (fun y => y.1 == code) = some x := by
        rw [← ht, List.append_assoc, List.find?_append, List.find?_eq_none.2 (fun y hy => by simpa using hp y hy)]
        simp [hx]
      rw [this]
    gi_wp2
    rw [hX]
    exact look_fin w W D x.2 _ rfl (by simp at hD; omega) hK hr hB
end Go.Proofs.YtieppcjpbjefkaaDoor

/- A drawn region, walked by hand: one operation at a time. -/
namespace Go.Proofs.YtieppcjpbjefkaaDoor
open Go Go.RowKit
section
variable {P : Program} {ops : Array Oper} {Q : Exit → Act → World → Prop} {md : Region.Mode} {S : World → Prop}
theorem takeH (i : Nat) (d : Tmp) (v : Value) {fuel : Nat} {listed : Array Bool} {t : Array Value} {df : List Deferred} {w : World}
    (ho : ∃ o, ops[i]? = some o ∧ o.dst = some d ∧ Region.wanted o (yielded ops t) = true ∧ ∀ w, S w → (execOp (Act.eval ⟨t, df⟩) o).run P w = .ok (.value v) w)
    (hs : Region.noSelect ops = true) (hf : Region.free md ops listed i = true) (hr : (Region.ready md ops listed).contains i = true)
    (hQ : ∀ c a d v w, Q (.panic c) (a.put d v) w → Q (.panic c) a w) (hS : S w)
    (h : wpAnyH P md ops Q S fuel (listed.setIfInBounds i true) ⟨t.setIfInBounds d v, df⟩ w) : wpAnyH P md ops Q S (fuel + 1) listed ⟨t, df⟩ w := by
  obtain ⟨o, h1, h2, h3, h4⟩ := ho
  refine wpAnyH_take h1 hs hf hr (fun c a w => hQ c a _ v w) (.inl ⟨h3, h4⟩) hS ?_
  rw [h2]
  exact h
theorem skipH (i : Nat) (d : Tmp) {fuel : Nat} {listed : Array Bool} {t : Array Value} {df : List Deferred} {w : World}
    (ho : ∃ o, ops[i]? = some o ∧ o.dst = some d ∧ Region.wanted o (yielded ops t) = false)
    (hs : Region.noSelect ops = true) (hf : Region.free md ops listed i = true) (hr : (Region.ready md ops listed).contains i = true)
    (hQ : ∀ c a d v w, Q (.panic c) (a.put d v) w → Q (.panic c) a w) (hS : S w)
    (h : wpAnyH P md ops Q S fuel (listed.setIfInBounds i true) ⟨t.setIfInBounds d undef, df⟩ w) : wpAnyH P md ops Q S (fuel + 1) listed ⟨t, df⟩ w := by
  obtain ⟨o, h1, h2, h3⟩ := ho
  refine wpAnyH_take h1 hs hf hr (fun c a w => hQ c a _ undef w) (.inr ⟨h3, rfl⟩) hS ?_
  rw [h2]
  exact h
/-- the only one that may come up: a call of a function -/
theorem callH (i : Nat) (d : Tmp) (f : FuncId) (args : Array Value) {post : Ending → World → Prop} {fuel : Nat} {listed : Array Bool} {t : Array Value} {df : List Deferred} {w : World}
    (ho : ∃ o, ops[i]? = some o ∧ o.dst = some d ∧ Region.wanted o (yielded ops t) = true ∧ (execOp (Act.eval ⟨t, df⟩) o).run P w = .ok (.enter f args) w)
    (hr : Region.ready md ops listed = [i]) (hc : Calls P f args w post)
    (h : ∀ e w', post e w' → ∃ v, e = .returned v ∧ S w' ∧ (S w' → wpAnyH P md ops Q S fuel (listed.setIfInBounds i true) ⟨t.setIfInBounds d v, df⟩ w')) : wpAnyH P md ops Q S (fuel + 1) listed ⟨t, df⟩ w := by
  obtain ⟨o, h1, h2, h3, h4⟩ := ho
  refine wpAnyH_all hr (by simp) fun j hj => ?_
  rw [List.mem_singleton] at hj
  subst hj
  simp only [wpOp, h1, if_pos h3]
  refine .inl ?_
  unfold Oper.wp
  rw [h4]
  refine hc.mono fun e w' he => ?_
  obtain ⟨v, rfl, hs, hk⟩ := h e w' he
  refine ⟨hs, ?_⟩
  rw [h2]
  exact hk hs
/-- the only one that may come up: it yields -/
theorem stepH (i : Nat) (d : Tmp) (v : Value) (w' : World) {fuel : Nat} {listed : Array Bool} {t : Array Value} {df : List Deferred} {w : World}
    (ho : ∃ o, ops[i]? = some o ∧ o.dst = some d ∧ Region.wanted o (yielded ops t) = true ∧ (execOp (Act.eval ⟨t, df⟩) o).run P w = .ok (.value v) w')
    (hr : Region.ready md ops listed = [i]) (hs : S w')
    (h : wpAnyH P md ops Q S fuel (listed.setIfInBounds i true) ⟨t.setIfInBounds d v, df⟩ w') : wpAnyH P md ops Q S (fuel + 1) listed ⟨t, df⟩ w := by
  obtain ⟨o, h1, h2, h3, h4⟩ := ho
  refine wpAnyH_all hr (by simp) fun j hj => ?_
  rw [List.mem_singleton] at hj
  subst hj
  simp only [wpOp, h1, if_pos h3]
  refine .inl ?_
  unfold Oper.wp
  rw [h4]
  refine ⟨hs, ?_⟩
  rw [h2]
  exact h
end
end Go.Proofs.YtieppcjpbjefkaaDoor
