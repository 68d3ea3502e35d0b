/- Chapter 16: the data, told in plain terms. -/
import Derived.Test.YtikikdgfebbcmaaTd16
set_option linter.unusedVariables false
set_option linter.unusedSimpArgs false
set_option maxRecDepth 100000
namespace Go.Proofs
open Go.Hg
abbrev i64 (z : Int) : V := .int .i64 z
def R64 (z : Int) : Prop := -9223372036854775808 ≤ z ∧ z ≤ 9223372036854775807

structure PlD where
  r : Int
  n : Int
  deriving DecidableEq
structure KeyD where
  vol : Int
  idx : Int
  deriving DecidableEq
def PlD.enc (p : PlD) : List V := [i64 p.r, i64 p.n]
def KeyD.enc (k : KeyD) : List V := [i64 k.vol, i64 k.idx]
def rowOf {α : Type} (enc : α → List V) (l : List α) : V := .sl l.length (l.flatMap enc)
structure InvD where
  place : PlD
  live : Bool
  keys : List KeyD
def InvD.enc (x : InvD) : List V := [i64 x.place.r, i64 x.place.n, .bool x.live, rowOf KeyD.enc x.keys]
structure SpanD where
  off : Int
  n : Int
def SpanD.enc (x : SpanD) : List V := [i64 x.off, i64 x.n]
structure VolD where
  id : Int
  home : Int
  mate : Int
  used : Int
  phase : Int
  parts : List SpanD
  places : List PlD
  pair : Int
  sum : Int
def VolD.enc (x : VolD) : List V := [i64 x.id, i64 x.home, i64 x.mate, i64 x.used, i64 x.phase, rowOf SpanD.enc x.parts, rowOf PlD.enc x.places, i64 x.pair, i64 x.sum]
def intEnc (z : Int) : List V := [i64 z]
def boolEnc (b : Bool) : List V := [.bool b]

theorem PlD.len (x : PlD) : x.enc.length = 2 := rfl
theorem KeyD.len (x : KeyD) : x.enc.length = 2 := rfl
theorem InvD.len (x : InvD) : x.enc.length = 4 := rfl
theorem SpanD.len (x : SpanD) : x.enc.length = 2 := rfl
theorem VolD.len (x : VolD) : x.enc.length = 9 := rfl
theorem intEnc_len (x : Int) : (intEnc x).length = 1 := rfl
theorem boolEnc_len (x : Bool) : (boolEnc x).length = 1 := rfl

theorem eqg41 : Try.prog.eqGuardType Try.prog.depth 41 = false := by kernel_rfl
theorem eqg32 : Try.prog.eqGuardType Try.prog.depth 32 = false := by kernel_rfl
theorem held41 : Try.prog.stoodInHeld 41 = false := by kernel_rfl
theorem held32 : Try.prog.stoodInHeld 32 = false := by kernel_rfl
theorem eq41 (a b c d : Int) (w : World) : (binOp .eql 41 (.agg #[.int .i64 a, .int .i64 b]) (.agg #[.int .i64 c, .int .i64 d])).run Try.prog w = .ok (.bool (decide (a = c ∧ b = d))) w :=
  run_eq2 Try.underlying41 held41 (by decide) (by decide) rfl rfl Try.underlying3 Try.underlying3 Try.isAgg3 Try.isAgg3 a b c d w
theorem eq32 (a b c d : Int) (w : World) : (binOp .eql 32 (.agg #[.int .i64 a, .int .i64 b]) (.agg #[.int .i64 c, .int .i64 d])).run Try.prog w = .ok (.bool (decide (a = c ∧ b = d))) w :=
  run_eq2 Try.underlying32 held32 (by decide) (by decide) rfl rfl Try.underlying3 Try.underlying3 Try.isAgg3 Try.isAgg3 a b c d w

/-- The first place of which p holds, or -1. -/
def idxOf {α : Type} (p : α → Bool) (l : List α) : Int := match l.findIdx? p with | some i => i | none => -1
theorem idxOf_at {α : Type} {p : α → Bool} {l : List α} {i : Nat} (h : i < l.length) (hp : p l[i] = true) (hn : ∀ j, (h : j < l.length) → j < i → p l[j] = false) : (i : Int) = idxOf p l := by
  unfold idxOf
  have : l.findIdx? p = some i := by
    rw [List.findIdx?_eq_some_iff_getElem]
    exact ⟨h, hp, fun j hj => by have := hn j (by omega) hj; simp [this]⟩
  rw [this]
theorem idxOf_no {α : Type} {p : α → Bool} {l : List α} (hn : ∀ j, (h : j < l.length) → p l[j] = false) : -1 = idxOf p l := by
  unfold idxOf
  have : l.findIdx? p = none := by
    rw [List.findIdx?_eq_none_iff]
    intro x hx
    obtain ⟨j, hj, rfl⟩ := List.getElem_of_mem hx
    exact hn j hj
  rw [this]
theorem none_step {α : Type} {p : α → Bool} {l : List α} {i : Nat} (hn : ∀ j, (h : j < l.length) → j < i → p l[j] = false) (h : i < l.length) (h0 : p l[i] = false) : ∀ j, (h : j < l.length) → j < i + 1 → p l[j] = false := by
  intro j hj hlt
  rcases Nat.lt_or_ge j i with h1 | h1
  · exact hn j hj h1
  · have : j = i := by omega
    subst this
    exact h0
theorem idxOf_cases {α : Type} (p : α → Bool) (l : List α) : (idxOf p l = -1 ∧ ∀ x ∈ l, p x = false) ∨ ∃ i, ∃ h : i < l.length, idxOf p l = (i : Int) ∧ p l[i] = true ∧ ∀ j, (h : j < l.length) → j < i → p l[j] = false := by
  unfold idxOf
  cases hf : l.findIdx? p with
  | none => exact .inl ⟨rfl, List.findIdx?_eq_none_iff.1 hf⟩
  | some i =>
    obtain ⟨h, hp, hn⟩ := List.findIdx?_eq_some_iff_getElem.1 hf
    exact .inr ⟨i, h, rfl, hp, fun j hj hlt => by have := hn j hlt; simpa using this⟩
def InvD.zero : InvD := ⟨⟨0, 0⟩, false, []⟩
/-- What a node has: the first one of its place. -/
def invAt (l : List InvD) (p : PlD) : InvD × Bool := match l.findIdx? (fun x => decide (x.place = p)) with | some i => (l.getD i .zero, true) | none => (.zero, false)
theorem PlD.eq_iff (a b : PlD) : (a.r = b.r ∧ a.n = b.n) ↔ a = b := by cases a; cases b; simp
theorem KeyD.eq_iff (a b : KeyD) : (a.vol = b.vol ∧ a.idx = b.idx) ↔ a = b := by cases a; cases b; simp
theorem invAt_no {l : List InvD} {p : PlD} (h : idxOf (fun x => decide (x.place = p)) l < 0) : invAt l p = (.zero, false) := by
  unfold idxOf at h
  unfold invAt
  cases hf : l.findIdx? (fun x => decide (x.place = p)) with
  | none => rfl
  | some i => rw [hf] at h; simp only at h; omega
theorem invAt_at {l : List InvD} {p : PlD} (h : ¬ idxOf (fun x => decide (x.place = p)) l < 0) : ∃ i, ∃ hi : i < l.length, idxOf (fun x => decide (x.place = p)) l = (i : Int) ∧ invAt l p = (l[i], true) := by
  rcases idxOf_cases (fun x => decide (x.place = p)) l with ⟨h1, _⟩ | ⟨i, hi, h1, _⟩
  · omega
  · refine ⟨i, hi, h1, ?_⟩
    unfold idxOf at h1
    unfold invAt
    cases hf : l.findIdx? (fun x => decide (x.place = p)) with
    | none => rw [hf] at h1; simp only at h1; omega
    | some j =>
      rw [hf] at h1
      simp only at h1
      have : j = i := by omega
      subst this
      simp only
      rw [List.getD_eq_getElem?_getD, List.getElem?_eq_getElem hi]
      rfl

def InvsOk (l : List InvD) : Prop := l.length ≤ 1048576 ∧ ∀ x ∈ l, x.keys.length ≤ 1048576
theorem InvsOk.at_ {l : List InvD} (h : InvsOk l) (p : PlD) : (invAt l p).1.keys.length ≤ 1048576 := by
  unfold invAt
  cases hf : l.findIdx? (fun x => decide (x.place = p)) with
  | none => simp [InvD.zero]
  | some i =>
    simp only
    rw [List.getD_eq_getElem?_getD]
    cases hg : l[i]? with
    | none => simp [InvD.zero]
    | some x => simpa using h.2 x (List.mem_of_getElem? hg)
def hasAt (l : List InvD) (p : PlD) (k : KeyD) : Bool := (invAt l p).2 && (invAt l p).1.live && decide (0 ≤ idxOf (fun x => decide (k = x)) (invAt l p).1.keys)
def livesAt (l : List InvD) (p : PlD) : Bool := (invAt l p).2 && (invAt l p).1.live
def liveL (l : List InvD) (region nodes : Int) : List Bool := if 0 ≤ nodes ∧ nodes ≤ 64 then (List.range nodes.toNat).map (fun (n : Nat) => livesAt l ⟨region, (n : Int)⟩) else []

/-- Cells of truth, by their number. -/
def bl (f : Nat → Bool) (n : Nat) : List V := (List.range n).map fun j => .bool (f j)
theorem bl_length (f : Nat → Bool) (n : Nat) : (bl f n).length = n := by simp [bl]
theorem bl_splice (f : Nat → Bool) (n i : Nat) (b : Bool) (h : i < n) : vsplice (bl f n) i [.bool b] = bl (fun j => if j = i then b else f j) n := by
  unfold vsplice
  apply List.ext_getElem?
  intro j
  simp only [List.length_singleton]
  rcases Nat.lt_trichotomy j i with h1 | h1 | h1
  · rw [List.append_assoc, List.getElem?_append_left (by simp [bl_length]; omega), List.getElem?_take_of_lt h1]
    have h5 : (bl f n)[j]? = some (.bool (f j)) := by simp [bl, show j < n by omega]
    have h6 : (bl (fun j => if j = i then b else f j) n)[j]? = some (.bool (f j)) := by simp [bl, show j < n by omega, show j ≠ i by omega]
    rw [h5, h6]
  · subst h1
    rw [List.append_assoc, List.getElem?_append_right (by simp [bl_length]; omega)]
    simp [bl_length, Nat.min_eq_left (Nat.le_of_lt h), bl, h]
  · rw [List.getElem?_append_right (by simp [bl_length]; omega)]
    have h2 : j - (List.take i (bl f n) ++ [V.bool b]).length = j - (i + 1) := by simp [bl_length]; omega
    rw [h2, List.getElem?_drop, show i + 1 + (j - (i + 1)) = j by omega]
    rcases Nat.lt_or_ge j n with hj | hj
    · have h5 : (bl f n)[j]? = some (.bool (f j)) := by simp [bl, hj]
      have h6 : (bl (fun j => if j = i then b else f j) n)[j]? = some (.bool (f j)) := by simp [bl, hj, show j ≠ i by omega]
      rw [h5, h6]
    · rw [List.getElem?_eq_none (by simp [bl_length]; omega), List.getElem?_eq_none (by simp [bl_length]; omega)]
theorem bl_congr {f g : Nat → Bool} {n : Nat} (h : ∀ j, j < n → f j = g j) : bl f n = bl g n := by
  unfold bl
  refine List.map_congr_left fun j hj => ?_
  rw [h j (by simpa using hj)]
theorem bl_rep (n : Nat) : (List.replicate n [V.bool false]).flatten = bl (fun _ => false) n := by
  induction n with
  | zero => rfl
  | succ n ih => rw [List.replicate_succ', List.flatten_append, ih]; simp [bl, List.range_succ]
theorem bl_flat (f : Nat → Bool) (n : Nat) : bl f n = ((List.range n).map f).flatMap boolEnc := by
  unfold bl
  rw [List.flatMap_map]
  induction List.range n with
  | nil => rfl
  | cons x l ih => simp [boolEnc, ih]

def VolD.zero : VolD := ⟨0, 0, 0, 0, 0, [], [], 0, 0⟩
structure VolD.ok (v : VolD) : Prop where
  id : R64 v.id
  home : R64 v.home
  used : R64 v.used
  phase : R64 v.phase
  parts : v.parts.length ≤ 1048576
  places : v.places.length ≤ 1048576
  node : ∀ p ∈ v.places, R64 p.n
theorem VolD.zero_ok : VolD.zero.ok := ⟨by simp [VolD.zero, R64], by simp [VolD.zero, R64], by simp [VolD.zero, R64], by simp [VolD.zero, R64], by simp [VolD.zero], by simp [VolD.zero], by simp [VolD.zero]⟩
/-- The zero volume, as a new variable holds it. -/
def VolD.enc0 (x : VolD) : List V := [i64 0, i64 0, i64 0, i64 0, i64 0, .z0, .z0, i64 0, i64 0]
def VolsOk (l : List VolD) : Prop := l.length ≤ 1048576 ∧ ∀ x ∈ l, x.ok
/-- The first volume of which p holds, and where. -/
def findV (p : VolD → Bool) (l : List VolD) : VolD × Int := match l.findIdx? p with | some i => (l.getD i .zero, i) | none => (.zero, -1)
theorem findV_no {p : VolD → Bool} {l : List VolD} (h : idxOf p l < 0) : findV p l = (.zero, -1) := by
  unfold idxOf at h
  unfold findV
  cases hf : l.findIdx? p with
  | none => rfl
  | some i => rw [hf] at h; simp only at h; omega
theorem findV_at {p : VolD → Bool} {l : List VolD} (h : ¬ idxOf p l < 0) : ∃ i, ∃ hi : i < l.length, idxOf p l = (i : Int) ∧ findV p l = (l[i], (i : Int)) := by
  rcases idxOf_cases p l with ⟨h1, _⟩ | ⟨i, hi, h1, _⟩
  · omega
  · refine ⟨i, hi, h1, ?_⟩
    unfold idxOf at h1
    unfold findV
    cases hf : l.findIdx? p with
    | none => rw [hf] at h1; simp only at h1; omega
    | some j =>
      rw [hf] at h1
      simp only at h1
      have : j = i := by omega
      subst this
      simp only
      rw [List.getD_eq_getElem?_getD, List.getElem?_eq_getElem hi]
      rfl
theorem VolsOk.find {l : List VolD} (h : VolsOk l) (p : VolD → Bool) : (findV p l).1.ok := by
  unfold findV
  cases hf : l.findIdx? p with
  | none => exact VolD.zero_ok
  | some i =>
    simp only
    rw [List.getD_eq_getElem?_getD]
    cases hg : l[i]? with
    | none => exact VolD.zero_ok
    | some x => simpa using h.2 x (List.mem_of_getElem? hg)
/-- An index; its names and sessions aren't looked at here. -/
structure IdxD where
  vols : List VolD
  nn : Nat
  names : List V
  ns : Nat
  last : List V
def IdxD.enc (x : IdxD) : List V := [rowOf VolD.enc x.vols, .sl x.nn x.names, .sl x.ns x.last]
def oldAt (x : IdxD) (k : KeyD) : Bool := decide (0 ≤ (findV (fun v => decide (v.id = k.vol)) x.vols).2) && decide ((findV (fun v => decide (v.id = k.vol)) x.vols).1.phase = 4) && decide (100 ≤ k.idx)
def lostP (l : List InvD) (id : Int) (ps : List PlD) (i : Nat) : List Int := ((List.range i).filter (fun j => !hasAt l (ps.getD j ⟨0, 0⟩) ⟨id, (j : Int)⟩)).map (fun (j : Nat) => (j : Int))
theorem lostP_yes {l : List InvD} {id : Int} {ps : List PlD} {i : Nat} (h : i < ps.length) (hh : hasAt l ps[i] ⟨id, (i : Int)⟩ = false) : lostP l id ps (i + 1) = lostP l id ps i ++ [(i : Int)] := by
  unfold lostP
  have : ps.getD i ⟨0, 0⟩ = ps[i] := by rw [List.getD_eq_getElem?_getD, List.getElem?_eq_getElem h]; rfl
  rw [List.range_succ, List.filter_append, List.map_append]
  congr 1
  simp only [List.filter_cons, List.filter_nil, this, hh]
  rfl
theorem lostP_no {l : List InvD} {id : Int} {ps : List PlD} {i : Nat} (h : i < ps.length) (hh : hasAt l ps[i] ⟨id, (i : Int)⟩ = true) : lostP l id ps (i + 1) = lostP l id ps i := by
  unfold lostP
  have : ps.getD i ⟨0, 0⟩ = ps[i] := by rw [List.getD_eq_getElem?_getD, List.getElem?_eq_getElem h]; rfl
  rw [List.range_succ, List.filter_append, List.map_append]
  simp only [List.filter_cons, List.filter_nil, this, hh]
  simp
theorem lostP_le (l : List InvD) (id : Int) (ps : List PlD) (i : Nat) : (lostP l id ps i).length ≤ i := by
  unfold lostP
  rw [List.length_map]
  exact Nat.le_trans (List.length_filter_le _ _) (by simp)
def lostL (v : VolD) (l : List InvD) : List Int := lostP l v.id v.places v.places.length
structure ActD where
  kind : Int
  vol : Int
  idx : Int
  mate : Int
  to : List PlD
  key : KeyD
def ActD.zero : ActD := ⟨0, 0, 0, 0, [], ⟨0, 0⟩⟩
def ActD.enc (a : ActD) : List V := [i64 a.kind, i64 a.vol, i64 a.idx, i64 a.mate, rowOf PlD.enc a.to, i64 a.key.vol, i64 a.key.idx]
def lockP (v : VolD) : Bool := decide (v.phase = 1) && decide (128 < v.used)
def lockF (l : List VolD) : ActD × Bool := match l.find? lockP with | some v => (⟨4, v.id, 0, 0, [], ⟨0, 0⟩⟩, true) | none => (.zero, false)

theorem find_at {α : Type} {p : α → Bool} {l : List α} {i : Nat} (h : i < l.length) (hp : p l[i] = true) (hn : ∀ j, (h : j < l.length) → j < i → p l[j] = false) : l.find? p = some l[i] := by
  rw [List.find?_eq_some_iff_getElem]
  exact ⟨hp, i, h, rfl, fun j hj => by have := hn j (by omega) hj; simp [this]⟩
theorem find_no {α : Type} {p : α → Bool} {l : List α} (hn : ∀ j, (h : j < l.length) → p l[j] = false) : l.find? p = none := by
  rw [List.find?_eq_none]
  intro x hx
  obtain ⟨j, hj, rfl⟩ := List.getElem_of_mem hx
  simp [hn j hj]
/-- An action, as a new variable holds it. -/
def actZ : List V := [i64 0, i64 0, i64 0, i64 0, .z0, i64 0, i64 0]
def dropP (x : IdxD) (n : InvD) : Bool := (n.keys.find? (fun k => n.live && oldAt x k)).isSome
def dropF (x : IdxD) (l : List InvD) : ActD × Bool := match l.find? (dropP x) with
  | some n => (⟨5, 0, 0, 0, [n.place], (n.keys.find? (fun k => n.live && oldAt x k)).getD ⟨0, 0⟩⟩, true)
  | none => (.zero, false)

def livesB (n : Int) (live : List Bool) : Bool := decide (0 ≤ n ∧ n < live.length) && live.getD n.toNat false
def ringF (vol nodes : Int) (live : List Bool) : List Int := ((List.range nodes.toNat).map (fun (i : Nat) => (vol.tmod nodes + (i : Int)).tmod nodes)).filter (fun n => livesB n live)
theorem ringF_le (vol nodes : Int) (live : List Bool) : (ringF vol nodes live).length ≤ nodes.toNat := by
  unfold ringF
  exact Nat.le_trans (List.length_filter_le _ _) (by simp)
/-- What the ring's contract says. -/
def RingOk : Prop := ∀ (vol nodes : Int) (live : List Bool), 0 ≤ vol → R64 vol → 1 ≤ nodes → nodes ≤ 64 → live.length ≤ 1048576 → AC Try.prog 70 [i64 vol, i64 nodes, rowOf boolEnc live] (rowOf intEnc (ringF vol nodes live))
def spreadF (vol r many nodes : Int) (live : List Bool) : List PlD × Int :=
  if 1 ≤ r ∧ r ≤ 3 ∧ 0 ≤ many ∧ 0 ≤ vol ∧ 1 ≤ nodes ∧ nodes ≤ 64 then (if ((ringF vol nodes live).length : Int) < many then ([], 10) else (((ringF vol nodes live).take many.toNat).map (fun n => ⟨r, n⟩), 0)) else ([], 1)
theorem spreadF_le (vol r many nodes : Int) (live : List Bool) : (spreadF vol r many nodes live).1.length ≤ 64 := by
  unfold spreadF
  split
  · rename_i h
    split
    · simp
    · have := ringF_le vol nodes live
      simp only [List.length_map, List.length_take]
      omega
  · simp
def thirdF (a b : Int) : Int × Int := if 1 ≤ a ∧ a ≤ 3 ∧ 1 ≤ b ∧ b ≤ 3 ∧ a ≠ b then (6 - a - b, 0) else (0, 1)

theorem liveL_le (l : List InvD) (region nodes : Int) : (liveL l region nodes).length ≤ 1048576 := by
  unfold liveL
  split
  · rw [List.length_map, List.length_range]; omega
  · simp
def encP (l : List InvD) (nodes : Int) (v : VolD) : Bool := decide (v.phase = 2) && decide ((spreadF v.id v.home 14 nodes (liveL l v.home nodes)).2 = 0)
def encodeF (l : List InvD) (nodes : Int) (vols : List VolD) : ActD × Bool := match vols.find? (encP l nodes) with
  | some v => (⟨2, v.id, 0, 0, (spreadF v.id v.home 14 nodes (liveL l v.home nodes)).1, ⟨0, 0⟩⟩, true)
  | none => (.zero, false)

theorem findSome_at {α : Type} {f : Nat → Option α} {n i : Nat} {a : α} (h : i < n) (hf : f i = some a) (hn : ∀ j, j < i → f j = none) : (List.range n).findSome? f = some a := by
  induction n with
  | zero => omega
  | succ n ih =>
    rw [List.range_succ, List.findSome?_append]
    rcases Nat.lt_or_ge i n with h1 | h1
    · rw [ih h1]; rfl
    · have : i = n := by omega
      subst this
      have h2 : (List.range i).findSome? f = none := by
        rw [List.findSome?_eq_none_iff]
        intro x hx
        exact hn x (by simpa using hx)
      rw [h2]
      simp [hf]
theorem findSome_no {α : Type} {f : Nat → Option α} {n : Nat} (hn : ∀ j, j < n → f j = none) : (List.range n).findSome? f = none := by
  rw [List.findSome?_eq_none_iff]
  intro x hx
  exact hn x (by simpa using hx)
def mateP (v w : VolD) : Bool := decide (w.phase = 3) && decide (w.home ≠ v.home)
def pairG (l : List InvD) (nodes : Int) (vols : List VolD) (i : Nat) : Option ActD :=
  if (vols.getD i .zero).phase = 3 then
    if idxOf (mateP (vols.getD i .zero)) (vols.drop (i + 1)) < 0 then none else
      if (spreadF (vols.getD i .zero).id (thirdF (vols.getD i .zero).home (vols.getD (i + 1 + (idxOf (mateP (vols.getD i .zero)) (vols.drop (i + 1))).toNat) .zero).home).1 14 nodes (liveL l (thirdF (vols.getD i .zero).home (vols.getD (i + 1 + (idxOf (mateP (vols.getD i .zero)) (vols.drop (i + 1))).toNat) .zero).home).1 nodes)).2 = 0 then
        some ⟨3, (vols.getD i .zero).id, 0, (vols.getD (i + 1 + (idxOf (mateP (vols.getD i .zero)) (vols.drop (i + 1))).toNat) .zero).id, (spreadF (vols.getD i .zero).id (thirdF (vols.getD i .zero).home (vols.getD (i + 1 + (idxOf (mateP (vols.getD i .zero)) (vols.drop (i + 1))).toNat) .zero).home).1 14 nodes (liveL l (thirdF (vols.getD i .zero).home (vols.getD (i + 1 + (idxOf (mateP (vols.getD i .zero)) (vols.drop (i + 1))).toNat) .zero).home).1 nodes)).1, ⟨0, 0⟩⟩
      else none
  else none
def pairF (l : List InvD) (nodes : Int) (vols : List VolD) : ActD × Bool := match (List.range vols.length).findSome? (pairG l nodes vols) with
  | some a => (a, true)
  | none => (.zero, false)
theorem getD_at {α : Type} {l : List α} {i : Nat} (z : α) (h : i < l.length) : l.getD i z = l[i] := by
  rw [List.getD_eq_getElem?_getD, List.getElem?_eq_getElem h]; rfl
theorem lt_step {f : Nat → Prop} {i : Nat} (hn : ∀ j, j < i → f j) (h : f i) : ∀ j, j < i + 1 → f j := fun j hj => by
  rcases Nat.lt_or_ge j i with h1 | h1
  · exact hn j h1
  · have : j = i := by omega
    subst this; exact h

theorem lostP_mem {l : List InvD} {id : Int} {ps : List PlD} {i : Nat} {z : Int} (h : z ∈ lostP l id ps i) : ∃ j, j < i ∧ z = (j : Int) := by
  unfold lostP at h
  simp only [List.mem_map, List.mem_filter, List.mem_range] at h
  obtain ⟨j, ⟨hj, _⟩, rfl⟩ := h
  exact ⟨j, hj, rfl⟩
theorem lostL_head {v : VolD} {l : List InvD} (h : ¬ ((lostL v l).length : Int) = 0) : ∃ (j : Nat) (hj : j < v.places.length) (h0 : 0 < (lostL v l).length), (lostL v l)[0] = (j : Int) := by
  have h0 : 0 < (lostL v l).length := by omega
  obtain ⟨j, hj, he⟩ := lostP_mem (l := l) (id := v.id) (ps := v.places) (i := v.places.length) (List.getElem_mem (l := lostL v l) h0)
  exact ⟨j, hj, h0, he⟩
/-- A place besides. -/
def nextF (l : List PlD) (nodes : Int) (live : List Bool) : PlD × Int :=
  if l = [] ∨ ¬ (1 ≤ nodes ∧ nodes ≤ 64) then (⟨0, 0⟩, 1) else
    if l.any (fun p => decide (p.r ≠ (l.getD 0 ⟨0, 0⟩).r)) = true then (⟨0, 0⟩, 1) else
      match (ringF (if 0 > (l.getD (l.length - 1) ⟨0, 0⟩).n.tmod nodes then 0 else (l.getD (l.length - 1) ⟨0, 0⟩).n.tmod nodes) nodes live).find? (fun n => !l.any (fun p => decide (p = ⟨(l.getD 0 ⟨0, 0⟩).r, n⟩))) with
      | some n => (⟨(l.getD 0 ⟨0, 0⟩).r, n⟩, 0)
      | none => (⟨0, 0⟩, 10)
def NextOk : Prop := ∀ (l : List PlD) (nodes : Int) (live : List Bool), l.length ≤ 1048577 → (∀ p ∈ l, R64 p.n) → live.length ≤ 1048576 → AC Try.prog 53 [rowOf PlD.enc l, i64 nodes, rowOf boolEnc live] (.tup [.agg (nextF l nodes live).1.enc, i64 (nextF l nodes live).2])
/-- What is to be repaired of a volume. -/
def repG (l : List InvD) (nodes : Int) (v : VolD) : Option ActD :=
  match lostL v l with
  | [] => none
  | z :: _ =>
    if livesAt l (v.places.getD z.toNat ⟨0, 0⟩) = true then some ⟨1, v.id, z, 0, [v.places.getD z.toNat ⟨0, 0⟩], ⟨0, 0⟩⟩ else
      if (nextF (v.places ++ [v.places.getD z.toNat ⟨0, 0⟩]) nodes (liveL l v.home nodes)).2 = 0 then some ⟨1, v.id, z, 0, [(nextF (v.places ++ [v.places.getD z.toNat ⟨0, 0⟩]) nodes (liveL l v.home nodes)).1], ⟨0, 0⟩⟩ else none
theorem repG_none {l : List InvD} {nodes : Int} {v : VolD} (h : ((lostL v l).length : Int) = 0) : repG l nodes v = none := by
  unfold repG
  have : lostL v l = [] := List.eq_nil_of_length_eq_zero (by omega)
  rw [this]
theorem repG_some {l : List InvD} {nodes : Int} {v : VolD} {j : Nat} (hj : j < v.places.length) (h0 : 0 < (lostL v l).length) (he : (lostL v l)[0] = (j : Int)) :
    repG l nodes v = if livesAt l v.places[j] = true then some ⟨1, v.id, (j : Int), 0, [v.places[j]], ⟨0, 0⟩⟩ else
      if (nextF (v.places ++ [v.places[j]]) nodes (liveL l v.home nodes)).2 = 0 then some ⟨1, v.id, (j : Int), 0, [(nextF (v.places ++ [v.places[j]]) nodes (liveL l v.home nodes)).1], ⟨0, 0⟩⟩ else none := by
  unfold repG
  cases hl : lostL v l with
  | nil => simp [hl] at h0
  | cons z zs =>
    simp only [hl, List.getElem_cons_zero] at he
    subst he
    simp only [Int.toNat_natCast]
    rw [getD_at _ hj]
def repairF (l : List InvD) (nodes : Int) (vols : List VolD) : ActD × Bool := match vols.findSome? (repG l nodes) with
  | some a => (a, true)
  | none => (.zero, false)
theorem findSomeL_at {α β : Type} {f : α → Option β} : ∀ {l : List α} {i : Nat} {b : β} (h : i < l.length), f l[i] = some b → (∀ j, (h : j < l.length) → j < i → f l[j] = none) → l.findSome? f = some b
  | [], i, b, h, _, _ => by simp at h
  | x :: l, 0, b, h, hf, _ => by
    simp only [List.getElem_cons_zero] at hf
    simp [hf]
  | x :: l, i + 1, b, h, hf, hn => by
    have h0 : f x = none := hn 0 (by simp) (by omega)
    rw [List.findSome?_cons, h0]
    exact findSomeL_at (i := i) (by simpa using h) (by simpa using hf) (fun j hj hlt => hn (j + 1) (by simp; omega) (by omega))
theorem findSomeL_no {α β : Type} {f : α → Option β} {l : List α} (hn : ∀ j, (h : j < l.length) → f l[j] = none) : l.findSome? f = none := by
  rw [List.findSome?_eq_none_iff]
  intro x hx
  obtain ⟨j, hj, rfl⟩ := List.getElem_of_mem hx
  exact hn j hj
theorem noneL_step {α β : Type} {f : α → Option β} {l : List α} {i : Nat} (hn : ∀ j, (h : j < l.length) → j < i → f l[j] = none) (h : i < l.length) (h0 : f l[i] = none) : ∀ j, (h : j < l.length) → j < i + 1 → f l[j] = none := by
  intro j hj hlt
  rcases Nat.lt_or_ge j i with h1 | h1
  · exact hn j hj h1
  · have : j = i := by omega
    subst this
    exact h0
end Go.Proofs
/- Chapter 16: the arguments, told as plain data. -/
set_option linter.unusedVariables false
set_option linter.unusedSimpArgs false
set_option maxRecDepth 100000
namespace Go.Proofs
open Go.Hg
section
variable {H : Type}
theorem dec3 {x : DataW H} (h : Has td3 x) : ∃ z : Int, dV x = [i64 z] ∧ R64 z := by
  obtain ⟨z, h1, h2, h3⟩ := dec_int h
  exact ⟨z, h1, h2, h3⟩
theorem dec41 (x : DataW H) (h : Has td41 x) (_ : bulk x ≤ 1048576) : ∃ p : PlD, dV x = p.enc ∧ R64 p.r ∧ R64 p.n := by
  unfold td41 at h
  simp only [Has, HasL] at h
  obtain ⟨_, rfl, a, _, rfl, ha, b, _, rfl, hb, rfl⟩ := h
  obtain ⟨r, h1, h2⟩ := dec3 ha
  obtain ⟨n, h3, h4⟩ := dec3 hb
  exact ⟨⟨r, n⟩, by simp only [dV, dVL, h1, h3]; rfl, h2, h4⟩
theorem dec32 (x : DataW H) (h : Has td32 x) (_ : bulk x ≤ 1048576) : ∃ p : KeyD, dV x = p.enc ∧ R64 p.vol ∧ R64 p.idx := by
  unfold td32 at h
  simp only [Has, HasL] at h
  obtain ⟨_, rfl, a, _, rfl, ha, b, _, rfl, hb, rfl⟩ := h
  obtain ⟨r, h1, h2⟩ := dec3 ha
  obtain ⟨n, h3, h4⟩ := dec3 hb
  exact ⟨⟨r, n⟩, by simp only [dV, dVL, h1, h3]; rfl, h2, h4⟩
theorem dec60 (x : DataW H) (h : Has td60 x) (_ : bulk x ≤ 1048576) : ∃ p : SpanD, dV x = p.enc ∧ R64 p.off ∧ R64 p.n := by
  unfold td60 at h
  simp only [Has, HasL] at h
  obtain ⟨_, rfl, a, _, rfl, ha, b, _, rfl, hb, rfl⟩ := h
  obtain ⟨r, h1, h2⟩ := dec3 ha
  obtain ⟨n, h3, h4⟩ := dec3 hb
  exact ⟨⟨r, n⟩, by simp only [dV, dVL, h1, h3]; rfl, h2, h4⟩
theorem dec44 (x : DataW H) (h : Has td44 x) (hk : bulk x ≤ 1048576) : ∃ p : InvD, dV x = p.enc ∧ R64 p.place.r ∧ R64 p.place.n ∧ p.keys.length ≤ 1048576 ∧ ∀ k ∈ p.keys, R64 k.vol ∧ R64 k.idx := by
  unfold td44 at h
  simp only [Has, HasL] at h
  obtain ⟨_, rfl, a, _, rfl, ha, b, _, rfl, hb, c, _, rfl, hc, rfl⟩ := h
  simp only [bulk, bulkAll] at hk
  obtain ⟨p, h1, h2, h3⟩ := dec41 a ha (by omega)
  obtain ⟨l, h4⟩ := dec_bool hb
  obtain ⟨ks, h5, h6, h7⟩ := dec_sl dec32 hc (by omega)
  exact ⟨⟨p, l, ks⟩, by simp only [dV, dVL, h1, h4, h5]; rfl, h2, h3, by simp only; omega, h7⟩
theorem dec39 (x : DataW H) (h : Has td39 x) (hk : bulk x ≤ 1048576) : ∃ v : VolD, dV x = v.enc ∧ v.ok ∧ (R64 v.mate ∧ R64 v.pair ∧ R64 v.sum ∧ (∀ s ∈ v.parts, R64 s.off ∧ R64 s.n) ∧ ∀ p ∈ v.places, R64 p.r ∧ R64 p.n) := by
  unfold td39 at h
  simp only [Has, HasL] at h
  obtain ⟨_, rfl, a, _, rfl, ha, b, _, rfl, hb, c, _, rfl, hc, d, _, rfl, hd, e, _, rfl, he, f, _, rfl, hf, g, _, rfl, hg, i, _, rfl, hi, j, _, rfl, hj, rfl⟩ := h
  simp only [bulk, bulkAll] at hk
  obtain ⟨za, a1, a2⟩ := dec3 ha
  obtain ⟨zb, b1, b2⟩ := dec3 hb
  obtain ⟨zc, c1, c2⟩ := dec3 hc
  obtain ⟨zd, d1, d2⟩ := dec3 hd
  obtain ⟨ze, e1, e2⟩ := dec3 he
  obtain ⟨zi, i1, i2⟩ := dec3 hi
  obtain ⟨zj, j1, j2⟩ := dec3 hj
  obtain ⟨ps, f1, f2, f3⟩ := dec_sl dec60 hf (by omega)
  obtain ⟨pl, g1, g2, g3⟩ := dec_sl dec41 hg (by omega)
  exact ⟨⟨za, zb, zc, zd, ze, ps, pl, zi, zj⟩, by simp only [dV, dVL, a1, b1, c1, d1, e1, f1, g1, i1, j1]; rfl, ⟨a2, b2, d2, e2, by simp only; omega, by simp only; omega, fun p hp => (g3 p hp).2⟩, c2, i2, j2, f3, g3⟩
theorem dec26 (x : DataW H) (h : Has td26 x) (hk : bulk x ≤ 1048576) : ∃ v : IdxD, dV x = v.enc ∧ VolsOk v.vols ∧ ∀ y ∈ v.vols, (R64 y.mate ∧ R64 y.pair ∧ R64 y.sum ∧ (∀ s ∈ y.parts, R64 s.off ∧ R64 s.n) ∧ ∀ p ∈ y.places, R64 p.r ∧ R64 p.n) := by
  unfold td26 at h
  simp only [Has, HasL] at h
  obtain ⟨_, rfl, a, _, rfl, ha, b, _, rfl, hb, c, _, rfl, hc, rfl⟩ := h
  simp only [bulk, bulkAll] at hk
  obtain ⟨vs, a1, a2, a3⟩ := dec_sl dec39 ha (by omega)
  obtain ⟨n, cs, b1⟩ := dec_sl_any hb
  obtain ⟨m, ds, c1⟩ := dec_sl_any hc
  exact ⟨⟨vs, n, cs, m, ds⟩, by simp only [dV, dVL, a1, b1, c1]; rfl, ⟨by simp only; omega, fun y hy => (a3 y hy).1⟩, fun y hy => (a3 y hy).2⟩
theorem dec27 {x : DataW H} (h : Has td27 x) (hk : bulk x ≤ 1048576) : ∃ l : List InvD, dV x = [rowOf InvD.enc l] ∧ InvsOk l := by
  obtain ⟨l, h1, h2, h3⟩ := dec_sl dec44 h hk
  exact ⟨l, h1, by omega, fun y hy => (h3 y hy).2.2.1⟩
end
end Go.Proofs
