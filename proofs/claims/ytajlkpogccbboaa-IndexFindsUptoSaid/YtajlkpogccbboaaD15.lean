/- Chapter 15: the data, told in plain terms. -/
import Derived.Test.YtajlkpogccbboaaTy15
import Derived.Test.YtajlkpogccbboaaHgW
set_option linter.unusedVariables false
set_option linter.unusedSimpArgs false
set_option maxRecDepth 100000
namespace Go.Proofs
open Go.Hg
abbrev i64 (z : Int) : V := .int .i64 z
def R64 (z : Int) : Prop := -9223372036854775808 ≤ z ∧ z ≤ 9223372036854775807
structure PlD where
  r : Int
  n : Int
  deriving DecidableEq
structure SpanD where
  off : Int
  n : Int
  deriving DecidableEq
structure VolD where
  id : Int
  home : Int
  mate : Int
  used : Int
  phase : Int
  parts : List SpanD
  places : List PlD
  pair : Int
  sum : Int
  deriving DecidableEq
structure NameD where
  name : ByteArray
  vol : Int
  off : Int
  n : Int
  sum : Int
  deriving DecidableEq
structure ReplyD where
  err : Int
  vol : Int
  off : Int
  n : Int
  sum : Int
  found : Bool
  deriving DecidableEq
structure SessD where
  client : Int
  seq : Int
  reply : ReplyD
  deriving DecidableEq
structure IdxD where
  vols : List VolD
  names : List NameD
  last : List SessD
structure CmdD where
  kind : Int
  client : Int
  seq : Int
  name : ByteArray
  vol : Int
  off : Int
  n : Int
  sum : Int
  region : Int
  mate : Int
  idx : Int
  places : List PlD
def rowOf {α : Type} (enc : α → List V) (l : List α) : V := .sl l.length (l.flatMap enc)
def intEnc (z : Int) : List V := [i64 z]
def PlD.enc (p : PlD) : List V := [i64 p.r, i64 p.n]
def SpanD.enc (x : SpanD) : List V := [i64 x.off, i64 x.n]
def VolD.enc (x : VolD) : List V := [i64 x.id, i64 x.home, i64 x.mate, i64 x.used, i64 x.phase, rowOf SpanD.enc x.parts, rowOf PlD.enc x.places, i64 x.pair, i64 x.sum]
def NameD.enc (x : NameD) : List V := [.str x.name, i64 x.vol, i64 x.off, i64 x.n, .int .u32 x.sum]
def ReplyD.enc (x : ReplyD) : List V := [i64 x.err, i64 x.vol, i64 x.off, i64 x.n, .int .u32 x.sum, .bool x.found]
def SessD.enc (x : SessD) : List V := [i64 x.client, i64 x.seq, i64 x.reply.err, i64 x.reply.vol, i64 x.reply.off, i64 x.reply.n, .int .u32 x.reply.sum, .bool x.reply.found]
def IdxD.enc (x : IdxD) : List V := [rowOf VolD.enc x.vols, rowOf NameD.enc x.names, rowOf SessD.enc x.last]
def CmdD.enc (c : CmdD) : List V := [i64 c.kind, i64 c.client, i64 c.seq, .str c.name, i64 c.vol, i64 c.off, i64 c.n, .int .u32 c.sum, i64 c.region, i64 c.mate, i64 c.idx, rowOf PlD.enc c.places]
theorem intEnc_len (x : Int) : (intEnc x).length = 1 := rfl
theorem PlD.len (x : PlD) : x.enc.length = 2 := rfl
theorem SpanD.len (x : SpanD) : x.enc.length = 2 := rfl
theorem VolD.len (x : VolD) : x.enc.length = 9 := rfl
theorem NameD.len (x : NameD) : x.enc.length = 5 := rfl
theorem SessD.len (x : SessD) : x.enc.length = 8 := rfl
def VolD.zero : VolD := ⟨0, 0, 0, 0, 0, [], [], 0, 0⟩
def NameD.zero : NameD := ⟨⟨#[]⟩, 0, 0, 0, 0⟩
def ReplyD.zero : ReplyD := ⟨0, 0, 0, 0, 0, false⟩
def SessD.zero : SessD := ⟨0, 0, .zero⟩
theorem PlD.eq_iff (a b : PlD) : (a.r = b.r ∧ a.n = b.n) ↔ a = b := by cases a; cases b; simp
theorem SpanD.eq_iff (a b : SpanD) : (a.off = b.off ∧ a.n = b.n) ↔ a = b := by cases a; cases b; simp

/-- The first place of which p holds, or -1. -/
def idxOf {α : Type} (p : α → Bool) (l : List α) : Int := match l.findIdx? p with | some i => i | none => -1
theorem idxOf_at {α : Type} {p : α → Bool} {l : List α} {i : Nat} (h : i < l.length) (hp : p l[i] = true) (hn : ∀ j, (h : j < l.length) → j < i → p l[j] = false) : (i : Int) = idxOf p l := by
  unfold idxOf
  have : l.findIdx? p = some i := by
    rw [List.findIdx?_eq_some_iff_getElem]
    exact ⟨h, hp, fun j hj => by have := hn j (by omega) hj; simp [this]⟩
  rw [this]
theorem idxOf_no {α : Type} {p : α → Bool} {l : List α} (hn : ∀ j, (h : j < l.length) → p l[j] = false) : -1 = idxOf p l := by
  unfold idxOf
  have : l.findIdx? p = none := by
    rw [List.findIdx?_eq_none_iff]
    intro x hx
    obtain ⟨j, hj, rfl⟩ := List.getElem_of_mem hx
    exact hn j hj
  rw [this]
theorem none_step {α : Type} {p : α → Bool} {l : List α} {i : Nat} (hn : ∀ j, (h : j < l.length) → j < i → p l[j] = false) (h : i < l.length) (h0 : p l[i] = false) : ∀ j, (h : j < l.length) → j < i + 1 → p l[j] = false := by
  intro j hj hlt
  rcases Nat.lt_or_ge j i with h1 | h1
  · exact hn j hj h1
  · have : j = i := by omega
    subst this
    exact h0
theorem idxOf_cases {α : Type} (p : α → Bool) (l : List α) : (idxOf p l = -1 ∧ ∀ x ∈ l, p x = false) ∨ ∃ i, ∃ h : i < l.length, idxOf p l = (i : Int) ∧ p l[i] = true ∧ ∀ j, (h : j < l.length) → j < i → p l[j] = false := by
  unfold idxOf
  cases hf : l.findIdx? p with
  | none => exact .inl ⟨rfl, List.findIdx?_eq_none_iff.1 hf⟩
  | some i =>
    obtain ⟨h, hp, hn⟩ := List.findIdx?_eq_some_iff_getElem.1 hf
    exact .inr ⟨i, h, rfl, hp, fun j hj hlt => by have := hn j hlt; simpa using this⟩
theorem idxOf_any {α : Type} (p : α → Bool) (l : List α) : decide (0 ≤ idxOf p l) = l.any p := by
  rcases idxOf_cases p l with ⟨h1, h2⟩ | ⟨i, hi, h1, h2, _⟩
  · rw [h1, List.any_eq_false.2 (fun x hx => by rw [h2 x hx]; simp)]; rfl
  · rw [h1, List.any_eq_true.2 ⟨_, List.getElem_mem hi, h2⟩]
    exact decide_eq_true (by omega)
theorem idxOf_lt {α : Type} (p : α → Bool) (l : List α) : idxOf p l < l.length := by
  rcases idxOf_cases p l with ⟨h1, h2⟩ | ⟨i, hi, h1, h2, _⟩ <;> omega
/-- The first of which p holds, and where. -/
def findG {α : Type} (z : α) (p : α → Bool) (l : List α) : α × Int := match l.findIdx? p with | some i => (l.getD i z, i) | none => (z, -1)
theorem findG_no {α : Type} {z : α} {p : α → Bool} {l : List α} (h : idxOf p l < 0) : findG z p l = (z, -1) := by
  unfold idxOf at h
  unfold findG
  cases hf : l.findIdx? p with
  | none => rfl
  | some i => rw [hf] at h; simp only at h; omega
theorem findG_at {α : Type} {z : α} {p : α → Bool} {l : List α} (h : ¬ idxOf p l < 0) : ∃ i, ∃ hi : i < l.length, idxOf p l = (i : Int) ∧ findG z p l = (l[i], (i : Int)) ∧ p l[i] = true := by
  rcases idxOf_cases p l with ⟨h1, _⟩ | ⟨i, hi, h1, hp, _⟩
  · omega
  · refine ⟨i, hi, h1, ?_, hp⟩
    unfold idxOf at h1
    unfold findG
    cases hf : l.findIdx? p with
    | none => rw [hf] at h1; simp only at h1; omega
    | some j =>
      rw [hf] at h1
      simp only at h1
      have : j = i := by omega
      subst this
      simp only
      rw [List.getD_eq_getElem?_getD, List.getElem?_eq_getElem hi]
      rfl
theorem findG_idx {α : Type} (z : α) (p : α → Bool) (l : List α) : (findG z p l).2 = idxOf p l := by
  unfold findG idxOf
  cases l.findIdx? p <;> rfl
def setL {α : Type} (l : List α) (i : Int) (x : α) : List α := if i < 0 then l ++ [x] else l.set i.toNat x
theorem setL_len {α : Type} (l : List α) (i : Int) (x : α) : (setL l i x).length ≤ l.length + 1 := by
  unfold setL
  split
  · simp
  · simp

def volF (x : IdxD) (id : Int) : VolD × Int := findG .zero (fun v => decide (v.id = id)) x.vols
def nameF (x : IdxD) (s : ByteArray) : NameD × Int := findG .zero (fun v => decide (v.name = s)) x.names
def lastF (x : IdxD) (c : Int) : SessD × Int := findG .zero (fun v => decide (v.client = c)) x.last
def small (n : Int) : Bool := decide (0 ≤ n ∧ n ≤ 1048576)
def oddP (p : PlD) : Bool := decide (p.r < 1 ∨ 3 < p.r ∨ p.n < 0 ∨ 64 ≤ p.n)
def mayF (c : CmdD) : Bool := decide (1 ≤ c.kind ∧ c.kind ≤ 9 ∧ 0 ≤ c.client ∧ c.client ≤ 16 ∧ 0 ≤ c.seq ∧ c.seq ≤ 1073741824 ∧ c.name.size ≤ 16 ∧ c.places.length ≤ 14) && !c.places.any oddP && !([c.vol, c.off, c.n, c.region, c.mate, c.idx].any (fun n => !small n))
def noR (e : Int) : ReplyD := ⟨e, 0, 0, 0, 0, false⟩
def thirdF (a b : Int) : Int × Int := if 1 ≤ a ∧ a ≤ 3 ∧ 1 ≤ b ∧ b ≤ 3 ∧ a ≠ b then (6 - a - b, 0) else (0, 1)
def wholeP (l : List PlD) (r : Int) (i : Nat) : Bool := decide ((l.getD i ⟨0, 0⟩).r = r) && !((l.take i).any (fun p => decide (l.getD i ⟨0, 0⟩ = p)))
def wholeF (l : List PlD) (r : Int) : Bool := (List.range l.length).all (wholeP l r) && decide (l.length = 14)
def openF (x : IdxD) (c : CmdD) : IdxD × ReplyD :=
  if (thirdF c.region c.mate).2 ≠ 0 then (x, noR 1) else if 48 ≤ x.vols.length then (x, noR 5)
  else (⟨x.vols ++ [⟨x.vols.length + 1, c.region, c.mate, 0, 1, [], [], 0, 0⟩], x.names, x.last⟩, ⟨0, x.vols.length + 1, 0, 0, 0, false⟩)
def reserveF (x : IdxD) (c : CmdD) : IdxD × ReplyD :=
  if (volF x c.vol).2 < 0 then (x, noR 7) else if (volF x c.vol).1.phase ≠ 1 then (x, noR 9) else if c.n < 1 ∨ 32 < c.n then (x, noR 4) else if (volF x c.vol).1.used > 160 - c.n then (x, noR 5)
  else (⟨setL x.vols (volF x c.vol).2 { (volF x c.vol).1 with used := (volF x c.vol).1.used + c.n }, x.names, x.last⟩, ⟨0, (volF x c.vol).1.id, (volF x c.vol).1.used, c.n, 0, false⟩)
def insL (l : List NameD) (i : Nat) (n : NameD) : List NameD := l.take i ++ [n] ++ l.drop i
def sgt (a b : ByteArray) : Bool := !(slt a b || decide (a = b))
def putAt (l : List NameD) (s : ByteArray) : Nat := if idxOf (fun y : NameD => sgt y.name s) l < 0 then l.length else (idxOf (fun y : NameD => sgt y.name s) l).toNat
def putF (x : IdxD) (c : CmdD) : IdxD × ReplyD :=
  if c.name = ⟨#[]⟩ then (x, noR 1) else if (volF x c.vol).2 < 0 then (x, noR 7) else if (volF x c.vol).1.phase ≠ 1 then (x, noR 9) else if c.n = 0 ∨ c.off + c.n > (volF x c.vol).1.used then (x, noR 1)
  else if (nameF x c.name).2 < 0 ∧ 64 ≤ x.names.length then (x, noR 5)
  else (⟨setL x.vols (volF x c.vol).2 { (volF x c.vol).1 with parts := (volF x c.vol).1.parts ++ [⟨c.off, c.n⟩] },
    if (nameF x c.name).2 ≥ 0 then setL x.names (nameF x c.name).2 ⟨c.name, c.vol, c.off, c.n, c.sum⟩ else insL x.names (putAt x.names c.name) ⟨c.name, c.vol, c.off, c.n, c.sum⟩, x.last⟩, ⟨0, 0, 0, 0, 0, decide ((nameF x c.name).2 ≥ 0)⟩)
def dropF (x : IdxD) (c : CmdD) : IdxD × ReplyD :=
  if (nameF x c.name).2 < 0 then (x, .zero) else (⟨x.vols, x.names.take (nameF x c.name).2.toNat ++ x.names.drop ((nameF x c.name).2.toNat + 1), x.last⟩, ⟨0, 0, 0, 0, 0, true⟩)
def getF (x : IdxD) (c : CmdD) : IdxD × ReplyD :=
  if (nameF x c.name).2 < 0 then (x, .zero) else (x, ⟨0, (nameF x c.name).1.vol, (nameF x c.name).1.off, (nameF x c.name).1.n, (nameF x c.name).1.sum, true⟩)
def lockF (x : IdxD) (c : CmdD) : IdxD × ReplyD :=
  if (volF x c.vol).2 < 0 then (x, noR 7) else if (volF x c.vol).1.phase ≠ 1 then (x, noR 9)
  else (⟨setL x.vols (volF x c.vol).2 { (volF x c.vol).1 with phase := 2 }, x.names, x.last⟩, ⟨0, (volF x c.vol).1.id, 0, 0, 0, false⟩)
def sealF (x : IdxD) (c : CmdD) : IdxD × ReplyD :=
  if (volF x c.vol).2 < 0 then (x, noR 7) else if (volF x c.vol).1.phase ≠ 2 then (x, noR 9) else if wholeF c.places (volF x c.vol).1.home = false then (x, noR 1)
  else (⟨setL x.vols (volF x c.vol).2 { (volF x c.vol).1 with phase := 3, places := c.places }, x.names, x.last⟩, ⟨0, (volF x c.vol).1.id, 0, 0, 0, false⟩)
def sumId (a b : Int) : Int := bop .add .i64 (bop .add .i64 1000 (bop .mul .i64 64 a)) b
def pairF (x : IdxD) (c : CmdD) : IdxD × ReplyD :=
  if (volF x c.vol).2 < 0 ∨ (volF x c.mate).2 < 0 then (x, noR 7) else if (volF x c.vol).1.phase ≠ 3 ∨ (volF x c.mate).1.phase ≠ 3 ∨ (volF x c.vol).1.home = (volF x c.mate).1.home then (x, noR 9)
  else if (thirdF (volF x c.vol).1.home (volF x c.mate).1.home).2 ≠ 0 ∨ wholeF c.places (thirdF (volF x c.vol).1.home (volF x c.mate).1.home).1 = false then (x, noR 1) else if 48 ≤ x.vols.length then (x, noR 5)
  else (⟨setL (setL x.vols (volF x c.vol).2 { (volF x c.vol).1 with phase := 4, pair := (volF x c.mate).1.id, sum := sumId (volF x c.vol).1.id (volF x c.mate).1.id }) (volF x c.mate).2 { (volF x c.mate).1 with phase := 4, pair := (volF x c.vol).1.id, sum := sumId (volF x c.vol).1.id (volF x c.mate).1.id }
      ++ [⟨sumId (volF x c.vol).1.id (volF x c.mate).1.id, (thirdF (volF x c.vol).1.home (volF x c.mate).1.home).1, 0, 0, 5, [], c.places, (volF x c.vol).1.id, (volF x c.mate).1.id⟩], x.names, x.last⟩, ⟨0, sumId (volF x c.vol).1.id (volF x c.mate).1.id, 0, 0, 0, false⟩)
def moveF (x : IdxD) (c : CmdD) : IdxD × ReplyD :=
  if (volF x c.vol).2 < 0 then (x, noR 7) else if (volF x c.vol).1.phase < 3 then (x, noR 9)
  else if c.idx ≥ (volF x c.vol).1.places.length ∨ c.places.length ≠ 1 ∨ (c.places.headD ⟨0, 0⟩).r ≠ (volF x c.vol).1.home ∨ (volF x c.vol).1.places.any (fun p => decide (c.places.headD ⟨0, 0⟩ = p)) = true then (x, noR 1)
  else (⟨setL x.vols (volF x c.vol).2 { (volF x c.vol).1 with places := setL (volF x c.vol).1.places c.idx (c.places.headD ⟨0, 0⟩) }, x.names, x.last⟩, ⟨0, (volF x c.vol).1.id, 0, c.idx, 0, false⟩)
def doesF (x : IdxD) (c : CmdD) : IdxD × ReplyD :=
  if c.kind = 1 then openF x c else if c.kind = 2 then reserveF x c else if c.kind = 3 then putF x c else if c.kind = 4 then dropF x c else if c.kind = 5 then getF x c else if c.kind = 6 then lockF x c else if c.kind = 7 then sealF x c else if c.kind = 8 then pairF x c else moveF x c
def doF (x : IdxD) (c : CmdD) : IdxD × ReplyD :=
  if mayF c = false then (x, noR 1) else if 0 < c.client ∧ 0 ≤ (lastF x c.client).2 ∧ (lastF x c.client).1.seq = c.seq then (x, (lastF x c.client).1.reply) else if 0 < c.client ∧ 0 ≤ (lastF x c.client).2 ∧ (lastF x c.client).1.seq > c.seq then (x, noR 9)
  else if 0 < c.client then (⟨(doesF x c).1.vols, (doesF x c).1.names, setL (doesF x c).1.last (lastF (doesF x c).1 c.client).2 ⟨c.client, c.seq, (doesF x c).2⟩⟩, (doesF x c).2) else doesF x c
end Go.Proofs
