/- The laws of single operations: moves, whole numbers, bools, strings, fields. No condition. -/
import Derived.Test.YtajlkpogccbboaaHgE
import Derived.Laws.StructEq
set_option linter.unusedVariables false
set_option linter.unusedSimpArgs false
namespace Go.Hg
open Go.RowKit

section
variable {P : Program} {env : Env} {H : Heap} {d : Option Tmp} {ty : TypeId} {ps : String} {af : Array Edge} {gd : Option (Nat × Bool)}

theorem lop_move {x : Operand} {v : V} (hx : ev (get env) x = v) : LOp P ⟨d, .move x, ty, ps, af, gd⟩ env H [] v [] [] :=
  lop_pure fun w ok G ρ h => ⟨ρ x, rfl, by have := h x (by simp [Op.operands]); rwa [hx] at this⟩
theorem lop_assign {x : Operand} {v : V} (hx : ev (get env) x = v) : LOp P ⟨d, .assign x, ty, ps, af, gd⟩ env H [] v [] [] :=
  lop_pure fun w ok G ρ h => ⟨ρ x, rfl, by have := h x (by simp [Op.operands]); rwa [hx] at this⟩
theorem lop_pick_t {c x y : Operand} {b : Bool} {v : V} (hc : ev (get env) c = .bool b) (hb : b = true) (hx : ev (get env) x = v) : LOp P ⟨d, .pick c x y, ty, ps, af, gd⟩ env H [] v [] [] :=
  lop_pure fun w ok G ρ h => ⟨ρ x, by
    have := h c (by simp [Op.operands])
    rw [hc] at this
    simp only [Rep] at this
    simp [execOp, this, asBool, hb], by have := h x (by simp [Op.operands]); rwa [hx] at this⟩
theorem lop_pick_f {c x y : Operand} {b : Bool} {v : V} (hc : ev (get env) c = .bool b) (hb : b = false) (hy : ev (get env) y = v) : LOp P ⟨d, .pick c x y, ty, ps, af, gd⟩ env H [] v [] [] :=
  lop_pure fun w ok G ρ h => ⟨ρ y, by
    have := h c (by simp [Op.operands])
    rw [hc] at this
    simp only [Rep] at this
    simp [execOp, this, asBool, hb], by have := h y (by simp [Op.operands]); rwa [hy] at this⟩
/-- Two bools picked from: the outcome undecided. -/
theorem lop_pick {c x y : Operand} {b p q : Bool} (hc : ev (get env) c = .bool b) (hx : ev (get env) x = .bool p) (hy : ev (get env) y = .bool q) : LOp P ⟨d, .pick c x y, ty, ps, af, gd⟩ env H [] (.bool (bif b then p else q)) [] [] :=
  lop_pure fun w ok G ρ h => ⟨.bool (bif b then p else q), by
    have h1 := h c (by simp [Op.operands])
    have h2 := h x (by simp [Op.operands])
    have h3 := h y (by simp [Op.operands])
    rw [hc] at h1
    rw [hx] at h2
    rw [hy] at h3
    simp only [Rep] at h1 h2 h3
    cases b <;> simp [execOp, h1, h2, h3, asBool], by simp [Rep]⟩

/-! ### whole numbers -/
def bop (op : BinOp) (k : IntKind) (a b : Int) : Int :=
  match op with
  | .add => k.wrap (a + b)
  | .sub => k.wrap (a - b)
  | .mul => k.wrap (a * b)
  | .and => k.wrap ((BitVec.ofInt k.bits a &&& BitVec.ofInt k.bits b).toNat : Int)
  | .or => k.wrap ((BitVec.ofInt k.bits a ||| BitVec.ofInt k.bits b).toNat : Int)
  | .xor => k.wrap ((BitVec.ofInt k.bits a ^^^ BitVec.ofInt k.bits b).toNat : Int)
  | .andNot => k.wrap ((BitVec.ofInt k.bits a &&& ~~~ BitVec.ofInt k.bits b).toNat : Int)
  | _ => 0
def isBop : BinOp → Bool
  | .add | .sub | .mul | .and | .or | .xor | .andNot => true
  | _ => false
theorem two_ints {x y : Operand} {k k' : IntKind} {a b : Int} {op : BinOp} {T T' : TypeId} (hx : ev (get env) x = .int k a) (hy : ev (get env) y = .int k' b) {w : World} {ok : Nat → Prop} {G : Nat → Option Nat} {ρ : Operand → Value}
    (h : ∀ z ∈ (Op.binOp op T x y T').operands, Rep w ok G (ev (get env) z) true (ρ z)) : ρ x = .int k a ∧ ρ y = .int k' b := by
  have h1 := h x (by simp [Op.operands])
  have h2 := h y (by simp [Op.operands])
  rw [hx] at h1
  rw [hy] at h2
  simp only [Rep] at h1 h2
  exact ⟨h1, h2⟩
theorem lop_bop {op : BinOp} {x y : Operand} {k : IntKind} {a b c : Int} {T T' : TypeId} (hx : ev (get env) x = .int k a) (hy : ev (get env) y = .int k b) (hop : isBop op = true) (hc : bop op k a b = c) :
    LOp P ⟨d, .binOp op T x y T', ty, ps, af, gd⟩ env H [] (.int k c) [] [] :=
  lop_pure fun w ok G ρ h => by
    obtain ⟨h1, h2⟩ := two_ints hx hy h
    subst hc
    refine ⟨.int k (bop op k a b), ?_, by simp [Rep]⟩
    cases op <;> first
      | (simp [isBop] at hop; done)
      | simp [execOp, h1, h2, eqGuard, binOp, Op.intArith, Op.intBits, bop]
theorem lop_shl {x y : Operand} {k k' : IntKind} {a b c : Int} {T T' : TypeId} (hx : ev (get env) x = .int k a) (hy : ev (get env) y = .int k' b) (hb : 0 ≤ b) (hc : k.wrap (a * 2 ^ min b.toNat k.bits) = c) :
    LOp P ⟨d, .binOp .shl T x y T', ty, ps, af, gd⟩ env H [] (.int k c) [] [] :=
  lop_pure fun w ok G ρ h => by
    obtain ⟨h1, h2⟩ := two_ints hx hy h
    subst hc
    exact ⟨.int k (k.wrap (a * 2 ^ min b.toNat k.bits)), by simp [execOp, h1, h2, eqGuard, binOp, Op.shift, Int.not_lt.2 hb], by simp [Rep]⟩
theorem lop_shr {x y : Operand} {k k' : IntKind} {a b c : Int} {T T' : TypeId} (hx : ev (get env) x = .int k a) (hy : ev (get env) y = .int k' b) (hb : 0 ≤ b) (hc : a.fdiv (2 ^ min b.toNat k.bits) = c) :
    LOp P ⟨d, .binOp .shr T x y T', ty, ps, af, gd⟩ env H [] (.int k c) [] [] :=
  lop_pure fun w ok G ρ h => by
    obtain ⟨h1, h2⟩ := two_ints hx hy h
    subst hc
    exact ⟨.int k (a.fdiv (2 ^ min b.toNat k.bits)), by simp [execOp, h1, h2, eqGuard, binOp, Op.shift, Int.not_lt.2 hb], by simp [Rep]⟩
theorem lop_quo {x y : Operand} {k : IntKind} {a b c : Int} {T T' : TypeId} (hx : ev (get env) x = .int k a) (hy : ev (get env) y = .int k b) (hb : b ≠ 0) (hc : k.wrap (a.tdiv b) = c) :
    LOp P ⟨d, .binOp .quo T x y T', ty, ps, af, gd⟩ env H [] (.int k c) [] [] :=
  lop_pure fun w ok G ρ h => by
    obtain ⟨h1, h2⟩ := two_ints hx hy h
    subst hc
    exact ⟨.int k (k.wrap (a.tdiv b)), by simp [execOp, h1, h2, eqGuard, binOp, Op.intDiv, hb], by simp [Rep]⟩
theorem lop_rem {x y : Operand} {k : IntKind} {a b c : Int} {T T' : TypeId} (hx : ev (get env) x = .int k a) (hy : ev (get env) y = .int k b) (hb : b ≠ 0) (hc : a.tmod b = c) :
    LOp P ⟨d, .binOp .rem T x y T', ty, ps, af, gd⟩ env H [] (.int k c) [] [] :=
  lop_pure fun w ok G ρ h => by
    obtain ⟨h1, h2⟩ := two_ints hx hy h
    subst hc
    exact ⟨.int k (a.tmod b), by simp [execOp, h1, h2, eqGuard, binOp, Op.intDiv, hb], by simp [Rep]⟩
theorem lop_lss {x y : Operand} {k : IntKind} {a b : Int} {T T' : TypeId} (hx : ev (get env) x = .int k a) (hy : ev (get env) y = .int k b) : LOp P ⟨d, .binOp .lss T x y T', ty, ps, af, gd⟩ env H [] (.bool (decide (a < b))) [] [] :=
  lop_pure fun w ok G ρ h => by
    obtain ⟨h1, h2⟩ := two_ints hx hy h
    exact ⟨.bool (decide (a < b)), by simp [execOp, h1, h2, eqGuard, binOp, Op.intCmp], by simp [Rep]⟩
theorem lop_leq {x y : Operand} {k : IntKind} {a b : Int} {T T' : TypeId} (hx : ev (get env) x = .int k a) (hy : ev (get env) y = .int k b) : LOp P ⟨d, .binOp .leq T x y T', ty, ps, af, gd⟩ env H [] (.bool (decide (a ≤ b))) [] [] :=
  lop_pure fun w ok G ρ h => by
    obtain ⟨h1, h2⟩ := two_ints hx hy h
    exact ⟨.bool (decide (a ≤ b)), by simp [execOp, h1, h2, eqGuard, binOp, Op.intCmp], by simp [Rep]⟩
theorem lop_gtr {x y : Operand} {k : IntKind} {a b : Int} {T T' : TypeId} (hx : ev (get env) x = .int k a) (hy : ev (get env) y = .int k b) : LOp P ⟨d, .binOp .gtr T x y T', ty, ps, af, gd⟩ env H [] (.bool (decide (b < a))) [] [] :=
  lop_pure fun w ok G ρ h => by
    obtain ⟨h1, h2⟩ := two_ints hx hy h
    exact ⟨.bool (decide (b < a)), by simp [execOp, h1, h2, eqGuard, binOp, Op.intCmp], by simp [Rep]⟩
theorem lop_geq {x y : Operand} {k : IntKind} {a b : Int} {T T' : TypeId} (hx : ev (get env) x = .int k a) (hy : ev (get env) y = .int k b) : LOp P ⟨d, .binOp .geq T x y T', ty, ps, af, gd⟩ env H [] (.bool (decide (b ≤ a))) [] [] :=
  lop_pure fun w ok G ρ h => by
    obtain ⟨h1, h2⟩ := two_ints hx hy h
    exact ⟨.bool (decide (b ≤ a)), by simp [execOp, h1, h2, eqGuard, binOp, Op.intCmp], by simp [Rep]⟩
theorem lop_eql {x y : Operand} {k : IntKind} {a b : Int} {T T' : TypeId} (hx : ev (get env) x = .int k a) (hy : ev (get env) y = .int k b) : LOp P ⟨d, .binOp .eql T x y T', ty, ps, af, gd⟩ env H [] (.bool (decide (a = b))) [] [] :=
  lop_pure fun w ok G ρ h => by
    obtain ⟨h1, h2⟩ := two_ints hx hy h
    refine ⟨.bool (a == b), by simp [execOp, h1, h2, eqGuard, binOp, Op.intCmp], by simp only [Rep]; rfl⟩
theorem lop_neq {x y : Operand} {k : IntKind} {a b : Int} {T T' : TypeId} (hx : ev (get env) x = .int k a) (hy : ev (get env) y = .int k b) : LOp P ⟨d, .binOp .neq T x y T', ty, ps, af, gd⟩ env H [] (.bool (decide (a ≠ b))) [] [] :=
  lop_pure fun w ok G ρ h => by
    obtain ⟨h1, h2⟩ := two_ints hx hy h
    refine ⟨.bool (a != b), by simp [execOp, h1, h2, eqGuard, binOp, Op.intCmp], ?_⟩
    simp only [Rep]
    by_cases e : a = b <;> simp [e]
theorem one_int {x : Operand} {k : IntKind} {a : Int} {op : Op} (hx : ev (get env) x = .int k a) {w : World} {ok : Nat → Prop} {G : Nat → Option Nat} {ρ : Operand → Value}
    (h : ∀ z ∈ op.operands, Rep w ok G (ev (get env) z) true (ρ z)) (hm : x ∈ op.operands) : ρ x = .int k a := by
  have h1 := h x hm
  rw [hx] at h1
  simpa only [Rep] using h1
theorem lop_neg {x : Operand} {k : IntKind} {a c : Int} {T : TypeId} (hx : ev (get env) x = .int k a) (hc : k.wrap (0 - a) = c) : LOp P ⟨d, .unOp .neg T x, ty, ps, af, gd⟩ env H [] (.int k c) [] [] :=
  lop_pure fun w ok G ρ h => by
    have h1 := one_int hx h (by simp [Op.operands])
    subst hc
    exact ⟨.int k (k.wrap (0 - a)), by simp [execOp, h1, Op.unary, Op.intArith], by simp [Rep]⟩
theorem lop_not {x : Operand} {b : Bool} {T : TypeId} (hx : ev (get env) x = .bool b) : LOp P ⟨d, .unOp .not T x, ty, ps, af, gd⟩ env H [] (.bool (!b)) [] [] :=
  lop_pure fun w ok G ρ h => by
    have h1 := h x (by simp [Op.operands])
    rw [hx] at h1
    simp only [Rep] at h1
    exact ⟨.bool (!b), by simp [execOp, h1, Op.unary], by simp [Rep]⟩
theorem lop_conv {x : Operand} {k k' : IntKind} {a c : Int} {T T' : TypeId} {dd : TypeDesc} (hx : ev (get env) x = .int k a) (h1 : P.underlying T = some dd) (h2 : P.underlying T' = some (.int k')) (hc : k'.wrap a = c) :
    LOp P ⟨d, .convert T T' x, ty, ps, af, gd⟩ env H [] (.int k' c) [] [] :=
  lop_pure fun w ok G ρ h => by
    have h3 := one_int hx h (by simp [Op.operands])
    subst hc
    exact ⟨.int k' (k'.wrap a), by simp [execOp, h3, convert, run_underlying h1, run_underlying h2, Conv.intToInt], by simp [Rep]⟩
theorem lop_convs {x : Operand} {s : ByteArray} {T T' : TypeId} (hx : ev (get env) x = .str s) (h1 : P.underlying T = some .string) (h2 : P.underlying T' = some .string) :
    LOp P ⟨d, .convert T T' x, ty, ps, af, gd⟩ env H [] (.str s) [] [] :=
  lop_pure fun w ok G ρ h => by
    have h3 := h x (by simp [Op.operands])
    rw [hx] at h3
    simp only [Rep] at h3
    exact ⟨.string s, by simp [execOp, h3, convert, run_underlying h1, run_underlying h2], by simp [Rep]⟩

/-! ### bools, strings, structs compared -/
theorem lop_beql {x y : Operand} {a b : Bool} {T T' : TypeId} (hx : ev (get env) x = .bool a) (hy : ev (get env) y = .bool b) (hT : P.underlying T = some .bool) : LOp P ⟨d, .binOp .eql T x y T', ty, ps, af, gd⟩ env H [] (.bool (decide (a = b))) [] [] :=
  lop_pure fun w ok G ρ h => by
    have h1 := h x (by simp [Op.operands])
    have h2 := h y (by simp [Op.operands])
    rw [hx] at h1
    rw [hy] at h2
    simp only [Rep] at h1 h2
    refine ⟨.bool (a == b), ?_, by simp only [Rep]; rfl⟩
    have h9 : (Op.equalIn 10000 T (.bool a) (.bool b)).run P w = .ok (a == b) w := run_equalIn_bool' w 9999 T a b hT
    have h8 : (binOp .eql T (.bool a) (.bool b)).run P w = .ok (.bool (a == b)) w := by
      simp only [binOp, Op.equal, Op.maxDepth, Sem.run_bind, h9, Result.andThen_ok, Sem.run_pure]
    have h7 : (eqGuard .eql T x y (.bool a) (.bool b)).run P w = .ok () w := by simp [eqGuard]
    simp only [execOp, h1, h2, Sem.run_bind, h7, h8, Result.andThen_ok, Sem.run_pure]
theorem lop_bneq {x y : Operand} {a b : Bool} {T T' : TypeId} (hx : ev (get env) x = .bool a) (hy : ev (get env) y = .bool b) (hT : P.underlying T = some .bool) : LOp P ⟨d, .binOp .neq T x y T', ty, ps, af, gd⟩ env H [] (.bool (decide (a ≠ b))) [] [] :=
  lop_pure fun w ok G ρ h => by
    have h1 := h x (by simp [Op.operands])
    have h2 := h y (by simp [Op.operands])
    rw [hx] at h1
    rw [hy] at h2
    simp only [Rep] at h1 h2
    refine ⟨.bool (!(a == b)), ?_, by simp only [Rep]; cases a <;> cases b <;> rfl⟩
    have h9 : (Op.equalIn 10000 T (.bool a) (.bool b)).run P w = .ok (a == b) w := run_equalIn_bool' w 9999 T a b hT
    have h8 : (binOp .neq T (.bool a) (.bool b)).run P w = .ok (.bool (!(a == b))) w := by
      simp only [binOp, Op.equal, Op.maxDepth, Sem.run_bind, h9, Result.andThen_ok, Sem.run_pure]
    have h7 : (eqGuard .neq T x y (.bool a) (.bool b)).run P w = .ok () w := by simp [eqGuard]
    simp only [execOp, h1, h2, Sem.run_bind, h7, h8, Result.andThen_ok, Sem.run_pure]
theorem two_strs {x y : Operand} {a b : ByteArray} {op : BinOp} {T T' : TypeId} (hx : ev (get env) x = .str a) (hy : ev (get env) y = .str b) {w : World} {ok : Nat → Prop} {G : Nat → Option Nat} {ρ : Operand → Value}
    (h : ∀ z ∈ (Op.binOp op T x y T').operands, Rep w ok G (ev (get env) z) true (ρ z)) : ρ x = .string a ∧ ρ y = .string b := by
  have h1 := h x (by simp [Op.operands])
  have h2 := h y (by simp [Op.operands])
  rw [hx] at h1
  rw [hy] at h2
  simp only [Rep] at h1 h2
  exact ⟨h1, h2⟩
theorem toList_inj (a b : ByteArray) : (a.toList == b.toList) = decide (a = b) := by
  rw [ByteArray.toList_eq, ByteArray.toList_eq]
  obtain ⟨⟨x⟩⟩ := a
  obtain ⟨⟨y⟩⟩ := b
  by_cases h : x = y
  · subst h; simp
  · have : ¬ ((⟨⟨x⟩⟩ : ByteArray) = ⟨⟨y⟩⟩) := fun e => h (by injection e with e; injection e)
    simp [h, this]
theorem lop_seql {x y : Operand} {a b : ByteArray} {T T' : TypeId} (hx : ev (get env) x = .str a) (hy : ev (get env) y = .str b) : LOp P ⟨d, .binOp .eql T x y T', ty, ps, af, gd⟩ env H [] (.bool (decide (a = b))) [] [] :=
  lop_pure fun w ok G ρ h => by
    obtain ⟨h1, h2⟩ := two_strs hx hy h
    exact ⟨.bool (a.toList == b.toList), by simp [execOp, h1, h2, eqGuard, binOp, Op.stringOp], by simp only [Rep]; rw [toList_inj]⟩
theorem lop_sneq {x y : Operand} {a b : ByteArray} {T T' : TypeId} (hx : ev (get env) x = .str a) (hy : ev (get env) y = .str b) : LOp P ⟨d, .binOp .neq T x y T', ty, ps, af, gd⟩ env H [] (.bool (decide (a ≠ b))) [] [] :=
  lop_pure fun w ok G ρ h => by
    obtain ⟨h1, h2⟩ := two_strs hx hy h
    exact ⟨.bool (!(a.toList == b.toList)), by simp [execOp, h1, h2, eqGuard, binOp, Op.stringOp], by simp only [Rep]; rw [toList_inj]; by_cases e : a = b <;> simp [e]⟩
/-- Go's order of strings. -/
def slt (a b : ByteArray) : Bool := Op.bytesLess a.data.toList b.data.toList
theorem toList_data (a : ByteArray) : a.toList = a.data.toList := ByteArray.toList_eq a
theorem lop_slss {x y : Operand} {a b : ByteArray} {T T' : TypeId} (hx : ev (get env) x = .str a) (hy : ev (get env) y = .str b) : LOp P ⟨d, .binOp .lss T x y T', ty, ps, af, gd⟩ env H [] (.bool (slt a b)) [] [] :=
  lop_pure fun w ok G ρ h => by
    obtain ⟨h1, h2⟩ := two_strs hx hy h
    exact ⟨.bool (Op.bytesLess a.toList b.toList), by simp [execOp, h1, h2, eqGuard, binOp, Op.stringOp], by simp only [Rep]; rw [toList_data, toList_data]; rfl⟩
theorem lop_sgtr {x y : Operand} {a b : ByteArray} {T T' : TypeId} (hx : ev (get env) x = .str a) (hy : ev (get env) y = .str b) : LOp P ⟨d, .binOp .gtr T x y T', ty, ps, af, gd⟩ env H [] (.bool (!(slt a b || decide (a = b)))) [] [] :=
  lop_pure fun w ok G ρ h => by
    obtain ⟨h1, h2⟩ := two_strs hx hy h
    exact ⟨.bool (!(Op.bytesLess a.toList b.toList || a.toList == b.toList)), by simp [execOp, h1, h2, eqGuard, binOp, Op.stringOp], by simp only [Rep]; rw [toList_inj, toList_data, toList_data]; rfl⟩
theorem lop_sgeq {x y : Operand} {a b : ByteArray} {T T' : TypeId} (hx : ev (get env) x = .str a) (hy : ev (get env) y = .str b) : LOp P ⟨d, .binOp .geq T x y T', ty, ps, af, gd⟩ env H [] (.bool (!slt a b)) [] [] :=
  lop_pure fun w ok G ρ h => by
    obtain ⟨h1, h2⟩ := two_strs hx hy h
    exact ⟨.bool (!(Op.bytesLess a.toList b.toList)), by simp [execOp, h1, h2, eqGuard, binOp, Op.stringOp], by simp only [Rep]; rw [toList_data, toList_data]; rfl⟩
theorem lop_sadd {x y : Operand} {a b : ByteArray} {T T' : TypeId} (hx : ev (get env) x = .str a) (hy : ev (get env) y = .str b) (hl : a.size + b.size ≤ 9223372036854775807) : LOp P ⟨d, .binOp .add T x y T', ty, ps, af, gd⟩ env H [] (.str (a ++ b)) [] [] :=
  lop_pure fun w ok G ρ h => by
    obtain ⟨h1, h2⟩ := two_strs hx hy h
    have hn : ¬ (((a.size + b.size : Nat) : Int) > IntKind.i64.max) := by
      simp only [IntKind.max]
      simp [IntKind.bits, IntKind.signed]
      omega
    refine ⟨.string (a ++ b), ?_, by simp [Rep]⟩
    simp only [execOp, h1, h2, eqGuard, binOp, Op.stringOp]
    rw [if_neg hn]
    simp
/-- What a value of numbers, bools and strings is. -/
def valC : V → Value
  | .bool b => .bool b
  | .int k n => .int k n
  | .str s => .string s
  | _ => .nilIface
theorem RepL.valC {w : World} {ok : Nat → Prop} {G : Nat → Option Nat} {tk : Bool} : ∀ {cs : List V} {us : List Value}, scalL cs = true → RepL w ok G cs tk us → us = cs.map Hg.valC
  | [], us, _, h => by simpa [RepL] using h
  | v :: vs, us, hs, h => by
    simp only [scalL, Bool.and_eq_true] at hs
    simp only [RepL] at h
    obtain ⟨u, us', rfl, _, h3, h4⟩ := h
    rw [RepL.valC hs.2 h4]
    cases v <;> first | (simp [Hg.scal] at hs; done) | (simp only [Rep] at h3; simp [h3, Hg.valC])
theorem lop_aeql {x y : Operand} {cs ds : List V} {b : Bool} {T T' : TypeId} (hx : ev (get env) x = .agg cs) (hy : ev (get env) y = .agg ds) (h1 : scalL cs = true) (h2 : scalL ds = true) (hg : P.eqGuardType P.depth T = false)
    (he : ∀ w, (binOp .eql T (.agg (cs.map valC).toArray) (.agg (ds.map valC).toArray)).run P w = .ok (.bool b) w) : LOp P ⟨d, .binOp .eql T x y T', ty, ps, af, gd⟩ env H [] (.bool b) [] [] :=
  lop_pure fun w ok G ρ h => by
    have h3 := h x (by simp [Op.operands])
    have h4 := h y (by simp [Op.operands])
    rw [hx] at h3
    rw [hy] at h4
    simp only [Rep] at h3 h4
    obtain ⟨us, h5, h6⟩ := h3
    obtain ⟨vs, h7, h8⟩ := h4
    rw [RepL.valC h1 h6] at h5
    rw [RepL.valC h2 h8] at h7
    exact ⟨.bool b, by simp [execOp, h5, h7, eqGuard, hg, he], by simp [Rep]⟩
theorem lop_aneq {x y : Operand} {cs ds : List V} {b : Bool} {T T' : TypeId} (hx : ev (get env) x = .agg cs) (hy : ev (get env) y = .agg ds) (h1 : scalL cs = true) (h2 : scalL ds = true) (hg : P.eqGuardType P.depth T = false)
    (he : ∀ w, (binOp .neq T (.agg (cs.map valC).toArray) (.agg (ds.map valC).toArray)).run P w = .ok (.bool b) w) : LOp P ⟨d, .binOp .neq T x y T', ty, ps, af, gd⟩ env H [] (.bool b) [] [] :=
  lop_pure fun w ok G ρ h => by
    have h3 := h x (by simp [Op.operands])
    have h4 := h y (by simp [Op.operands])
    rw [hx] at h3
    rw [hy] at h4
    simp only [Rep] at h3 h4
    obtain ⟨us, h5, h6⟩ := h3
    obtain ⟨vs, h7, h8⟩ := h4
    rw [RepL.valC h1 h6] at h5
    rw [RepL.valC h2 h8] at h7
    exact ⟨.bool b, by simp [execOp, h5, h7, eqGuard, hg, he], by simp [Rep]⟩

/-! ### a byte of a string; a part of a tuple, of a struct -/
def sb (s : ByteArray) (i : Nat) : Int := ((s.data.toList.getD i 0).toNat : Int)
theorem lop_index {x y : Operand} {s : ByteArray} {k : IntKind} {z : Int} {i : Nat} {T : TypeId} (hx : ev (get env) x = .str s) (hy : ev (get env) y = .int k z) (hT : P.underlying T = some .string) (hz : z = (i : Int)) (hi : i < s.size) :
    LOp P ⟨d, .index T x y, ty, ps, af, gd⟩ env H [] (.int .u8 (sb s i)) [] [] :=
  lop_pure fun w ok G ρ h => by
    have h1 := h x (by simp [Op.operands])
    have h2 := h y (by simp [Op.operands])
    rw [hx] at h1
    rw [hy] at h2
    simp only [Rep] at h1 h2
    subst hz
    have hg : s[i]? = some (s[i]'hi) := by simp [hi]
    refine ⟨.int .u8 ((s[i]'hi).toNat : Int), ?_, ?_⟩
    · simp [execOp, h1, h2, Instr.index, asIntOf, run_underlying hT, hg]
    · simp only [Rep, sb]
      have : s.data.toList.getD i 0 = s[i]'hi := by
        have hlt : i < s.data.toList.length := by simpa using hi
        rw [List.getD_eq_getElem?_getD, List.getElem?_eq_getElem hlt]
        rfl
      rw [this]
theorem lop_extract {x : Operand} {vs : List V} {i : Nat} {v : V} (hx : ev (get env) x = .tup vs) (hi : vs[i]? = some v) : LOp P ⟨d, .extract x i, ty, ps, af, gd⟩ env H [] v [] [] :=
  lop_pure fun w ok G ρ h => by
    have h1 := h x (by simp [Op.operands])
    rw [hx] at h1
    simp only [Rep] at h1
    obtain ⟨us, h2, h3⟩ := h1
    obtain ⟨u, h4, h5⟩ := h3.get i hi
    exact ⟨u, by simp [execOp, h2, Instr.extract, h4], h5⟩
theorem lop_field_one {x : Operand} {cs : List V} {i off fT : Nat} {v : V} {T : TypeId} {fs : Array Field} {f : Field} (hx : ev (get env) x = .agg cs) (hT : P.underlying T = some (.struct fs)) (hf : fs[i]? = some f) (hft : f.type = fT) (hfo : f.offset = off)
    (hagg : ∀ w, (isAgg fT).run P w = .ok false w) (hv : cs[off]? = some v) : LOp P ⟨d, .field T x i, ty, ps, af, gd⟩ env H [] v [] [] :=
  lop_pure fun w ok G ρ h => by
    have h1 := h x (by simp [Op.operands])
    rw [hx] at h1
    simp only [Rep] at h1
    obtain ⟨us, h2, h3⟩ := h1
    obtain ⟨u, h4, _, h5⟩ := h3.get off hv
    subst hft
    subst hfo
    exact ⟨u, by simp [execOp, h2, Instr.field, run_underlying hT, hf, asAgg, part, hagg, h4], h5⟩
theorem lop_field_agg {x : Operand} {cs ys : List V} {i off n fT : Nat} {T : TypeId} {fs : Array Field} {f : Field} (hx : ev (get env) x = .agg cs) (hT : P.underlying T = some (.struct fs)) (hf : fs[i]? = some f) (hft : f.type = fT) (hfo : f.offset = off)
    (hagg : ∀ w, (isAgg fT).run P w = .ok true w) (hsz : ∀ w, (sizeOf fT).run P w = .ok n w) (hy : (cs.drop off).take n = ys) : LOp P ⟨d, .field T x i, ty, ps, af, gd⟩ env H [] (.agg ys) [] [] :=
  lop_pure fun w ok G ρ h => by
    have h1 := h x (by simp [Op.operands])
    rw [hx] at h1
    simp only [Rep] at h1
    obtain ⟨us, h2, h3⟩ := h1
    subst hft
    subst hfo
    subst hy
    refine ⟨.agg ((us.drop f.offset).take n).toArray, ?_, by simp only [Rep]; exact ⟨_, rfl, (h3.drop f.offset).take n⟩⟩
    simp only [execOp, h2, Instr.field, Sem.run_bind, run_underlying hT, Result.andThen_ok, hf, asAgg, part, hagg, hsz, Sem.run_pure, if_true]
    congr 3
    apply Array.ext'
    simp [List.drop_take]

/-! ### lengths, functions, checks -/
theorem lop_len {x : Operand} {v : V} {n : Nat} {T : TypeId} {dd : TypeDesc} (hx : ev (get env) x = v) (hT : P.underlying T = some dd) (hv : match v with | .str s => dd = .string ∧ s.size = n | .sl m _ => (∃ e, dd = .slice e) ∧ m = n | .os _ _ _ m => (∃ e, dd = .slice e) ∧ m = n | .z0 => (∃ e, dd = .slice e) ∧ n = 0 | _ => False) :
    LOp P ⟨d, .call { callee := .builtin .len, args := #[x], argTypes := #[T] }, ty, ps, af, gd⟩ env H [] (.int .i64 (n : Int)) [] [] :=
  lop_pure fun w ok G ρ h => by
    have h1 := h x (by simp [Op.operands, Call.operands])
    rw [hx] at h1
    refine ⟨.int .i64 (n : Int), ?_, by simp [Rep]⟩
    cases v with
    | str s =>
      obtain ⟨rfl, rfl⟩ := hv
      simp only [Rep] at h1
      simp [execOp, resolve, invoke, builtin, Builtin.len_, h1, run_underlying hT, goInt]
    | sl m cs =>
      obtain ⟨⟨e, rfl⟩, rfl⟩ := hv
      simp only [Rep] at h1
      obtain ⟨A, c, us, h1, _⟩ := h1
      simp [execOp, resolve, invoke, builtin, Builtin.len_, h1, run_underlying hT, goInt]
    | os t off sz m =>
      obtain ⟨⟨e, rfl⟩, rfl⟩ := hv
      simp only [Rep] at h1
      obtain ⟨_, ⟨b, c, o', cs, ty', fr, _, h1, _⟩ | ⟨_, rfl, A, h1⟩⟩ := h1
      · simp [execOp, resolve, invoke, builtin, Builtin.len_, h1, run_underlying hT, goInt]
      · simp [execOp, resolve, invoke, builtin, Builtin.len_, h1, run_underlying hT, goInt]
    | z0 =>
      obtain ⟨⟨e, rfl⟩, rfl⟩ := hv
      simp only [Rep] at h1
      obtain ⟨A, h1⟩ := h1
      simp [execOp, resolve, invoke, builtin, Builtin.len_, h1, run_underlying hT, goInt]
    | _ => exact hv.elim
theorem reps_list {w : World} {ok : Nat → Prop} {G : Nat → Option Nat} {ρ : Operand → Value} {e : EF} : ∀ (xs : List Operand), (∀ x ∈ xs, Rep w ok G (ev e x) true (ρ x)) → RepT w ok G (evs e xs) true (xs.map ρ)
  | [], _ => by simp [evs, RepT]
  | x :: xs, h => by
    simp only [evs, List.map_cons, RepT]
    exact ⟨_, _, rfl, h x (by simp), reps_list xs fun y hy => h y (by simp [hy])⟩
theorem lop_func {f : FuncId} {cap : Array Operand} {vs : List V} (hv : evs (get env) cap.toList = vs) : LOp P ⟨d, .makeFunc (.func f) #[] cap, ty, ps, af, gd⟩ env H [] (.fn f vs) [] [] :=
  lop_pure fun w ok G ρ h => by
    have h1 := reps_list (w := w) (ok := ok) (G := G) (ρ := ρ) (e := get env) cap.toList (fun x hx => h x (by simpa [Op.operands] using hx))
    rw [hv] at h1
    refine ⟨.func (.func f) #[] (cap.map ρ), by simp [execOp, Instr.makeFunc], by simp only [Rep]; exact ⟨cap.toList.map ρ, by simp [← Array.toList_map], h1⟩⟩
theorem lop_check {x : Operand} {v : V} (hx : ev (get env) x = v) (hv : match v with | .rf _ _ => True | .fp _ => True | .fn _ _ => True | _ => False) : LOp P ⟨d, .nilCheck x, ty, ps, af, gd⟩ env H [] v [] [] :=
  lop_pure fun w ok G ρ h => by
    have h1 := h x (by simp [Op.operands])
    rw [hx] at h1
    refine ⟨ρ x, ?_, h1⟩
    cases v with
    | rf t off =>
      simp only [Rep] at h1
      obtain ⟨_, b, _, h1⟩ := h1
      simp [execOp, h1]
    | fp cs =>
      simp only [Rep] at h1
      obtain ⟨A, us, h1, _⟩ := h1
      simp [execOp, h1]
    | fn f caps =>
      simp only [Rep] at h1
      obtain ⟨us, h1, _⟩ := h1
      simp [execOp, h1]
    | _ => exact hv.elim
theorem lop_max {x y : Operand} {k : IntKind} {a b : Int} {ats : Array TypeId} (hx : ev (get env) x = .int k a) (hy : ev (get env) y = .int k b) : LOp P ⟨d, .call { callee := .builtin .max, args := #[x, y], argTypes := ats }, ty, ps, af, gd⟩ env H [] (.int k (if b > a then b else a)) [] [] :=
  lop_pure fun w ok G ρ h => by
    have h1 := one_int hx h (by simp [Op.operands, Call.operands])
    have h2 := one_int hy h (by simp [Op.operands, Call.operands])
    exact ⟨.int k (if b > a then b else a), by simp [execOp, resolve, invoke, builtin, Builtin.max_, Builtin.max2, h1, h2], by simp [Rep]⟩
theorem lop_min {x y : Operand} {k : IntKind} {a b : Int} {ats : Array TypeId} (hx : ev (get env) x = .int k a) (hy : ev (get env) y = .int k b) : LOp P ⟨d, .call { callee := .builtin .min, args := #[x, y], argTypes := ats }, ty, ps, af, gd⟩ env H [] (.int k (if b < a then b else a)) [] [] :=
  lop_pure fun w ok G ρ h => by
    have h1 := one_int hx h (by simp [Op.operands, Call.operands])
    have h2 := one_int hy h (by simp [Op.operands, Call.operands])
    exact ⟨.int k (if b < a then b else a), by simp [execOp, resolve, invoke, builtin, Builtin.min_, Builtin.min2, h1, h2], by simp [Rep]⟩
end
end Go.Hg
