/- The laws of single operations: make, slicing, append, copy, strings and bytes. No condition. -/
import Derived.Test.YtajlkpogccbboaaHgH
import Derived.Lib.ConvBytes
import Derived.Laws.BytesArg
set_option linter.unusedVariables false
set_option linter.unusedSimpArgs false
namespace Go.Hg
open Go.RowKit

section
variable {P : Program} {env : Env} {H : Heap} {d : Option Tmp} {ty : TypeId} {ps : String} {af : Array Edge} {gd : Option (Nat × Bool)}

/-! ### make([]T, n) -/
theorem range_flat {z : Array Value} {sz : Nat} (hz : z.size = sz) (h0 : 0 < sz) : ∀ m, ((Array.range (m * sz)).map (z[· % z.size]!)).toList = (List.replicate m z.toList).flatten := by
  intro m
  apply List.ext_getElem?
  intro j
  rcases Nat.lt_or_ge j (m * sz) with hj | hj
  · have hq : j / sz < m := Nat.div_lt_of_lt_mul (by rwa [Nat.mul_comm])
    have hr : j % sz < sz := Nat.mod_lt _ h0
    have h8 : (List.replicate m z.toList).flatten[j]? = z.toList[j % sz]? := by
      induction m generalizing j with
      | zero => omega
      | succ m ih =>
        rw [List.replicate_succ, List.flatten_cons]
        rcases Nat.lt_or_ge j sz with h9 | h9
        · rw [List.getElem?_append_left (by simpa [hz] using h9), Nat.mod_eq_of_lt h9]
        · rw [List.getElem?_append_right (by simpa [hz] using h9)]
          simp only [Array.length_toList, hz]
          have h10 : (j - sz) % sz = j % sz := by
            conv => rhs; rw [← Nat.sub_add_cancel h9]
            simp
          have h11 : j - sz < m * sz := by rw [Nat.add_mul, Nat.one_mul] at hj; omega
          rw [ih (j - sz) h11 (Nat.div_lt_of_lt_mul (by rwa [Nat.mul_comm])) (Nat.mod_lt _ h0), h10]
    rw [h8]
    simp [hj, hz, hr]
  · rw [List.getElem?_eq_none (by simpa using hj), List.getElem?_eq_none (by simpa [hz] using hj)]
theorem repL_flat {w : World} {ok : Nat → Prop} {G : Nat → Option Nat} {tk : Bool} {cs : List V} {us : List Value} (h : RepL w ok G cs tk us) : ∀ m, RepL w ok G (List.replicate m cs).flatten tk (List.replicate m us).flatten
  | 0 => by simp [RepL]
  | m + 1 => by simpa [List.replicate_succ] using h.append (repL_flat h m)

theorem lop_make {x y : Operand} {T e t sz n : Nat} {k k' : IntKind} {a b : Int} {i : TypeInfo} {z : Value} {cs : List V} (hx : ev (get env) x = .int k a) (hy : ev (get env) y = .int k' b) (ha : a = (n : Int)) (hb : b = (n : Int)) (hT : P.underlying T = some (.slice e)) (hi : P.info? e = some i) (hz : i.zero = some z)
    (hs : i.size = sz) (h0 : 0 < sz) (hk : okC z = true) (hsol : (ofC z).solid = true) (htf : tf (ofC z) = true) (hzl : (ofC z).cells.length = sz) (hn : n * i.bytes ≤ 281474976710656) (hn63 : n ≤ 9223372036854775807) (hcs : (List.replicate n (ofC z).cells).flatten = cs) :
    LOp P ⟨d, .makeSlice T x y, ty, ps, af, gd⟩ env H [] (.os t 0 sz n) [(t, some (true, cs))] [t] :=
  lop_alloc (fun w ok G ρ h => by
    subst hcs
    have h1 := h x (by simp [Op.operands])
    have h2 := h y (by simp [Op.operands])
    rw [hx] at h1
    rw [hy] at h2
    simp only [Rep] at h1 h2
    subst ha
    subst hb
    have h3 : RepL w ok G (ofC z).cells false z.cells.toList := Rep.cellsL (Rep.ofC z hk) hsol
    have hzs : z.cells.size = sz := by rw [← hzl, ← h3.length]; simp
    have hb : (i.bytes : Int) * (n : Int) ≤ 281474976710656 := by
      have h : ((i.bytes * n : Nat) : Int) ≤ 281474976710656 := by rw [Nat.mul_comm]; omega
      rwa [Int.natCast_mul] at h
    have hr := run_make (P := P) w T e i z hT hi hz k k' n n (by omega) (by omega) hb (by omega)
    simp only [Int.toNat_natCast] at hr
    refine ⟨.slice (some ⟨w.heap.size, 0, none⟩) n n, (List.replicate n z.cells.toList).flatten, [], e, (0, 0), 0, ?_, repL_flat h3 n, by simp, by simp, fun w' G' h8 h9 => ?_⟩
    · have hm : madeCells z.cells (n * i.size) = (List.replicate n z.cells.toList).flatten.toArray := by
        apply Array.ext'
        rw [hs]
        exact range_flat hzs h0 n
      simp only [execOp, h1, h2, Sem.run_bind, hr, Result.andThen_ok, Sem.run_pure, World.drewN_zero, hm, List.append_nil]
    · simp only [Rep]
      refine ⟨trivial, .inl ⟨w.heap.size, n, 0, _, e, (0, 0), h9, rfl, Nat.le_refl _, h0, h8, ?_, .inr rfl⟩⟩
      simp [hzs, Nat.mul_comm]) (fun h => by cases h)

/-! ### slicing -/
theorem run_sliceBound_nat {k : IntKind} {i y : Nat} {code : BoundsCode} (h : i ≤ y) (w : World) : (Instr.sliceBound (.int k (i : Int)) y code).run P w = .ok i w :=  by
  have := run_sliceBound (P := P) w k (i : Int) y code (by omega) (by omega)
  simpa using this
/-- An optional bound. -/
def Bd (e : EF) (o : Option Operand) (dflt n : Nat) : Prop := match o with
  | none => n = dflt
  | some x => ∃ k z, ev e x = .int k z ∧ z = (n : Int)
theorem bd_val {w : World} {ok : Nat → Prop} {G : Nat → Option Nat} {ρ : Operand → Value} {e : EF} {o : Option Operand} {dflt n : Nat} (hb : Bd e o dflt n) (h : ∀ x ∈ o.toList, Rep w ok G (ev e x) true (ρ x)) :
    (o.map ρ = none ∧ n = dflt) ∨ ∃ k, o.map ρ = some (.int k (n : Int)) := by
  cases o with
  | none => exact .inl ⟨rfl, hb⟩
  | some x =>
    obtain ⟨k, z, h1, h2⟩ := hb
    have h3 := h x (by simp)
    rw [h1] at h3
    simp only [Rep] at h3
    subst h2
    exact .inr ⟨k, by simp [h3]⟩
theorem run_bounds {isS : Bool} {n c l h : Nat} {lo hi : Option Value} (hlo : (lo = none ∧ l = 0) ∨ ∃ k, lo = some (.int k (l : Int))) (hhi : (hi = none ∧ h = n) ∨ ∃ k, hi = some (.int k (h : Int))) (h1 : l ≤ h) (h2 : h ≤ c) (w : World) :
    (Instr.sliceBounds isS n c lo hi none).run P w = .ok (l, h, c) w := by
  rcases hlo with ⟨rfl, rfl⟩ | ⟨k, rfl⟩ <;> rcases hhi with ⟨rfl, rfl⟩ | ⟨k', rfl⟩ <;> simp [Instr.sliceBounds, run_sliceBound_nat h2, run_sliceBound_nat h1]
theorem slice_opds {T : TypeId} {x : Operand} {lo hi : Option Operand} : (∀ y ∈ lo.toList, y ∈ (Op.slice T x lo hi none).operands) ∧ (∀ y ∈ hi.toList, y ∈ (Op.slice T x lo hi none).operands) ∧ x ∈ (Op.slice T x lo hi none).operands := by
  cases lo <;> cases hi <;> simp [Op.operands]
theorem lop_slice_str {x : Operand} {lo hi : Option Operand} {s : ByteArray} {l h : Nat} {T : TypeId} (hx : ev (get env) x = .str s) (hT : P.underlying T = some .string) (hlo : Bd (get env) lo 0 l) (hhi : Bd (get env) hi s.size h) (h1 : l ≤ h) (h2 : h ≤ s.size) :
    LOp P ⟨d, .slice T x lo hi none, ty, ps, af, gd⟩ env H [] (.str (s.extract l h)) [] [] :=
  lop_pure fun w ok G ρ hr => by
    have h3 := hr x slice_opds.2.2
    rw [hx] at h3
    simp only [Rep] at h3
    have hb := run_bounds (P := P) (isS := false) (c := s.size) (bd_val hlo fun y hy => hr y (slice_opds.1 y hy)) (bd_val hhi fun y hy => hr y (slice_opds.2.1 y hy)) h1 h2 w
    exact ⟨.string (s.extract l h), by simp [execOp, Instr.sliceAt, run_underlying hT, Instr.slice, h3, hb], by simp [Rep]⟩
theorem run_slice_gen {T e sz : Nat} (hT : P.underlying T = some (.slice e)) (hsz : ∀ w, (sizeOf e).run P w = .ok sz w) {A : Option Addr} {n c l h : Nat} {lo hi : Option Value} (hlo : (lo = none ∧ l = 0) ∨ ∃ k, lo = some (.int k (l : Int))) (hhi : (hi = none ∧ h = n) ∨ ∃ k, hi = some (.int k (h : Int))) (h1 : l ≤ h) (h2 : h ≤ c) (w : World) :
    (Instr.sliceAt T (.slice A n c) lo hi none).run P w = .ok (.slice (if c = l then A else A.map (·.add (l * sz))) (h - l) (c - l)) w := by
  have hb := run_bounds (P := P) (isS := true) hlo hhi h1 h2 w
  simp [Instr.sliceAt, run_underlying hT, Instr.slice, hb, hsz]
theorem lop_slice_sl {x : Operand} {lo hi : Option Operand} {n l h sz : Nat} {cs ys : List V} {T e : TypeId} (hx : ev (get env) x = .sl n cs) (hT : P.underlying T = some (.slice e)) (hsz : ∀ w, (sizeOf e).run P w = .ok sz w) (hl : cs.length = n * sz) (hlo : Bd (get env) lo 0 l) (hhi : Bd (get env) hi n h) (h1 : l ≤ h) (h2 : h ≤ n)
    (hy : (cs.drop (l * sz)).take ((h - l) * sz) = ys) : LOp P ⟨d, .slice T x lo hi none, ty, ps, af, gd⟩ env H [] (.sl (h - l) ys) [] [] :=
  lop_pure fun w ok G ρ hr => by
    have h3 := hr x slice_opds.2.2
    rw [hx] at h3
    simp only [Rep] at h3
    obtain ⟨A, c, us, h4, h5, h6, h7⟩ := h3
    subst hy
    have hrun := run_slice_gen (P := P) hT hsz (A := A) (bd_val hlo fun y hy => hr y (slice_opds.1 y hy)) (bd_val hhi fun y hy => hr y (slice_opds.2.1 y hy)) h1 (Nat.le_trans h2 h5) w
    refine ⟨_, by simp only [execOp, h4, Option.map_none, Sem.run_bind, hrun, Result.andThen_ok, Sem.run_pure]; rfl, ?_⟩
    simp only [Rep]
    refine ⟨_, _, (us.drop (l * sz)).take ((h - l) * sz), rfl, by omega, ?_, (h7.drop _).take _⟩
    by_cases hc : c = l
    · have : h - l = 0 := by omega
      rw [this]
      exact .inl (by simp)
    · rw [if_neg hc]
      exact (h6.drop _).take _
theorem lop_slice_z0 {x : Operand} {lo hi : Option Operand} {T e sz : TypeId} (hx : ev (get env) x = .z0) (hT : P.underlying T = some (.slice e)) (hsz : ∀ w, (sizeOf e).run P w = .ok sz w) (hlo : Bd (get env) lo 0 0) (hhi : Bd (get env) hi 0 0) : LOp P ⟨d, .slice T x lo hi none, ty, ps, af, gd⟩ env H [] .z0 [] [] :=
  lop_pure fun w ok G ρ hr => by
    have h3 := hr x slice_opds.2.2
    rw [hx] at h3
    simp only [Rep] at h3
    obtain ⟨A, h4⟩ := h3
    have hrun := run_slice_gen (P := P) hT hsz (A := A) (n := 0) (c := 0) (bd_val hlo fun y hy => hr y (slice_opds.1 y hy)) (bd_val hhi fun y hy => hr y (slice_opds.2.1 y hy)) (Nat.le_refl _) (Nat.le_refl _) w
    refine ⟨_, by simp only [execOp, h4, Option.map_none, Sem.run_bind, hrun, Result.andThen_ok, Sem.run_pure]; rfl, ?_⟩
    simp only [Rep]
    exact ⟨_, rfl⟩
/-- s[:0:0] -/
theorem lop_slice_00 {x hi mx : Operand} {lo : Option Operand} {v : V} {k k' : IntKind} {T e sz : TypeId} (hx : ev (get env) x = v) (hv : match v with | .sl _ _ | .os _ _ _ _ | .z0 => True | _ => False) (hT : P.underlying T = some (.slice e)) (hsz : ∀ w, (sizeOf e).run P w = .ok sz w) (hlo : Bd (get env) lo 0 0) (hhi : ev (get env) hi = .int k 0) (hmx : ev (get env) mx = .int k' 0) :
    LOp P ⟨d, .slice T x lo (some hi) (some mx), ty, ps, af, gd⟩ env H [] .z0 [] [] :=
  lop_pure fun w ok G ρ hr => by
    have h3 := hr x (by cases lo <;> simp [Op.operands])
    have h5 := hr hi (by cases lo <;> simp [Op.operands])
    have h6 := hr mx (by cases lo <;> simp [Op.operands])
    rw [hx] at h3
    rw [hhi] at h5
    rw [hmx] at h6
    simp only [Rep] at h5 h6
    obtain ⟨A, n, c, h4⟩ : ∃ A n c, ρ x = .slice A n c := by
      cases v <;> simp only [Rep] at h3 <;> first
        | (obtain ⟨A, h⟩ := h3; exact ⟨A, _, _, h⟩)
        | (obtain ⟨A, c, us, h, _⟩ := h3; exact ⟨A, _, c, h⟩)
        | (obtain ⟨_, ⟨b, c, o', cs, ty, fr, _, h, _⟩ | ⟨_, _, A, h⟩⟩ := h3 <;> exact ⟨_, _, _, h⟩)
        | exact hv.elim
    have hl := bd_val hlo (w := w) (ok := ok) (G := G) (ρ := ρ) fun y hy => hr y (by cases lo <;> simp [Op.operands] at hy ⊢; simp [hy])
    have z1 : ∀ (k : IntKind) (y : Nat) (code : BoundsCode), (Instr.sliceBound (.int k 0) y code).run P w = .ok 0 w := fun k y code => by
      have := run_sliceBound_nat (P := P) (k := k) (i := 0) (y := y) (code := code) (Nat.zero_le _) w
      simpa using this
    have hb : (Instr.sliceBounds true n c (lo.map ρ) (some (.int k 0)) (some (.int k' 0))).run P w = .ok (0, 0, 0) w := by
      rcases hl with ⟨hl, _⟩ | ⟨kk, hl⟩ <;> rw [hl] <;> simp [Instr.sliceBounds, z1]
    refine ⟨.slice A 0 0, ?_, by simp only [Rep]; exact ⟨_, rfl⟩⟩
    simp [execOp, h4, h5, h6, Instr.sliceAt, run_underlying hT, Instr.slice, hb, hsz]
/-- A window of a row of the call's own. -/
theorem lop_slice_os {x : Operand} {lo hi : Option Operand} {t off n l h sz L : Nat} {f : Bool} {cs : List V} {T e : TypeId} (hx : ev (get env) x = .os t off sz n) (hH : hget H t = some (f, cs)) (hT : P.underlying T = some (.slice e)) (hsz : ∀ w, (sizeOf e).run P w = .ok sz w) (hlo : Bd (get env) lo 0 l) (hhi : Bd (get env) hi n h) (h1 : l ≤ h) (h2 : off + h * sz ≤ cs.length) (h0 : 0 < sz) :
    LOp P ⟨d, .slice T x lo hi none, ty, ps, af, gd⟩ env H [t] (.os t (off + l * sz) sz (h - l)) [] [] :=
  lop_read fun w ok G ρ hs hr => by
    have h3 := hr x slice_opds.2.2
    rw [hx] at h3
    simp only [Rep] at h3
    obtain ⟨_, ⟨b, c, o', bs, ty', fr, hb, h4, h5, h6, h7, h8, h9⟩ | ⟨hg, rfl, A, h4⟩⟩ := h3
    · obtain ⟨us, rest, ty2, fr2, h10, h11, _⟩ := hs.at_ (by simp) hH hb
      rw [h7] at h10
      injection h10 with h10
      injection h10 with h10 _ _
      have hlen : cs.length ≤ bs.size := by rw [h10, ← h11.length]; simp
      have hc : h ≤ c := by
        have : h * sz ≤ c * sz := by omega
        exact Nat.le_of_mul_le_mul_right this h0
      have hrun := run_slice_gen (P := P) hT hsz (A := some ⟨b, o', none⟩) (bd_val hlo fun y hy => hr y (slice_opds.1 y hy)) (bd_val hhi fun y hy => hr y (slice_opds.2.1 y hy)) h1 hc w
      refine ⟨_, by simp only [execOp, h4, Option.map_none, Sem.run_bind, hrun, Result.andThen_ok, Sem.run_pure]; rfl, ?_⟩
      simp only [Rep]
      refine ⟨trivial, .inl ?_⟩
      by_cases hcl : c = l
      · rw [if_pos hcl]
        exact ⟨b, c - l, o', bs, ty', fr, hb, rfl, by omega, h0, h7, by rw [show c - l = 0 by omega]; subst hcl; omega, .inl (by omega)⟩
      · rw [if_neg hcl]
        have ho : o' = off := by rcases h9 with h9 | h9 <;> omega
        subst ho
        refine ⟨b, c - l, o' + l * sz, bs, ty', fr, hb, by simp [lit_add], by omega, h0, h7, ?_, .inr rfl⟩
        have : l * sz + (c - l) * sz = c * sz := by rw [← Nat.add_mul]; congr 1; omega
        omega
    · have hcs : cs = [] := by
        rcases hs.tok t (by simp) f cs hH with h10 | ⟨b, hb, _⟩
        · exact h10.2
        · rw [hg] at hb; cases hb
      subst hcs
      have hh : h = 0 := by
        rcases Nat.eq_zero_or_pos h with h' | h'
        · exact h'
        · have := Nat.mul_pos h' h0
          simp at h2
          omega
      subst hh
      have hl0 : l = 0 := by omega
      subst hl0
      have hrun := run_slice_gen (P := P) hT hsz (A := A) (n := 0) (c := 0) (bd_val hlo fun y hy => hr y (slice_opds.1 y hy)) (bd_val hhi fun y hy => hr y (slice_opds.2.1 y hy)) (Nat.le_refl _) (Nat.le_refl _) w
      refine ⟨_, by simp only [execOp, h4, Option.map_none, Sem.run_bind, hrun, Result.andThen_ok, Sem.run_pure]; rfl, ?_⟩
      simp only [Rep]
      exact ⟨trivial, .inr ⟨hg, trivial, _, rfl⟩⟩
end
end Go.Hg
