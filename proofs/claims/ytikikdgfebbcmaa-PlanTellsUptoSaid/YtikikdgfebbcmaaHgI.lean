/- The laws of single operations: make, slicing, append, copy, strings and bytes. No condition. -/
import Derived.Test.YtikikdgfebbcmaaHgH
import Derived.Lib.ConvBytes
import Derived.Laws.BytesArg
import Derived.Deep.AppendSrc
import Derived.Deep.Upon
set_option linter.unusedVariables false
set_option linter.unusedSimpArgs false
namespace Go.Hg
open Go.RowKit

section
variable {P : Program} {env : Env} {H : Heap} {d : Option Tmp} {ty : TypeId} {ps : String} {af : Array Edge} {gd : Option (Nat × Bool)}

/-! ### make([]T, n) -/
theorem range_flat {z : Array Value} {sz : Nat} (hz : z.size = sz) (h0 : 0 < sz) : ∀ m, ((Array.range (m * sz)).map (z[· % z.size]!)).toList = (List.replicate m z.toList).flatten := by
  intro m
  apply List.ext_getElem?
  intro j
  rcases Nat.lt_or_ge j (m * sz) with hj | hj
  · have hq : j / sz < m := Nat.div_lt_of_lt_mul (by rwa [Nat.mul_comm])
    have hr : j % sz < sz := Nat.mod_lt _ h0
    have h8 : (List.replicate m z.toList).flatten[j]? = z.toList[j % sz]? := by
      induction m generalizing j with
      | zero => omega
      | succ m ih =>
        rw [List.replicate_succ, List.flatten_cons]
        rcases Nat.lt_or_ge j sz with h9 | h9
        · rw [List.getElem?_append_left (by simpa [hz] using h9), Nat.mod_eq_of_lt h9]
        · rw [List.getElem?_append_right (by simpa [hz] using h9)]
          simp only [Array.length_toList, hz]
          have h10 : (j - sz) % sz = j % sz := by
            conv => rhs; rw [← Nat.sub_add_cancel h9]
            simp
          have h11 : j - sz < m * sz := by rw [Nat.add_mul, Nat.one_mul] at hj; omega
          rw [ih (j - sz) h11 (Nat.div_lt_of_lt_mul (by rwa [Nat.mul_comm])) (Nat.mod_lt _ h0), h10]
    rw [h8]
    simp [hj, hz, hr]
  · rw [List.getElem?_eq_none (by simpa using hj), List.getElem?_eq_none (by simpa [hz] using hj)]
theorem repL_flat {w : World} {ok : Nat → Prop} {G : Nat → Option Nat} {tk : Bool} {cs : List V} {us : List Value} (h : RepL w ok G cs tk us) : ∀ m, RepL w ok G (List.replicate m cs).flatten tk (List.replicate m us).flatten
  | 0 => by simp [RepL]
  | m + 1 => by simpa [List.replicate_succ] using h.append (repL_flat h m)

theorem lop_make {x y : Operand} {T e t sz n : Nat} {k k' : IntKind} {a b : Int} {i : TypeInfo} {z : Value} {cs : List V} (hx : ev (get env) x = .int k a) (hy : ev (get env) y = .int k' b) (ha : a = (n : Int)) (hb : b = (n : Int)) (hT : P.underlying T = some (.slice e)) (hi : P.info? e = some i) (hz : i.zero = some z)
    (hs : i.size = sz) (h0 : 0 < sz) (hk : okC z = true) (hsol : (ofC z).solid = true) (htf : tf (ofC z) = true) (hzl : (ofC z).cells.length = sz) (hn : n * i.bytes ≤ 281474976710656) (hn63 : n ≤ 9223372036854775807) (hcs : (List.replicate n (ofC z).cells).flatten = cs) :
    LOp P ⟨d, .makeSlice T x y, ty, ps, af, gd⟩ env H [] (.os t 0 sz n) [(t, some (true, cs))] [t] :=
  lop_alloc (fun w ok G ρ h => by
    subst hcs
    have h1 := h x (by simp [Op.operands])
    have h2 := h y (by simp [Op.operands])
    rw [hx] at h1
    rw [hy] at h2
    simp only [Rep] at h1 h2
    subst ha
    subst hb
    have h3 : RepL w ok G (ofC z).cells false z.cells.toList := Rep.cellsL (Rep.ofC z hk) hsol
    have hzs : z.cells.size = sz := by rw [← hzl, ← h3.length]; simp
    have hb : (i.bytes : Int) * (n : Int) ≤ 281474976710656 := by
      have h : ((i.bytes * n : Nat) : Int) ≤ 281474976710656 := by rw [Nat.mul_comm]; omega
      rwa [Int.natCast_mul] at h
    have hr := run_make (P := P) w T e i z hT hi hz k k' n n (by omega) (by omega) hb (by omega)
    simp only [Int.toNat_natCast] at hr
    refine ⟨.slice (some ⟨w.heap.size, 0, none⟩) n n, (List.replicate n z.cells.toList).flatten, [], e, (0, 0), 0, ?_, repL_flat h3 n, by simp, by simp, fun w' G' h8 h9 => ?_⟩
    · have hm : madeCells z.cells (n * i.size) = (List.replicate n z.cells.toList).flatten.toArray := by
        apply Array.ext'
        rw [hs]
        exact range_flat hzs h0 n
      simp only [execOp, h1, h2, Sem.run_bind, hr, Result.andThen_ok, Sem.run_pure, World.drewN_zero, hm, List.append_nil]
    · simp only [Rep]
      refine ⟨trivial, .inl ⟨w.heap.size, n, 0, _, e, (0, 0), h9, rfl, Nat.le_refl _, h0, h8, ?_, .inr rfl⟩⟩
      simp [hzs, Nat.mul_comm]) (fun h => by cases h)

/-! ### slicing -/
theorem run_sliceBound_nat {k : IntKind} {i y : Nat} {code : BoundsCode} (h : i ≤ y) (w : World) : (Instr.sliceBound (.int k (i : Int)) y code).run P w = .ok i w :=  by
  have := run_sliceBound (P := P) w k (i : Int) y code (by omega) (by omega)
  simpa using this
/-- An optional bound. -/
def Bd (e : EF) (o : Option Operand) (dflt n : Nat) : Prop := match o with
  | none => n = dflt
  | some x => ∃ k z, ev e x = .int k z ∧ z = (n : Int)
theorem bd_val {w : World} {ok : Nat → Prop} {G : Nat → Option Nat} {ρ : Operand → Value} {e : EF} {o : Option Operand} {dflt n : Nat} (hb : Bd e o dflt n) (h : ∀ x ∈ o.toList, Rep w ok G (ev e x) true (ρ x)) :
    (o.map ρ = none ∧ n = dflt) ∨ ∃ k, o.map ρ = some (.int k (n : Int)) := by
  cases o with
  | none => exact .inl ⟨rfl, hb⟩
  | some x =>
    obtain ⟨k, z, h1, h2⟩ := hb
    have h3 := h x (by simp)
    rw [h1] at h3
    simp only [Rep] at h3
    subst h2
    exact .inr ⟨k, by simp [h3]⟩
theorem run_bounds {isS : Bool} {n c l h : Nat} {lo hi : Option Value} (hlo : (lo = none ∧ l = 0) ∨ ∃ k, lo = some (.int k (l : Int))) (hhi : (hi = none ∧ h = n) ∨ ∃ k, hi = some (.int k (h : Int))) (h1 : l ≤ h) (h2 : h ≤ c) (w : World) :
    (Instr.sliceBounds isS n c lo hi none).run P w = .ok (l, h, c) w := by
  rcases hlo with ⟨rfl, rfl⟩ | ⟨k, rfl⟩ <;> rcases hhi with ⟨rfl, rfl⟩ | ⟨k', rfl⟩ <;> simp [Instr.sliceBounds, run_sliceBound_nat h2, run_sliceBound_nat h1]
theorem slice_opds {T : TypeId} {x : Operand} {lo hi : Option Operand} : (∀ y ∈ lo.toList, y ∈ (Op.slice T x lo hi none).operands) ∧ (∀ y ∈ hi.toList, y ∈ (Op.slice T x lo hi none).operands) ∧ x ∈ (Op.slice T x lo hi none).operands := by
  cases lo <;> cases hi <;> simp [Op.operands]
theorem lop_slice_str {x : Operand} {lo hi : Option Operand} {s : ByteArray} {l h : Nat} {T : TypeId} (hx : ev (get env) x = .str s) (hT : P.underlying T = some .string) (hlo : Bd (get env) lo 0 l) (hhi : Bd (get env) hi s.size h) (h1 : l ≤ h) (h2 : h ≤ s.size) :
    LOp P ⟨d, .slice T x lo hi none, ty, ps, af, gd⟩ env H [] (.str (s.extract l h)) [] [] :=
  lop_pure fun w ok G ρ hr => by
    have h3 := hr x slice_opds.2.2
    rw [hx] at h3
    simp only [Rep] at h3
    have hb := run_bounds (P := P) (isS := false) (c := s.size) (bd_val hlo fun y hy => hr y (slice_opds.1 y hy)) (bd_val hhi fun y hy => hr y (slice_opds.2.1 y hy)) h1 h2 w
    exact ⟨.string (s.extract l h), by simp [execOp, Instr.sliceAt, run_underlying hT, Instr.slice, h3, hb], by simp [Rep]⟩
theorem run_slice_gen {T e sz : Nat} (hT : P.underlying T = some (.slice e)) (hsz : ∀ w, (sizeOf e).run P w = .ok sz w) {A : Option Addr} {n c l h : Nat} {lo hi : Option Value} (hlo : (lo = none ∧ l = 0) ∨ ∃ k, lo = some (.int k (l : Int))) (hhi : (hi = none ∧ h = n) ∨ ∃ k, hi = some (.int k (h : Int))) (h1 : l ≤ h) (h2 : h ≤ c) (w : World) :
    (Instr.sliceAt T (.slice A n c) lo hi none).run P w = .ok (.slice (if c = l then A else A.map (·.add (l * sz))) (h - l) (c - l)) w := by
  have hb := run_bounds (P := P) (isS := true) hlo hhi h1 h2 w
  simp [Instr.sliceAt, run_underlying hT, Instr.slice, hb, hsz]
theorem lop_slice_sl {x : Operand} {lo hi : Option Operand} {n l h sz : Nat} {cs ys : List V} {T e : TypeId} (hx : ev (get env) x = .sl n cs) (hT : P.underlying T = some (.slice e)) (hsz : ∀ w, (sizeOf e).run P w = .ok sz w) (hl : cs.length = n * sz) (hlo : Bd (get env) lo 0 l) (hhi : Bd (get env) hi n h) (h1 : l ≤ h) (h2 : h ≤ n)
    (hy : (cs.drop (l * sz)).take ((h - l) * sz) = ys) : LOp P ⟨d, .slice T x lo hi none, ty, ps, af, gd⟩ env H [] (.sl (h - l) ys) [] [] :=
  lop_pure fun w ok G ρ hr => by
    have h3 := hr x slice_opds.2.2
    rw [hx] at h3
    simp only [Rep] at h3
    obtain ⟨A, c, us, h4, h5, h6, h7⟩ := h3
    subst hy
    have hrun := run_slice_gen (P := P) hT hsz (A := A) (bd_val hlo fun y hy => hr y (slice_opds.1 y hy)) (bd_val hhi fun y hy => hr y (slice_opds.2.1 y hy)) h1 (Nat.le_trans h2 h5) w
    refine ⟨_, by simp only [execOp, h4, Option.map_none, Sem.run_bind, hrun, Result.andThen_ok, Sem.run_pure]; rfl, ?_⟩
    simp only [Rep]
    refine ⟨_, _, (us.drop (l * sz)).take ((h - l) * sz), rfl, by omega, ?_, (h7.drop _).take _⟩
    by_cases hc : c = l
    · have : h - l = 0 := by omega
      rw [this]
      exact .inl (by simp)
    · rw [if_neg hc]
      exact (h6.drop _).take _
theorem lop_slice_z0 {x : Operand} {lo hi : Option Operand} {T e sz : TypeId} (hx : ev (get env) x = .z0) (hT : P.underlying T = some (.slice e)) (hsz : ∀ w, (sizeOf e).run P w = .ok sz w) (hlo : Bd (get env) lo 0 0) (hhi : Bd (get env) hi 0 0) : LOp P ⟨d, .slice T x lo hi none, ty, ps, af, gd⟩ env H [] .z0 [] [] :=
  lop_pure fun w ok G ρ hr => by
    have h3 := hr x slice_opds.2.2
    rw [hx] at h3
    simp only [Rep] at h3
    obtain ⟨A, h4⟩ := h3
    have hrun := run_slice_gen (P := P) hT hsz (A := A) (n := 0) (c := 0) (bd_val hlo fun y hy => hr y (slice_opds.1 y hy)) (bd_val hhi fun y hy => hr y (slice_opds.2.1 y hy)) (Nat.le_refl _) (Nat.le_refl _) w
    refine ⟨_, by simp only [execOp, h4, Option.map_none, Sem.run_bind, hrun, Result.andThen_ok, Sem.run_pure]; rfl, ?_⟩
    simp only [Rep]
    exact ⟨_, rfl⟩
/-- s[:0:0] -/
theorem lop_slice_00 {x hi mx : Operand} {lo : Option Operand} {v : V} {k k' : IntKind} {T e sz : TypeId} (hx : ev (get env) x = v) (hv : match v with | .sl _ _ | .os _ _ _ _ | .z0 => True | _ => False) (hT : P.underlying T = some (.slice e)) (hsz : ∀ w, (sizeOf e).run P w = .ok sz w) (hlo : Bd (get env) lo 0 0) (hhi : ev (get env) hi = .int k 0) (hmx : ev (get env) mx = .int k' 0) :
    LOp P ⟨d, .slice T x lo (some hi) (some mx), ty, ps, af, gd⟩ env H [] .z0 [] [] :=
  lop_pure fun w ok G ρ hr => by
    have h3 := hr x (by cases lo <;> simp [Op.operands])
    have h5 := hr hi (by cases lo <;> simp [Op.operands])
    have h6 := hr mx (by cases lo <;> simp [Op.operands])
    rw [hx] at h3
    rw [hhi] at h5
    rw [hmx] at h6
    simp only [Rep] at h5 h6
    obtain ⟨A, n, c, h4⟩ : ∃ A n c, ρ x = .slice A n c := by
      cases v <;> simp only [Rep] at h3 <;> first
        | (obtain ⟨A, h⟩ := h3; exact ⟨A, _, _, h⟩)
        | (obtain ⟨A, c, us, h, _⟩ := h3; exact ⟨A, _, c, h⟩)
        | (obtain ⟨_, ⟨b, c, o', cs, ty, fr, _, h, _⟩ | ⟨_, _, A, h⟩⟩ := h3 <;> exact ⟨_, _, _, h⟩)
        | exact hv.elim
    have hl := bd_val hlo (w := w) (ok := ok) (G := G) (ρ := ρ) fun y hy => hr y (by cases lo <;> simp [Op.operands] at hy ⊢; simp [hy])
    have z1 : ∀ (k : IntKind) (y : Nat) (code : BoundsCode), (Instr.sliceBound (.int k 0) y code).run P w = .ok 0 w := fun k y code => by
      have := run_sliceBound_nat (P := P) (k := k) (i := 0) (y := y) (code := code) (Nat.zero_le _) w
      simpa using this
    have hb : (Instr.sliceBounds true n c (lo.map ρ) (some (.int k 0)) (some (.int k' 0))).run P w = .ok (0, 0, 0) w := by
      rcases hl with ⟨hl, _⟩ | ⟨kk, hl⟩ <;> rw [hl] <;> simp [Instr.sliceBounds, z1]
    refine ⟨.slice A 0 0, ?_, by simp only [Rep]; exact ⟨_, rfl⟩⟩
    simp [execOp, h4, h5, h6, Instr.sliceAt, run_underlying hT, Instr.slice, hb, hsz]
/-- A window of a row of the call's own. -/
theorem lop_slice_os {x : Operand} {lo hi : Option Operand} {t off n l h sz L : Nat} {f : Bool} {cs : List V} {T e : TypeId} (hx : ev (get env) x = .os t off sz n) (hH : hget H t = some (f, cs)) (hT : P.underlying T = some (.slice e)) (hsz : ∀ w, (sizeOf e).run P w = .ok sz w) (hlo : Bd (get env) lo 0 l) (hhi : Bd (get env) hi n h) (h1 : l ≤ h) (h2 : off + h * sz ≤ cs.length) (h0 : 0 < sz) :
    LOp P ⟨d, .slice T x lo hi none, ty, ps, af, gd⟩ env H [t] (.os t (off + l * sz) sz (h - l)) [] [] :=
  lop_read fun w ok G ρ hs hr => by
    have h3 := hr x slice_opds.2.2
    rw [hx] at h3
    simp only [Rep] at h3
    obtain ⟨_, ⟨b, c, o', bs, ty', fr, hb, h4, h5, h6, h7, h8, h9⟩ | ⟨hg, rfl, A, h4⟩⟩ := h3
    · obtain ⟨us, rest, ty2, fr2, h10, h11, _⟩ := hs.at_ (by simp) hH hb
      rw [h7] at h10
      injection h10 with h10
      injection h10 with h10 _ _
      have hlen : cs.length ≤ bs.size := by rw [h10, ← h11.length]; simp
      have hc : h ≤ c := by
        have : h * sz ≤ c * sz := by omega
        exact Nat.le_of_mul_le_mul_right this h0
      have hrun := run_slice_gen (P := P) hT hsz (A := some ⟨b, o', none⟩) (bd_val hlo fun y hy => hr y (slice_opds.1 y hy)) (bd_val hhi fun y hy => hr y (slice_opds.2.1 y hy)) h1 hc w
      refine ⟨_, by simp only [execOp, h4, Option.map_none, Sem.run_bind, hrun, Result.andThen_ok, Sem.run_pure]; rfl, ?_⟩
      simp only [Rep]
      refine ⟨trivial, .inl ?_⟩
      by_cases hcl : c = l
      · rw [if_pos hcl]
        exact ⟨b, c - l, o', bs, ty', fr, hb, rfl, by omega, h0, h7, by rw [show c - l = 0 by omega]; subst hcl; omega, .inl (by omega)⟩
      · rw [if_neg hcl]
        have ho : o' = off := by rcases h9 with h9 | h9 <;> omega
        subst ho
        refine ⟨b, c - l, o' + l * sz, bs, ty', fr, hb, by simp [lit_add], by omega, h0, h7, ?_, .inr rfl⟩
        have : l * sz + (c - l) * sz = c * sz := by rw [← Nat.add_mul]; congr 1; omega
        omega
    · have hcs : cs = [] := by
        rcases hs.tok t (by simp) f cs hH with h10 | ⟨b, hb, _⟩
        · exact h10.2
        · rw [hg] at hb; cases hb
      subst hcs
      have hh : h = 0 := by
        rcases Nat.eq_zero_or_pos h with h' | h'
        · exact h'
        · have := Nat.mul_pos h' h0
          simp at h2
          omega
      subst hh
      have hl0 : l = 0 := by omega
      subst hl0
      have hrun := run_slice_gen (P := P) hT hsz (A := A) (n := 0) (c := 0) (bd_val hlo fun y hy => hr y (slice_opds.1 y hy)) (bd_val hhi fun y hy => hr y (slice_opds.2.1 y hy)) (Nat.le_refl _) (Nat.le_refl _) w
      refine ⟨_, by simp only [execOp, h4, Option.map_none, Sem.run_bind, hrun, Result.andThen_ok, Sem.run_pure]; rfl, ?_⟩
      simp only [Rep]
      exact ⟨trivial, .inr ⟨hg, trivial, _, rfl⟩⟩
end
end Go.Hg
/- append, copy. No condition. -/
set_option linter.unusedVariables false
set_option linter.unusedSimpArgs false
namespace Go.Hg
open Go.RowKit

/-! ### names -/
/-- A new block, named t: what is told of its cells may name it by any name. -/
theorem Sim.alloc2 {w0 : World} {ok0 : Fr} {w : World} {ok : Nat → Prop} {G : Nat → Option Nat} {h : HF} {e : EF} (hs : Sim w0 ok0 w ok G h) {t : Nat} (hf : FreshF t e h)
    (us rest : List Value) (ty : TypeId) (fr : Nat × Nat) (f : Bool) (cs : List V) (hc : ∀ G' : Nat → Option Nat, (∀ x, x ≠ t → G' x = G x) → RepL w ok G' cs (!f) us) (h1 : ∀ u ∈ rest, u.oneCell' = true) (hfr : fr.2 ≤ fr.1 ∨ (us ++ rest).length ≤ fr.1) :
    let G' := fun x => if x = t then some w.heap.size else G x
    let w' := w.alloc (.cells (us ++ rest).toArray ty fr)
    Sim w0 ok0 w' ok G' (appF h [(t, some (f, cs))]) ∧ WS w ok w' ∧ (∀ (v : V) (u : Value), men t v = false → Rep w ok G v true u → Rep w' ok G' v true u) := by
  intro G' w'
  obtain ⟨hs1, hws, hmv⟩ := hs.alloc hf us rest ty fr true (List.replicate us.length .undef) (by
    have hl := hc G (fun _ _ => rfl)
    have h1 := hl.one
    clear hl hc hfr
    induction us with
    | nil => simp [RepL]
    | cons u us ih =>
      simp only [List.length_cons, List.replicate_succ, RepL]
      exact ⟨u, us, rfl, h1 u (by simp), by simp [Rep], ih fun x hx => h1 x (by simp [hx])⟩) (fun h => by cases h) h1 hfr
  refine ⟨⟨hs1.below, hs1.okb, hs1.okn, hs1.oko, ?_, ?_⟩, hws, hmv⟩
  · intro t' f' cs' ht'
    cases hx : Nat.beq t' t with
    | true =>
      have : t' = t := Nat.eq_of_beq_eq_true hx
      subst this
      simp only [appF, hx, cond_true, Option.some.injEq, Prod.mk.injEq] at ht'
      obtain ⟨rfl, rfl⟩ := ht'
      have hgt : G' t' = some w.heap.size := by simp [G']
      refine .inr ⟨_, hgt, .inr hs.below.size, fun hk => by have := hs.okb _ hk; omega, us, rest, ty, fr, heap_alloc_new w _, ?_, h1, hfr⟩
      exact RepL.mv (hws.mv fun _ h => h) cs _ us (fun _ _ _ => rfl) (hc G' fun x hx => by simp [G', hx])
    | false =>
      refine hs1.tok t' f' cs' ?_
      simpa only [appF, hx, cond_false] using ht'
  · intro a b c ha hb
    refine hs1.inj a b c ?_ ?_
    · simp only [appF] at ha ⊢
      cases hx : Nat.beq a t <;> simp_all
    · simp only [appF] at hb ⊢
      cases hx : Nat.beq b t <;> simp_all

/-- A row that isn't there yet. -/
theorem Sim.virt {w0 : World} {ok0 : Fr} {w : World} {ok : Nat → Prop} {G : Nat → Option Nat} {h : HF} {e : EF} (hs : Sim w0 ok0 w ok G h) {t : Nat} (hf : FreshF t e h) (f : Bool) :
    let G' := fun x => if x = t then none else G x
    Sim w0 ok0 w ok G' (appF h [(t, some (f, []))]) ∧ (∀ (v : V) (u : Value), men t v = false → Rep w ok G v true u → Rep w ok G' v true u) := by
  intro G'
  have hG : ∀ t', t' ≠ t → G' t' = G t' := fun t' ht => by simp [G', ht]
  have hmv : Mv w ok G w ok G' := ⟨fun _ _ => rfl, fun _ h => h, fun _ cs _ fr h => ⟨cs, fr, h, rfl⟩⟩
  refine ⟨⟨hs.below, hs.okb, hs.okn, hs.oko, ?_, ?_⟩, ?_⟩
  · intro t' f' cs' ht'
    simp only [appF] at ht'
    cases hx : Nat.beq t' t with
    | true =>
      have : t' = t := Nat.eq_of_beq_eq_true hx
      subst this
      rw [hx] at ht'
      simp only [cond_true, Option.some.injEq, Prod.mk.injEq] at ht'
      exact .inl ⟨by simp [G'], ht'.2.symm⟩
    | false =>
      have hne : t' ≠ t := fun e => by subst e; simp at hx
      rw [hx] at ht'
      simp only [cond_false] at ht'
      rcases hs.tok t' f' cs' ht' with h0 | ⟨b, hb, h2, h3, us', rest', ty', fr', h4, h5, h6, h7⟩
      · exact .inl ⟨(hG t' hne).trans h0.1, h0.2⟩
      refine .inr ⟨b, (hG t' hne).trans hb, h2, h3, us', rest', ty', fr', h4, RepL.mv hmv cs' _ us' (fun hb t2 ht2 => hG t2 ?_) h5, h6, h7⟩
      rintro rfl
      rw [hf.2 t' cs' (by rw [ht']; congr; simpa using hb) hne] at ht2
      cases ht2
  · intro t1 t2 b h1 h2 he1 he2
    simp only [G'] at he1 he2
    by_cases e1 : t1 = t
    · rw [if_pos e1] at he1; cases he1
    · by_cases e2 : t2 = t
      · rw [if_pos e2] at he2; cases he2
      · rw [if_neg e1] at he1
        rw [if_neg e2] at he2
        have key : ∀ x, x ≠ t → appF h [(t, some (f, []))] x ≠ none → h x ≠ none := fun x hx hn => by
          simp only [appF] at hn
          cases hb : Nat.beq x t with
          | true => exact absurd (Nat.eq_of_beq_eq_true hb) hx
          | false => rw [hb] at hn; simpa using hn
        exact hs.inj t1 t2 b (key t1 e1 h1) (key t2 e2 h2) he1 he2
  · intro v u hv hr
    refine Rep.mv hmv v true u (fun _ t2 ht2 => hG t2 ?_) hr
    rintro rfl
    rw [hv] at ht2
    cases ht2

/-- A block by another name. -/
theorem Sim.rename {w0 : World} {ok0 : Fr} {w : World} {ok : Nat → Prop} {G : Nat → Option Nat} {h : HF} {e : EF} (hs : Sim w0 ok0 w ok G h) {t t' : Nat} (hf : FreshF t' e h) {f : Bool} {cs : List V} (ht : h t = some (f, cs)) :
    let G' := fun x => if x = t' then G t else G x
    Sim w0 ok0 w ok G' (appF h [(t', some (f, cs)), (t, none)]) ∧ (∀ (v : V) (u : Value), men t' v = false → Rep w ok G v true u → Rep w ok G' v true u) := by
  intro G'
  have hG : ∀ x, x ≠ t' → G' x = G x := fun x hx => by simp [G', hx]
  have hmv : Mv w ok G w ok G' := ⟨fun _ _ => rfl, fun _ h => h, fun _ cs _ fr h => ⟨cs, fr, h, rfl⟩⟩
  have hcell : ∀ (x : Nat) (f1 : Bool) (cs1 : List V) (us : List Value), h x = some (f1, cs1) → x ≠ t' → RepL w ok G cs1 (!f1) us → RepL w ok G' cs1 (!f1) us := fun x f1 cs1 us hx hne hr => by
    refine RepL.mv hmv cs1 _ us (fun hb t2 ht2 => hG t2 ?_) hr
    rintro rfl
    rw [hf.2 x cs1 (by rw [hx]; congr; simpa using hb) hne] at ht2
    cases ht2
  have hself : t = t' → G' = G := fun e => funext fun x => by
    simp only [G']
    split
    · rename_i hx; rw [hx, e]
    · rfl
  have hown : RepL w ok G cs (!f) = RepL w ok G cs (!f) := rfl
  refine ⟨⟨hs.below, hs.okb, hs.okn, hs.oko, ?_, ?_⟩, ?_⟩
  · intro x f1 cs1 hx
    simp only [appF] at hx
    cases hb : Nat.beq x t' with
    | true =>
      have : x = t' := Nat.eq_of_beq_eq_true hb
      subst this
      rw [hb] at hx
      simp only [cond_true, Option.some.injEq, Prod.mk.injEq] at hx
      obtain ⟨rfl, rfl⟩ := hx
      have hg : G' x = G t := by simp [G']
      rcases hs.tok t f cs ht with h0 | ⟨b, hb', h2, h3, us', rest', ty', fr', h4, h5, h6, h7⟩
      · exact .inl ⟨hg.trans h0.1, h0.2⟩
      · refine .inr ⟨b, hg.trans hb', h2, h3, us', rest', ty', fr', h4, ?_, h6, h7⟩
        by_cases e1 : t = x
        · rw [hself e1]; exact h5
        · exact hcell t f cs us' ht e1 h5
    | false =>
      have hne : x ≠ t' := fun e => by subst e; simp at hb
      rw [hb] at hx
      simp only [cond_false] at hx
      cases hb2 : Nat.beq x t with
      | true => rw [hb2] at hx; simp at hx
      | false =>
        rw [hb2] at hx
        simp only [cond_false] at hx
        rcases hs.tok x f1 cs1 hx with h0 | ⟨b, hb', h2, h3, us', rest', ty', fr', h4, h5, h6, h7⟩
        · exact .inl ⟨(hG x hne).trans h0.1, h0.2⟩
        · exact .inr ⟨b, (hG x hne).trans hb', h2, h3, us', rest', ty', fr', h4, hcell x f1 cs1 us' hx hne h5, h6, h7⟩
  · have key : ∀ x, appF h [(t', some (f, cs)), (t, none)] x ≠ none → (x = t' ∨ (x ≠ t' ∧ x ≠ t ∧ h x ≠ none)) := fun x hn => by
      simp only [appF] at hn
      cases hb : Nat.beq x t' with
      | true => exact .inl (Nat.eq_of_beq_eq_true hb)
      | false =>
        rw [hb] at hn
        have hne : x ≠ t' := fun e => by subst e; simp at hb
        cases hb2 : Nat.beq x t with
        | true => rw [hb2] at hn; simp at hn
        | false =>
          rw [hb2] at hn
          exact .inr ⟨hne, fun e => by subst e; simp at hb2, by simpa using hn⟩
    have htn : h t ≠ none := by rw [ht]; simp
    intro t1 t2 b h1 h2 he1 he2
    simp only [G'] at he1 he2
    rcases key t1 h1 with e1 | ⟨e1, e1', e1''⟩ <;> rcases key t2 h2 with e2 | ⟨e2, e2', e2''⟩
    · rw [e1, e2]
    · rw [if_pos e1] at he1
      rw [if_neg e2] at he2
      exact absurd (hs.inj t t2 b htn e2'' he1 he2).symm e2'
    · rw [if_neg e1] at he1
      rw [if_pos e2] at he2
      exact absurd (hs.inj t t1 b htn e1'' he2 he1).symm e1'
    · rw [if_neg e1] at he1
      rw [if_neg e2] at he2
      exact hs.inj t1 t2 b e1'' e2'' he1 he2
  · intro v u hv hr
    refine Rep.mv hmv v true u (fun _ t2 ht2 => hG t2 ?_) hr
    rintro rfl
    rw [hv] at ht2
    cases ht2

/-! ### what is appended -/
def bytesV (s : ByteArray) : List V := s.data.toList.map fun b => .int .u8 b.toNat
theorem bytesV_length (s : ByteArray) : (bytesV s).length = s.size := by
  unfold bytesV
  rw [List.length_map, Array.length_toList]
  rfl
theorem repL_bytes {w : World} {ok : Nat → Prop} {G : Nat → Option Nat} {tk : Bool} (s : ByteArray) : RepL w ok G (bytesV s) tk (byteCells s) := by
  unfold bytesV byteCells
  generalize s.data.toList = l
  induction l with
  | nil => simp [RepL]
  | cons b l ih =>
    simp only [List.map_cons, RepL]
    exact ⟨_, _, rfl, rfl, by simp [Rep], ih⟩

/-- What a value yields as the source of an append or a copy. -/
inductive SrcV (P : Program) (H : Heap) (R : List Nat) (sz : Nat) (tx : TypeId) : V → Nat → Bool → List V → Prop
  | sl {e' m : Nat} {ys : List V} : P.underlying tx = some (.slice e') → ys.length = m * sz → SrcV P H R sz tx (.sl m ys) m true ys
  | z0 {e' : Nat} : P.underlying tx = some (.slice e') → SrcV P H R sz tx .z0 0 true []
  | os {e' s off m : Nat} {f : Bool} {blk ys : List V} : P.underlying tx = some (.slice e') → s ∈ R → hget H s = some (f, blk) → off + m * sz ≤ blk.length → (blk.drop off).take (m * sz) = ys → SrcV P H R sz tx (.os s off sz m) m f ys
  | str {s : ByteArray} : P.underlying tx = some .string → sz = 1 → SrcV P H R sz tx (.str s) s.size true (bytesV s)

theorem src_at {P : Program} {w : World} {ok : Nat → Prop} {sz e' tx : Nat} {A : Option Addr} {m c : Nat} {us : List Value} (hk : P.underlying tx = some (.slice e')) (h0 : 0 < sz) (ha : At w ok A us) (hl : us.length = m * sz) (h1 : ∀ u ∈ us, u.oneCell' = true) :
    Src P sz tx (.slice A m c) m us w := by
  rcases ha with rfl | ⟨ad, rfl, _, h⟩
  · have hm : m = 0 := by
      rcases Nat.eq_zero_or_pos m with h | h
      · exact h
      · have := Nat.mul_pos h h0
        simp at hl
        omega
    subst hm
    cases A with
    | none => exact Src.ofNil w hk c
    | some ad => exact Src.ofSlice w hk ad 0 c [] hl (by simp) (by simp)
  · exact Src.ofSlice w hk ad m c us hl h h1

theorem SrcV.sound {P : Program} {H : Heap} {R : List Nat} {sz tx : Nat} {v : V} {m : Nat} {f : Bool} {ys : List V} (hv : SrcV P H R sz tx v m f ys) (h0 : 0 < sz) {w : World} {ok : Nat → Prop} {G : Nat → Option Nat} (hs : Sees w ok G H R) {u : Value} (hr : Rep w ok G v true u) :
    ∃ news, Src P sz tx u m news w ∧ RepL w ok G ys (!f) news ∧ ys.length = m * sz := by
  cases hv with
  | sl hk hl =>
    simp only [Rep] at hr
    obtain ⟨A, c, us, rfl, h2, h3, h4⟩ := hr
    exact ⟨us, src_at hk h0 h3 (by rw [h4.length, hl]) h4.one, h4, hl⟩
  | z0 hk =>
    simp only [Rep] at hr
    obtain ⟨A, rfl⟩ := hr
    exact ⟨[], src_at (ok := ok) hk h0 (.inl rfl) (by simp) (by simp), by simp [RepL], by simp⟩
  | @os e' s off _ f blk _ hk hR hH hl hy =>
    subst hy
    simp only [Rep] at hr
    have hlen : ((blk.drop off).take (m * sz)).length = m * sz := by rw [List.length_take, List.length_drop]; omega
    obtain ⟨_, ⟨b, c, o', cs, ty, fr, hb, rfl, h3, h4, h5, h6, h7⟩ | ⟨hg, rfl, A, rfl⟩⟩ := hr
    · rcases hs.tok s hR f blk hH with h8 | ⟨b', hb', us, rest, ty', fr', h9, h10, h11, h12⟩
      · rw [h8.1] at hb; cases hb
      rw [hb] at hb'; injection hb' with hb'; subst hb'
      have h13 := (h10.drop off).take (m * sz)
      refine ⟨_, ?_, h13, hlen⟩
      have hul : ((us.drop off).take (m * sz)).length = m * sz := by rw [h13.length, hlen]
      rcases h7 with h7 | h7
      · have hm : m = 0 := by omega
        subst hm
        simp only [Nat.zero_mul, List.take_zero] at hul ⊢
        exact src_at (ok := fun _ => True) hk h0 (.inl rfl) (by simp) (by simp)
      · subst h7
        exact src_at (ok := fun _ => True) hk h0 ((at_block h9 trivial).take _) hul h13.one
    · simp only [Nat.zero_mul, List.take_zero]
      exact ⟨[], src_at (ok := ok) hk h0 (.inl rfl) (by simp) (by simp), by simp [RepL], by simp⟩
  | str hk h1 =>
    subst h1
    simp only [Rep] at hr
    subst hr
    exact ⟨byteCells _, Src.ofString w hk _, repL_bytes _, by rw [bytesV_length, Nat.mul_one]⟩
end Go.Hg
