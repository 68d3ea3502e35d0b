/- Arguments read as data told by abstract values; a law's row out of its contract. No condition. -/
import Derived.Test.YtajlkpogccbboaaHgR
import Derived.Carry
import Derived.Deep.Slices
import Derived.ProofKit
import Derived.JoinedCond
import Derived.OpenShut
set_option linter.unusedVariables false
set_option linter.unusedSimpArgs false
namespace Go.Hg
open Go.RowKit Go.ChangeShapes Go.WideShapes Go.Deep

/-- A type, told. -/
inductive TD where
  | int (k : IntKind)
  | bool
  | str
  | sl (e : TD)
  | st (fs : List TD)

mutual
def TD.size : TD → Nat
  | .st fs => TD.sizes fs
  | _ => 1
def TD.sizes : List TD → Nat
  | [] => 0
  | d :: ds => TD.size d + TD.sizes ds
end
mutual
/-- Is the program's type t so? -/
def TD.Is (P : Program) : TD → TypeId → Prop
  | .int k, t => P.underlying t = some (.int k)
  | .bool, t => P.underlying t = some .bool
  | .str, t => P.underlying t = some .string
  | .sl d, t => ∃ e, P.underlying t = some (.slice e) ∧ P.cellsOf e = TD.size d ∧ TD.Is P d e
  | .st ds, t => ∃ fs : Array Field, P.underlying t = some (.struct fs) ∧ P.cellsOf t = TD.sizes ds ∧ TD.IsF P ds fs.toList 0
def TD.IsF (P : Program) : List TD → List Field → Nat → Prop
  | [], fs, _ => fs = []
  | d :: ds, fs, off => ∃ (f : Field) (r : List Field), fs = f :: r ∧ f.offset = off ∧ P.cellsOf f.type = TD.size d ∧ TD.Is P d f.type ∧ TD.IsF P ds r (off + TD.size d)
end
mutual
/-- Is a datum of the type? -/
def Has {H : Type} : TD → DataW H → Prop
  | .int k, x => ∃ n, x = .lit (.int k n) ∧ (Lit.int k n).wf = true
  | .bool, x => ∃ b, x = .lit (.bool b)
  | .str, x => ∃ s : ByteArray, x = .lit (.string s.data.toList) ∧ s.size ≤ maxLen
  | .sl d, x => x = .nil ∨ ∃ es sp, x = .slice es sp ∧ ∀ y ∈ es, Has d y
  | .st ds, x => ∃ ps, x = .agg ps ∧ HasL ds ps
def HasL {H : Type} : List TD → List (DataW H) → Prop
  | [], ps => ps = []
  | d :: ds, ps => ∃ p r, ps = p :: r ∧ Has d p ∧ HasL ds r
end
mutual
/-- A datum's cells. -/
def dV {H : Type} : DataW H → List V
  | .lit (.int k n) => [.int k n]
  | .lit (.bool b) => [.bool b]
  | .lit (.string s) => [.str ⟨s.toArray⟩]
  | .nil => [.sl 0 []]
  | .slice es _ => [.sl es.length (dVL es)]
  | .agg ps => dVL ps
  | _ => []
def dVL {H : Type} : List (DataW H) → List V
  | [] => []
  | d :: ds => dV d ++ dVL ds
end
theorem dVL_append {H : Type} : ∀ (a b : List (DataW H)), dVL (a ++ b) = dVL a ++ dVL b
  | [], b => rfl
  | x :: a, b => by simp only [List.cons_append, dVL, dVL_append a b, List.append_assoc]

section
variable {H : Type} {enc : TypeId × Value → H} {P : Program} {w : World} {base : Nat} {spare : Nat → Bool} {held : Bool}

theorem row_of {sz : Nat} {a : Addr} {e : TypeId} {m len n : Nat} (hle : len ≤ m) {D : Nat → DataW H} {Pl : Nat → List MemPlace} {d : TD} (hsz : P.cellsOf e = sz)
    (hx : ∀ i, i < m → ∃ cs', w.cells? base (a.add (i * P.cellsOf e)) (P.cellsOf e) = some cs' ∧ DataW.trod enc P w base spare held n e cs' = some (D i, Pl i))
    (hd : ∀ (fuel : Nat) (cs : List Value) (x : DataW H) (ps : List MemPlace), DataW.trod enc P w base spare held fuel e cs = some (x, ps) → Has d x ∧ RepL w (fun b => b < w.heap.size) (fun _ => none) (dV x) false cs) :
    ∀ k, k ≤ len → (∀ i, i < k → Has d (D i)) ∧ ∃ us : List Value, us.length = k * sz ∧ (∀ j u, us[j]? = some u → w.cell? (a.add j) = some u) ∧ RepL w (fun b => b < w.heap.size) (fun _ => none) (dVL ((List.range k).map D)) false us := by
  intro k
  induction k with
  | zero => exact fun _ => ⟨fun i hi => by omega, [], by simp, fun j u hj => by simp at hj, by simp [dVL, RepL]⟩
  | succ k ih =>
    intro hk
    obtain ⟨h1, us, h2, h3, h4⟩ := ih (by omega)
    obtain ⟨cs', hc, ht⟩ := hx k (by omega)
    obtain ⟨hh, hr⟩ := hd _ _ _ _ ht
    obtain ⟨_, hl, hcell⟩ := World.cells?_some hc
    rw [hsz] at hl hcell
    refine ⟨fun i hi => ?_, us ++ cs', by rw [List.length_append, h2, hl, Nat.succ_mul], fun j u hj => ?_, ?_⟩
    · rcases Nat.lt_or_ge i k with h | h
      · exact h1 i h
      · have : i = k := by omega
        subst this; exact hh
    · rcases Nat.lt_or_ge j us.length with h | h
      · rw [List.getElem?_append_left h] at hj
        exact h3 j u hj
      · rw [List.getElem?_append_right h] at hj
        have hlt : j - us.length < cs'.length := (List.getElem?_eq_some_iff.1 hj).1
        have := hcell (j - us.length) (by omega)
        rw [Addr.add_add, ← h2, show us.length + (j - us.length) = j by omega] at this
        rw [this]; exact hj
    · rw [List.range_succ, List.map_append, dVL_append]
      refine h4.append ?_
      simp only [List.map_cons, List.map_nil, dVL, List.append_nil]
      exact hr

theorem at_us {a : Addr} {us : List Value} (h : ∀ j u, us[j]? = some u → w.cell? (a.add j) = some u) : At w (fun b => b < w.heap.size) (some a) us := by
  cases us with
  | nil => exact .inl rfl
  | cons u us =>
    refine .inr ⟨a, rfl, ?_, h⟩
    have := World.block_lt_of_cell? w _ (h 0 u rfl)
    rwa [block_add] at this

mutual
theorem open_td : ∀ (d : TD) (t : TypeId) (fuel : Nat) (cs : List Value) (x : DataW H) (ps : List MemPlace), TD.Is P d t → DataW.trod enc P w base spare held fuel t cs = some (x, ps) →
    Has d x ∧ RepL w (fun b => b < w.heap.size) (fun _ => none) (dV x) false cs
  | .int k, t, fuel, cs, x, ps, hi, h => by
    simp only [TD.Is] at hi
    obtain ⟨n, rfl, hx, hw⟩ := DataW.trod_int hi h
    simp only [Prod.mk.injEq] at hx
    obtain ⟨rfl, _⟩ := hx
    simp only [Has, dV, RepL, Rep]
    exact ⟨⟨n, rfl, hw⟩, _, _, rfl, rfl, rfl, rfl⟩
  | .bool, t, fuel, cs, x, ps, hi, h => by
    simp only [TD.Is] at hi
    obtain ⟨n, rfl, hx⟩ := DataW.trod_bool hi h
    simp only [Prod.mk.injEq] at hx
    obtain ⟨rfl, _⟩ := hx
    simp only [Has, dV, RepL, Rep]
    exact ⟨⟨n, rfl⟩, _, _, rfl, rfl, rfl, rfl⟩
  | .str, t, fuel, cs, x, ps, hi, h => by
    simp only [TD.Is] at hi
    obtain ⟨n, rfl, hx, hw⟩ := DataW.trod_string hi h
    simp only [Prod.mk.injEq] at hx
    obtain ⟨rfl, _⟩ := hx
    simp only [Has, dV, RepL, Rep]
    exact ⟨⟨n, rfl, hw⟩, _, _, rfl, rfl, rfl, rfl⟩
  | .sl d, t, fuel, cs, x, ps, hi, h => by
    simp only [TD.Is] at hi
    obtain ⟨e, hu, hc, hd⟩ := hi
    rcases open_slice hu h with ⟨rfl, hx⟩ | ⟨a, len, cap, m, n, D, Pl, rfl, _, hl, hm, hmm, hx, hel⟩
    · simp only [Prod.mk.injEq] at hx
      obtain ⟨rfl, _⟩ := hx
      simp only [Has, dV, RepL, Rep]
      exact ⟨.inl trivial, _, _, rfl, rfl, ⟨none, 0, [], rfl, Nat.le_refl _, .inl rfl, rfl⟩, rfl⟩
    · simp only [Prod.mk.injEq] at hx
      obtain ⟨rfl, _⟩ := hx
      have hle : len ≤ m := by rw [hmm]; split <;> omega
      obtain ⟨h1, us, h2, h3, h4⟩ := row_of hle hc hel (fun fuel cs x ps h => open_td d e fuel cs x ps hd h) len (Nat.le_refl _)
      simp only [Has, dV, RepL, Rep]
      refine ⟨.inr ⟨_, _, rfl, fun y hy => ?_⟩, _, _, rfl, rfl, ⟨some a, cap, us, by simp, by simpa using hl, at_us h3, h4⟩, rfl⟩
      obtain ⟨i, hi, rfl⟩ := List.mem_map.1 hy
      exact h1 i (by simpa using hi)
  | .st ds, t, fuel, cs, x, ps, hi, h => by
    simp only [TD.Is] at hi
    obtain ⟨fs, hu, hc, hf⟩ := hi
    obtain ⟨xs, n, _, hx, hl, hxl, hg⟩ := DataW.trod_struct hu h
    simp only [Prod.mk.injEq] at hx
    obtain ⟨rfl, _⟩ := hx
    simp only [Has, dV]
    obtain ⟨h1, h2⟩ := open_tdL ds fs.toList 0 n cs xs hf (by simpa using hxl) (fun i f hi => hg i f (by simpa using hi)) (by omega)
    refine ⟨⟨_, rfl, h1⟩, ?_⟩
    rw [List.drop_zero, List.take_of_length_le (by omega)] at h2
    exact h2
theorem open_tdL : ∀ (ds : List TD) (fs : List Field) (off : Nat) (n : Nat) (cs : List Value) (xs : List (DataW H × List MemPlace)), TD.IsF P ds fs off → xs.length = fs.length →
    (∀ (i : Nat) (f : Field), fs[i]? = some f → DataW.trod enc P w base spare held n f.type ((cs.drop f.offset).take (P.cellsOf f.type)) = xs[i]?) → off + TD.sizes ds ≤ cs.length →
    HasL ds (xs.map (·.1)) ∧ RepL w (fun b => b < w.heap.size) (fun _ => none) (dVL (xs.map (·.1))) false ((cs.drop off).take (TD.sizes ds))
  | [], fs, off, n, cs, xs, hi, hl, hg, _ => by
    simp only [TD.IsF] at hi
    subst hi
    have : xs = [] := List.eq_nil_of_length_eq_zero hl
    subst this
    simp [HasL, dVL, RepL, TD.sizes]
  | d :: ds, fs, off, n, cs, xs, hi, hl, hg, hle => by
    simp only [TD.IsF] at hi
    obtain ⟨f, r, rfl, ho, hc, hd, hr⟩ := hi
    cases xs with
    | nil => simp at hl
    | cons x xs =>
      simp only [TD.sizes] at hle ⊢
      have h0 := hg 0 f rfl
      simp only [List.getElem?_cons_zero] at h0
      obtain ⟨h1, h2⟩ := open_td d f.type n _ x.1 x.2 hd (by rw [h0])
      obtain ⟨h3, h4⟩ := open_tdL ds r (off + TD.size d) n cs xs hr (by simpa using hl) (fun i f hi => by have := hg (i + 1) f (by simpa using hi); simpa using this) (by omega)
      simp only [List.map_cons, HasL, dVL]
      refine ⟨⟨_, _, rfl, h1, h3⟩, ?_⟩
      rw [List.take_add, List.drop_drop]
      rw [ho, hc] at h2
      exact h2.append h4
end

/-- An argument told. -/
def argV {H : Type} : TD → DataW H → V
  | .st _, x => .agg (dV x)
  | _, x => (dV x).headD .undef
def argVs {H : Type} : List TD → List (DataW H) → List V
  | d :: ds, x :: xs => argV d x :: argVs ds xs
  | _, _ => []
theorem rep_one {ok : Nat → Prop} {v : V} {l : List V} {u : Value} (h : RepL w ok (fun _ => none) l false [u]) : Rep w ok (fun _ => none) (l.headD .undef) false u := by
  cases l with
  | nil => simp [RepL] at h
  | cons v l =>
    simp only [RepL] at h
    obtain ⟨u', us, he, _, hr, _⟩ := h
    cases he
    exact hr
theorem open_arg {r : Reach} {b0 : Nat} {d : TD} {t : TypeId} {v : Value} {x : DataW H} {p : List MemPlace} (hi : TD.Is P d t) (hval : Value.okWide P w r b0 t v) (hd : DataW.Trod enc P w base spare held t v x p) :
    Has d x ∧ Rep w (fun b => b < w.heap.size) (fun _ => none) (argV d x) false v := by
  obtain ⟨fuel, hf⟩ := hd
  obtain ⟨h1, h2⟩ := open_td d t fuel _ x p hi hf
  refine ⟨h1, ?_⟩
  cases d with
  | st ds =>
    simp only [TD.Is] at hi
    obtain ⟨fs, hu, hc, _⟩ := hi
    unfold Value.okWide at hval
    rw [hu] at hval
    obtain ⟨cs, rfl, _⟩ := hval
    simp only [argV, Rep]
    exact ⟨cs.toList, by simp, by simpa [Value.cells] using h2⟩
  | int k =>
    simp only [TD.Is] at hi
    obtain ⟨n, rfl⟩ := okWide_int hi hval
    exact rep_one (v := .undef) (by simpa [Value.cells] using h2)
  | bool =>
    simp only [TD.Is] at hi
    unfold Value.okWide Cell.okWide Cell.ok at hval
    rw [hi] at hval
    cases v with
    | agg cs => simp at hval
    | _ => exact rep_one (v := .undef) (by simpa [Value.cells] using h2)
  | str =>
    simp only [TD.Is] at hi
    unfold Value.okWide Cell.okWide Cell.ok at hval
    rw [hi] at hval
    cases v with
    | agg cs => simp at hval
    | _ => exact rep_one (v := .undef) (by simpa [Value.cells] using h2)
  | sl e =>
    simp only [TD.Is] at hi
    obtain ⟨e', hu, _⟩ := hi
    obtain ⟨a0, len, cap, rfl⟩ := okWide_slice hu hval
    exact rep_one (v := .undef) (by simpa [Value.cells] using h2)

def IsL (P : Program) : List TD → List TypeId → Prop
  | [], ts => ts = []
  | d :: ds, ts => ∃ t r, ts = t :: r ∧ TD.Is P d t ∧ IsL P ds r
theorem open_args {r : Reach} {b0 : Nat} : ∀ {Ds : List TD} {ts : List TypeId} {vs : List Value} {xs : List (DataW H)} {p : List MemPlace}, IsL P Ds ts → (∀ (j : Nat) t v, ts[j]? = some t → vs[j]? = some v → Value.okWide P w r b0 t v) →
    DataW.TrodAll enc P w base spare held ts vs xs p → HasL Ds xs ∧ RepT w (fun b => b < w.heap.size) (fun _ => none) (argVs Ds xs) false vs
  | [], ts, vs, xs, p, hi, _, h => by
    simp only [IsL] at hi
    subst hi
    obtain ⟨rfl, rfl, rfl⟩ := trodAll_nil h
    simp [HasL, argVs, RepT]
  | d :: Ds, ts, vs, xs, p, hi, hval, h => by
    simp only [IsL] at hi
    obtain ⟨t, ts', rfl, hd, hr⟩ := hi
    obtain ⟨v, vs', x, xs', a, b, rfl, rfl, rfl, h1, h2⟩ := trodAll_cons h
    obtain ⟨h3, h4⟩ := open_arg hd (hval 0 t v rfl rfl) h1
    obtain ⟨h5, h6⟩ := open_args hr (fun j t v ht hv => hval (j + 1) t v (by simpa using ht) (by simpa using hv)) h2
    simp only [HasL, argVs, RepT]
    exact ⟨⟨_, _, rfl, h3, h5⟩, _, _, rfl, h4, h6⟩
theorem trodAll_below (hl : laidOutB P = true) {W W' : World} (hb : Below W.heap.size W W') : ∀ {ts : List TypeId} {vs : List Value} {xs : List (DataW H)} {p : List MemPlace}, (∀ t ∈ ts, P.readableRec t = true ∧ t < P.types.size) →
    DataW.TrodAll enc P W 0 (fun _ => true) true ts vs xs p → (∀ x ∈ p, x.block < W.heap.size) → DataW.TrodAll enc P W' 0 (fun b => decide (b < W.heap.size)) true ts vs xs p
  | [], vs, xs, p, _, h, _ => by
    obtain ⟨rfl, rfl, rfl⟩ := trodAll_nil h
    exact trodAll_mk0
  | t :: ts, vs, xs, p, hr, h, hlt => by
    obtain ⟨v, vs', x, xs', a, b, rfl, rfl, rfl, h1, h2⟩ := trodAll_cons h
    exact trodAll_cons_mk (Below.trod hl (hr t (by simp)).1 (hr t (by simp)).2 h1 hb (fun x hx => hlt x (by simp [hx]))) (trodAll_below hl hb (fun t ht => hr t (by simp [ht])) h2 (fun x hx => hlt x (by simp [hx])))

/-- A law's contract for its row: it answers true, and leaves what came in. -/
theorem law_contract {fid : FuncId} {fn : Func} {s : ChangeSpec} {Ds : List TD} {tb : TypeId} {W : World} {b0 : Nat} {args : Array Value} {ds gs : List (DataW H)} {before : List MemPlace}
    (hres : fn.resultTypes = #[tb]) (htb : P.underlying tb = some .bool) (hvars : s.vars = []) (hIs : IsL P Ds fn.params.toList) (hl : laidOutB P = true) (hread : ∀ t ∈ fn.params.toList, P.readableRec t = true ∧ t < P.types.size)
    (hval : ∀ (j : Nat) t v, fn.params[j]? = some t → args[j]? = some v → Value.okWide P W .any b0 t v) (hW : DataW.Whole enc P fn.params.toList s.vars false W args.toList ds gs before)
    (hspec : HasL Ds ds → s.fn H ds = { results := [.lit (.bool true)], args := ds }) (hac : HasL Ds ds → AC P fid (argVs Ds ds) (.bool true)) :
    Calls P fid args W fun e W' => ∃ v, e = .returned v ∧ s.post enc P fn false true false false W args v W' := by
  have hW' := hW
  obtain ⟨p, q, hA, hV, rfl, _, _⟩ := hW
  rw [hvars] at hV
  obtain ⟨rfl, rfl⟩ := trodVars_none hV
  obtain ⟨hh, hr⟩ := open_args hIs (fun j t v ht hv => hval j t v (by simpa using ht) (by simpa using hv)) hA
  have hlt : ∀ x ∈ p, x.block < W.heap.size := fun x hx => hW'.lt x (by simp [hx])
  have hc := hac hh W _ args.toList (fun b hb => hb) hr
  rw [Array.toArray_toList] at hc
  refine hc.mono ?_
  rintro e W' ⟨u, rfl, hu, hb⟩
  simp only [Rep] at hu
  subst hu
  have hs := hspec hh
  have e0 : ds ++ [] = ds := by simp
  refine ⟨_, rfl, ds, [], p ++ [], [], p, [], hW', ?_, ?_, ?_, hb.frame _, fun h => by cases h⟩
  · rw [hres, e0, hs]
    exact trodAll_mk1 (shut_bool htb _)
  · rw [e0, hs]
    exact trodAll_below hl hb hread hA hlt
  · rw [hvars, e0, hs]
    simp [DataW.TrodVars]
end

/-! ### how much a datum holds -/
mutual
def bulk {H : Type} : DataW H → Nat
  | .lit (.string bytes) => bytes.length + 1
  | .lit _ => 1
  | .nil => 1
  | .ptr d => bulk d + 1
  | .slice elems spare => bulkAll elems + bulkAll spare + 1
  | .agg parts => bulkAll parts + 1
  | .iface _ d => bulk d + 1
  | .map entries => bulkEntries entries + 1
  | .held _ => 1
def bulkAll {H : Type} : List (DataW H) → Nat
  | [] => 0
  | d :: r => bulk d + bulkAll r
def bulkEntries {H : Type} : List (Lit × DataW H) → Nat
  | [] => 0
  | x :: r => bulkEntry x + bulkEntries r
def bulkEntry {H : Type} : Lit × DataW H → Nat
  | (.string bytes, d) => bytes.length + bulk d + 1
  | (_, d) => bulk d + 1
end
theorem bulk_one {H : Type} (d : DataW H) : 1 ≤ bulk d := by
  cases d with
  | lit l => cases l <;> simp [bulk]
  | _ => simp [bulk]
theorem bulk_part {H : Type} {d : DataW H} {l : List (DataW H)} (h : d ∈ l) : bulk d ≤ bulkAll l := by
  induction l with
  | nil => cases h
  | cons x r ih =>
    simp only [bulkAll]
    cases List.mem_cons.1 h with
    | inl e => subst e; omega
    | inr e => have := ih e; omega
theorem bulk_length {H : Type} (l : List (DataW H)) : l.length ≤ bulkAll l := by
  induction l with
  | nil => simp [bulkAll]
  | cons x r ih => have := bulk_one x; simp only [bulkAll, List.length_cons]; omega
theorem dec_list {H : Type} {α : Type} {B : Nat} {enc : α → List V} {d : TD} {Q : α → Prop} : ∀ {es : List (DataW H)}, (∀ y : DataW H, Has d y → bulk y ≤ B → ∃ a, dV y = enc a ∧ Q a) → (∀ y ∈ es, Has d y) → bulkAll es ≤ B →
    ∃ l : List α, l.length = es.length ∧ dVL es = l.flatMap enc ∧ ∀ a ∈ l, Q a
  | [], _, _, _ => ⟨[], rfl, rfl, fun a h => by cases h⟩
  | y :: es, hd, hh, hb => by
    simp only [bulkAll] at hb
    obtain ⟨a, h1, h2⟩ := hd y (hh y (by simp)) (by omega)
    obtain ⟨l, h3, h4, h5⟩ := dec_list (es := es) hd (fun y hy => hh y (by simp [hy])) (by omega)
    refine ⟨a :: l, by simp [h3], by simp only [dVL, List.flatMap_cons, h1, h4], fun b hb => ?_⟩
    rcases List.mem_cons.1 hb with rfl | hb
    · exact h2
    · exact h5 b hb
/-- A slice, told as a list. -/
theorem dec_sl {H : Type} {α : Type} {B : Nat} {enc : α → List V} {d : TD} {Q : α → Prop} {x : DataW H} (hd : ∀ y : DataW H, Has d y → bulk y ≤ B → ∃ a, dV y = enc a ∧ Q a) (h : Has (.sl d) x) (hb : bulk x ≤ B) :
    ∃ l : List α, dV x = [.sl l.length (l.flatMap enc)] ∧ l.length + 1 ≤ bulk x ∧ ∀ a ∈ l, Q a := by
  simp only [Has] at h
  rcases h with rfl | ⟨es, sp, rfl, hh⟩
  · exact ⟨[], rfl, by simp [bulk], fun a h => by cases h⟩
  · simp only [bulk] at hb ⊢
    obtain ⟨l, h1, h2, h3⟩ := dec_list hd hh (by omega)
    refine ⟨l, by simp only [dV, h1, h2], ?_, h3⟩
    have := bulk_length es
    omega
theorem dec_sl_any {H : Type} {d : TD} {x : DataW H} (h : Has (.sl d) x) : ∃ n cs, dV x = [.sl n cs] := by
  simp only [Has] at h
  rcases h with rfl | ⟨es, sp, rfl, hh⟩
  · exact ⟨_, _, rfl⟩
  · exact ⟨_, _, rfl⟩
theorem dec_int {H : Type} {x : DataW H} (h : Has (.int .i64) x) : ∃ z : Int, dV x = [.int .i64 z] ∧ -9223372036854775808 ≤ z ∧ z ≤ 9223372036854775807 := by
  simp only [Has] at h
  obtain ⟨n, rfl, hw⟩ := h
  simp [Lit.wf, IntKind.min, IntKind.max, IntKind.signed, IntKind.bits] at hw
  exact ⟨n, rfl, by omega, by omega⟩
theorem dec_bool {H : Type} {x : DataW H} (h : Has .bool x) : ∃ b : Bool, dV x = [.bool b] := by
  simp only [Has] at h
  obtain ⟨n, rfl⟩ := h
  exact ⟨n, rfl⟩
end Go.Hg
