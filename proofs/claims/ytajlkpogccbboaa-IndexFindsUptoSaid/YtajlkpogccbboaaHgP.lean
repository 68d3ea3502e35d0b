/- The rules once more, in the forms that a printed walk uses. No condition. -/
import Derived.Test.YtajlkpogccbboaaHgO
import Derived.WideLaws
import Derived.Laws.BitsLemmas
set_option linter.unusedVariables false
set_option linter.unusedSimpArgs false
namespace Go.Hg
open Go.RowKit

section
variable {P : Program} {ops : Array Oper} {rest : List Oper} {env : Env} {H : Heap} {sz : Nat} {K : St → Prop} {d : Nat} {op : Op} {ty : TypeId} {ps : String} {af : Array Edge} {R : List Nat} {v : V} {t t' : Nat} {b b' : Option Blk} {nw : List Nat}

theorem s1 (hok : opOk ⟨some d, op, ty, ps, af, none⟩ sz = true) (h : LOp P ⟨some d, op, ty, ps, af, none⟩ env H R v [] []) (hr : OpsOk P ops rest ⟨(d, v) :: env, H, sz⟩ K) : OpsOk P ops (⟨some d, op, ty, ps, af, none⟩ :: rest) ⟨env, H, sz⟩ K := op_seq rfl hok h rfl hr
theorem s1w (hok : opOk ⟨some d, op, ty, ps, af, none⟩ sz = true) (h : LOp P ⟨some d, op, ty, ps, af, none⟩ env H R v [(t, b)] nw) (hf : freshAll nw env H = true) (hr : OpsOk P ops rest ⟨(d, v) :: env, (t, b) :: H, sz⟩ K) : OpsOk P ops (⟨some d, op, ty, ps, af, none⟩ :: rest) ⟨env, H, sz⟩ K := op_seq rfl hok h hf hr
theorem s2w (hok : opOk ⟨some d, op, ty, ps, af, none⟩ sz = true) (h : LOp P ⟨some d, op, ty, ps, af, none⟩ env H R v [(t, b), (t', b')] nw) (hf : freshAll nw env H = true) (hr : OpsOk P ops rest ⟨(d, v) :: env, (t, b) :: (t', b') :: H, sz⟩ K) : OpsOk P ops (⟨some d, op, ty, ps, af, none⟩ :: rest) ⟨env, H, sz⟩ K := op_seq rfl hok h hf hr
theorem s0w (hok : opOk ⟨none, op, ty, ps, af, none⟩ sz = true) (h : LOp P ⟨none, op, ty, ps, af, none⟩ env H R v [(t, b)] []) (hr : OpsOk P ops rest ⟨env, (t, b) :: H, sz⟩ K) : OpsOk P ops (⟨none, op, ty, ps, af, none⟩ :: rest) ⟨env, H, sz⟩ K := op_seq rfl hok h rfl hr
theorem s0 (hok : opOk ⟨none, op, ty, ps, af, none⟩ sz = true) (h : LOp P ⟨none, op, ty, ps, af, none⟩ env H R v [] []) (hr : OpsOk P ops rest ⟨env, H, sz⟩ K) : OpsOk P ops (⟨none, op, ty, ps, af, none⟩ :: rest) ⟨env, H, sz⟩ K := op_seq rfl hok h rfl hr

variable {j g : Nat} {want c : Bool}
theorem y1 (hj : guardSlot ops j = some g) (ht : get env g = .bool c) (hb : c = want) (hok : opOk ⟨some d, op, ty, ps, af, some (j, want)⟩ sz = true) (h : LOp P ⟨some d, op, ty, ps, af, some (j, want)⟩ env H R v [] []) (hr : OpsOk P ops rest ⟨(d, v) :: env, H, sz⟩ K) : OpsOk P ops (⟨some d, op, ty, ps, af, some (j, want)⟩ :: rest) ⟨env, H, sz⟩ K := op_yes rfl hj ht hb hok h rfl hr
theorem y1w (hj : guardSlot ops j = some g) (ht : get env g = .bool c) (hb : c = want) (hok : opOk ⟨some d, op, ty, ps, af, some (j, want)⟩ sz = true) (h : LOp P ⟨some d, op, ty, ps, af, some (j, want)⟩ env H R v [(t, b)] nw) (hf : freshAll nw env H = true) (hr : OpsOk P ops rest ⟨(d, v) :: env, (t, b) :: H, sz⟩ K) : OpsOk P ops (⟨some d, op, ty, ps, af, some (j, want)⟩ :: rest) ⟨env, H, sz⟩ K := op_yes rfl hj ht hb hok h hf hr
theorem y0w (hj : guardSlot ops j = some g) (ht : get env g = .bool c) (hb : c = want) (hok : opOk ⟨none, op, ty, ps, af, some (j, want)⟩ sz = true) (h : LOp P ⟨none, op, ty, ps, af, some (j, want)⟩ env H R v [(t, b)] []) (hr : OpsOk P ops rest ⟨env, (t, b) :: H, sz⟩ K) : OpsOk P ops (⟨none, op, ty, ps, af, some (j, want)⟩ :: rest) ⟨env, H, sz⟩ K := op_yes rfl hj ht hb hok h rfl hr
theorem n1 (hj : guardSlot ops j = some g) (ht : get env g = .bool c) (hb : c = !want) (hr : OpsOk P ops rest ⟨(d, .undef) :: env, H, sz⟩ K) : OpsOk P ops (⟨some d, op, ty, ps, af, some (j, want)⟩ :: rest) ⟨env, H, sz⟩ K := op_no rfl hj ht hb hr
theorem n0 (hj : guardSlot ops j = some g) (ht : get env g = .bool c) (hb : c = !want) (hr : OpsOk P ops rest ⟨env, H, sz⟩ K) : OpsOk P ops (⟨none, op, ty, ps, af, some (j, want)⟩ :: rest) ⟨env, H, sz⟩ K := op_no rfl hj ht hb hr
/-- Which way a guard says. -/
theorem gsplit {l : List Oper} (j : Nat) (hj : guardSlot ops j = some g) (ht : get env g = .bool c) (h1 : c = true → OpsOk P ops l ⟨env, H, sz⟩ K) (h0 : c = false → OpsOk P ops l ⟨env, H, sz⟩ K) : OpsOk P ops l ⟨env, H, sz⟩ K := by
  cases c
  · exact h0 rfl
  · exact h1 rfl

theorem gsplitP {l : List Oper} {p : Prop} [Decidable p] (j : Nat) (hj : guardSlot ops j = some g) (ht : get env g = .bool (decide p)) (h1 : decide p = true → p → OpsOk P ops l ⟨env, H, sz⟩ K) (h0 : decide p = false → ¬ p → OpsOk P ops l ⟨env, H, sz⟩ K) : OpsOk P ops l ⟨env, H, sz⟩ K :=
  gsplit j hj ht (fun h => h1 h (of_decide_eq_true h)) (fun h => h0 h (of_decide_eq_false h))
theorem gsplitB {l : List Oper} (j : Nat) (hj : guardSlot ops j = some g) (ht : get env g = .bool c) (h1 : c = true → c = true → OpsOk P ops l ⟨env, H, sz⟩ K) (h0 : c = false → c = false → OpsOk P ops l ⟨env, H, sz⟩ K) : OpsOk P ops l ⟨env, H, sz⟩ K :=
  gsplit j hj ht (fun h => h1 h h) (fun h => h0 h h)

theorem lop_buildK {env : Env} {H : Heap} {d : Option Tmp} {ty : TypeId} {ps : String} {af : Array Edge} {gd : Option (Nat × Bool)} {parts : Array (Nat × Operand)} {T : TypeId} {fs : Array Field} {z : Value} {pl : Array (Nat × Nat)} {cs : List V} (hT : P.underlying T = some (.struct fs)) (hz : ∀ w, (zeroValue T).run P w = .ok z w) (hk : okC z = true) (hsol : (ofC z).solid = true)
    (hpl : ∀ w, (placesOf (P.fieldsOf T)).run P w = .ok pl w) (hf : vfill (fun i => pl[i]?) (ofC z).cells (evp (get env) parts.toList) = some cs) : LOp P ⟨d, .build T parts, ty, ps, af, gd⟩ env H [] (.agg cs) [] [] :=
  lop_build hT hz hk hsol (by have : P.fieldsOf T = fs := by simp [Program.fieldsOf, hT]
                              rw [← this]; exact hpl) hf
theorem lop_make2 {env : Env} {H : Heap} {d : Option Tmp} {ty : TypeId} {ps : String} {af : Array Edge} {gd : Option (Nat × Bool)} {x y : Operand} {T e t sz n bytes : Nat} {k k' : IntKind} {a b : Int} {z : Value} {cs : List V} (hx : ev (get env) x = .int k a) (hy : ev (get env) y = .int k' b) (ha : a = (n : Int)) (hb : b = (n : Int)) (hT : P.underlying T = some (.slice e)) (hi : EInfo P e sz bytes z) (hz : okZ z sz = true)
    (hn : n * bytes ≤ 281474976710656) (hn63 : n ≤ 9223372036854775807) (hcs : (List.replicate n (ofC z).cells).flatten = cs) : LOp P ⟨d, .makeSlice T x y, ty, ps, af, gd⟩ env H [] (.os t 0 sz n) [(t, some (true, cs))] [t] := by
  obtain ⟨i, hin, hiz, hs, hby⟩ := hi.out
  obtain ⟨hk, hsol, hzl, h0, htf⟩ := okZ.out hz
  subst hby
  exact lop_make hx hy ha hb hT hin hiz hs h0 hk hsol htf hzl hn hn63 hcs
theorem lop_slice_slK {env : Env} {H : Heap} {d' : Option Tmp} {ty' : TypeId} {ps' : String} {af' : Array Edge} {gd' : Option (Nat × Bool)} {x : Operand} {lo hi : Option Operand} {n l h sz m : Nat} {cs ys : List V} {T e : TypeId} (hx : ev (get env) x = .sl n cs) (hT : P.underlying T = some (.slice e)) (hsz : ∀ w, (sizeOf e).run P w = .ok sz w) (hl : cs.length = n * sz) (hlo : Bd (get env) lo 0 l) (hhi : Bd (get env) hi n h) (h1 : l ≤ h) (h2 : h ≤ n)
    (hm : h - l = m) (hy : (cs.drop (l * sz)).take (m * sz) = ys) : LOp P ⟨d', .slice T x lo hi none, ty', ps', af', gd'⟩ env H [] (.sl m ys) [] [] := by
  subst hm
  exact lop_slice_sl hx hT hsz hl hlo hhi h1 h2 hy
theorem lop_storeK {env : Env} {H : Heap} {T n t off : Nat} {f f' : Bool} {cs cs' : List V} {x y : Operand} {v : V} {d : Option Tmp} {ty : TypeId} {ps : String} {af : Array Edge} {gd : Option (Nat × Bool)}
    (hx : ev (get env) x = .rf t off) (hH : hget H t = some (f, cs)) (hy : ev (get env) y = v) (hsz : ∀ w, (sizeOf T).run P w = .ok n w) (hsol : v.solid = true) (hn : v.cells.length = n) (hl : Nat.ble (off + n) cs.length = true) (hc : vsplice cs off v.cells = cs') (hf : (f && tf v) = f') :
    LOp P ⟨d, .store T x y, ty, ps, af, gd⟩ env H [t] .undef [(t, some (f', cs'))] [] := by
  subst hc hf
  exact lop_store hx hH hy hsz hsol hn (Nat.le_of_ble_eq_true hl)

/-! ### the same in regions whose order is drawn -/
variable {acc : List Rec} {S0 : St}
theorem d1 (hok : opOk ⟨some d, op, ty, ps, af, none⟩ sz = true) (hs : sz = S0.sz) (h : LOp P ⟨some d, op, ty, ps, af, none⟩ env H R v [] []) (hr : DR P ops S0 rest (acc ++ [⟨rdOf ⟨some d, op, ty, ps, af, none⟩, some d, v, R, [], []⟩]) ⟨(d, v) :: env, H, sz⟩ K) : DR P ops S0 (⟨some d, op, ty, ps, af, none⟩ :: rest) acc ⟨env, H, sz⟩ K := dr_seq rfl hok hs h hr
theorem d1w (hok : opOk ⟨some d, op, ty, ps, af, none⟩ sz = true) (hs : sz = S0.sz) (h : LOp P ⟨some d, op, ty, ps, af, none⟩ env H R v [(t, b)] nw) (hr : DR P ops S0 rest (acc ++ [⟨rdOf ⟨some d, op, ty, ps, af, none⟩, some d, v, R, [(t, b)], nw⟩]) ⟨(d, v) :: env, (t, b) :: H, sz⟩ K) : DR P ops S0 (⟨some d, op, ty, ps, af, none⟩ :: rest) acc ⟨env, H, sz⟩ K := dr_seq rfl hok hs h hr
theorem d2w (hok : opOk ⟨some d, op, ty, ps, af, none⟩ sz = true) (hs : sz = S0.sz) (h : LOp P ⟨some d, op, ty, ps, af, none⟩ env H R v [(t, b), (t', b')] nw) (hr : DR P ops S0 rest (acc ++ [⟨rdOf ⟨some d, op, ty, ps, af, none⟩, some d, v, R, [(t, b), (t', b')], nw⟩]) ⟨(d, v) :: env, (t, b) :: (t', b') :: H, sz⟩ K) : DR P ops S0 (⟨some d, op, ty, ps, af, none⟩ :: rest) acc ⟨env, H, sz⟩ K := dr_seq rfl hok hs h hr
theorem d0w (hok : opOk ⟨none, op, ty, ps, af, none⟩ sz = true) (hs : sz = S0.sz) (h : LOp P ⟨none, op, ty, ps, af, none⟩ env H R v [(t, b)] []) (hr : DR P ops S0 rest (acc ++ [⟨rdOf ⟨none, op, ty, ps, af, none⟩, none, v, R, [(t, b)], []⟩]) ⟨env, (t, b) :: H, sz⟩ K) : DR P ops S0 (⟨none, op, ty, ps, af, none⟩ :: rest) acc ⟨env, H, sz⟩ K := dr_seq rfl hok hs h hr
theorem d0 (hok : opOk ⟨none, op, ty, ps, af, none⟩ sz = true) (hs : sz = S0.sz) (h : LOp P ⟨none, op, ty, ps, af, none⟩ env H R v [] []) (hr : DR P ops S0 rest (acc ++ [⟨rdOf ⟨none, op, ty, ps, af, none⟩, none, v, R, [], []⟩]) ⟨env, H, sz⟩ K) : DR P ops S0 (⟨none, op, ty, ps, af, none⟩ :: rest) acc ⟨env, H, sz⟩ K := dr_seq rfl hok hs h hr
theorem dy1 (hj : guardSlot ops j = some g) (ht : get env g = .bool c) (hb : c = want) (hok : opOk ⟨some d, op, ty, ps, af, some (j, want)⟩ sz = true) (hs : sz = S0.sz) (h : LOp P ⟨some d, op, ty, ps, af, some (j, want)⟩ env H R v [] []) (hr : DR P ops S0 rest (acc ++ [⟨g :: rdOf ⟨some d, op, ty, ps, af, some (j, want)⟩, some d, v, R, [], []⟩]) ⟨(d, v) :: env, H, sz⟩ K) : DR P ops S0 (⟨some d, op, ty, ps, af, some (j, want)⟩ :: rest) acc ⟨env, H, sz⟩ K := dr_yes rfl hj ht hb hok hs h hr
theorem dy1w (hj : guardSlot ops j = some g) (ht : get env g = .bool c) (hb : c = want) (hok : opOk ⟨some d, op, ty, ps, af, some (j, want)⟩ sz = true) (hs : sz = S0.sz) (h : LOp P ⟨some d, op, ty, ps, af, some (j, want)⟩ env H R v [(t, b)] nw) (hr : DR P ops S0 rest (acc ++ [⟨g :: rdOf ⟨some d, op, ty, ps, af, some (j, want)⟩, some d, v, R, [(t, b)], nw⟩]) ⟨(d, v) :: env, (t, b) :: H, sz⟩ K) : DR P ops S0 (⟨some d, op, ty, ps, af, some (j, want)⟩ :: rest) acc ⟨env, H, sz⟩ K := dr_yes rfl hj ht hb hok hs h hr
theorem dy0w (hj : guardSlot ops j = some g) (ht : get env g = .bool c) (hb : c = want) (hok : opOk ⟨none, op, ty, ps, af, some (j, want)⟩ sz = true) (hs : sz = S0.sz) (h : LOp P ⟨none, op, ty, ps, af, some (j, want)⟩ env H R v [(t, b)] []) (hr : DR P ops S0 rest (acc ++ [⟨g :: rdOf ⟨none, op, ty, ps, af, some (j, want)⟩, none, v, R, [(t, b)], []⟩]) ⟨env, (t, b) :: H, sz⟩ K) : DR P ops S0 (⟨none, op, ty, ps, af, some (j, want)⟩ :: rest) acc ⟨env, H, sz⟩ K := dr_yes rfl hj ht hb hok hs h hr
theorem dn1 (hj : guardSlot ops j = some g) (ht : get env g = .bool c) (hb : c = !want) (hs : sz = S0.sz) (hr : DR P ops S0 rest (acc ++ [⟨[g], some d, .undef, [], [], []⟩]) ⟨(d, .undef) :: env, H, sz⟩ K) : DR P ops S0 (⟨some d, op, ty, ps, af, some (j, want)⟩ :: rest) acc ⟨env, H, sz⟩ K := dr_no rfl hj ht hb hs hr
theorem dn0 (hj : guardSlot ops j = some g) (ht : get env g = .bool c) (hb : c = !want) (hs : sz = S0.sz) (hr : DR P ops S0 rest (acc ++ [⟨[g], none, .undef, [], [], []⟩]) ⟨env, H, sz⟩ K) : DR P ops S0 (⟨none, op, ty, ps, af, some (j, want)⟩ :: rest) acc ⟨env, H, sz⟩ K := dr_no rfl hj ht hb hs hr
theorem dsplit {l : List Oper} (j : Nat) (hj : guardSlot ops j = some g) (ht : get env g = .bool c) (h1 : c = true → DR P ops S0 l acc ⟨env, H, sz⟩ K) (h0 : c = false → DR P ops S0 l acc ⟨env, H, sz⟩ K) : DR P ops S0 l acc ⟨env, H, sz⟩ K := by
  cases c
  · exact h0 rfl
  · exact h1 rfl
theorem dsplitP {l : List Oper} {p : Prop} [Decidable p] (j : Nat) (hj : guardSlot ops j = some g) (ht : get env g = .bool (decide p)) (h1 : decide p = true → p → DR P ops S0 l acc ⟨env, H, sz⟩ K) (h0 : decide p = false → ¬ p → DR P ops S0 l acc ⟨env, H, sz⟩ K) : DR P ops S0 l acc ⟨env, H, sz⟩ K :=
  dsplit j hj ht (fun h => h1 h (of_decide_eq_true h)) (fun h => h0 h (of_decide_eq_false h))
theorem dsplitB {l : List Oper} (j : Nat) (hj : guardSlot ops j = some g) (ht : get env g = .bool c) (h1 : c = true → c = true → DR P ops S0 l acc ⟨env, H, sz⟩ K) (h0 : c = false → c = false → DR P ops S0 l acc ⟨env, H, sz⟩ K) : DR P ops S0 l acc ⟨env, H, sz⟩ K :=
  dsplit j hj ht (fun h => h1 h h) (fun h => h0 h h)
end

/-! ### what is never written again -/
def frEnv (H : Heap) (env : Env) (R : List Nat) : Env → Prop
  | [] => True
  | (x, v) :: r => ((get env x = v ∧ R.all (fun t => !men t v) = true) ∨ Frz (hget H) R (get env x) v) ∧ frEnv H env R r
def frHeap (H : Heap) (R : List Nat) : Heap → Prop
  | [] => True
  | (t, b) :: r => (b = none ∨ (hget H t = b ∧ memN t R = false ∧ match b with | some (false, cs) => R.all (fun t => !menL t cs) = true | _ => True)) ∧ frHeap H R r
theorem frEnv_get {H : Heap} {env : Env} {R : List Nat} : ∀ {env' : Env}, frEnv H env R env' → ∀ x, get env' x = .undef ∨ (get env x = get env' x ∧ R.all (fun t => !men t (get env' x)) = true) ∨ Frz (hget H) R (get env x) (get env' x)
  | [], _, x => .inl rfl
  | (y, v) :: r, h, x => by
    simp only [get]
    cases hx : Nat.beq x y with
    | true =>
      have : x = y := Nat.eq_of_beq_eq_true hx
      subst this
      exact .inr h.1
    | false => exact frEnv_get h.2 x
theorem frHeap_get {H : Heap} {R : List Nat} : ∀ {H' : Heap}, frHeap H R H' → ∀ t, hget H' t = none ∨ (hget H t = hget H' t ∧ ¬ t ∈ R ∧ ∀ cs, hget H' t = some (false, cs) → ∀ r ∈ R, menL r cs = false)
  | [], _, t => .inl rfl
  | (y, b) :: r, h, t => by
    simp only [hget]
    cases hx : Nat.beq t y with
    | true =>
      have : t = y := Nat.eq_of_beq_eq_true hx
      subst this
      rcases h.1 with h1 | ⟨h1, h2, h3⟩
      · exact .inl h1
      · refine .inr ⟨h1, fun hm => absurd (memN_iff.2 hm) (by rw [h2]; simp), fun cs hcs r hr => ?_⟩
        simp only [cond_true] at hcs
        subst hcs
        have := List.all_eq_true.1 h3 r hr
        simpa using this
    | false => exact frHeap_get h.2 t
/-- Blocks that are never written again may be read by all. -/
theorem le_frz (R : List Nat) {S T : St} (he : frEnv S.H S.env R T.env) (hh : frHeap S.H R T.H) (hR : ∀ t ∈ R, hget S.H t ≠ none) (hs : S.sz = T.sz) : Le S T := by
  rintro w0 F a w ⟨ok, G, hsim, hr, h1, h2⟩
  have hblk : ∀ t ∈ R, ∀ b, G t = some b → b < w.heap.size ∧ (F.mine b ∨ w0.heap.size ≤ b) := fun t ht b hb => by
    cases hg : hget S.H t with
    | none => exact absurd hg (hR t ht)
    | some bl =>
      obtain ⟨f, cs⟩ := bl
      rcases hsim.tok t f cs hg with h0 | ⟨b', hb', h3, _, us, rest, ty, fr, h4, _⟩
      · rw [h0.1] at hb; cases hb
      · rw [hb] at hb'; injection hb' with hb'; subst hb'
        exact ⟨(Array.getElem?_eq_some_iff.1 h4).1, h3⟩
  have hmv : Mv w ok G w (okR ok G R) G := ⟨fun _ _ => rfl, fun b hb => .inl hb, fun _ cs _ fr h => ⟨cs, fr, h, rfl⟩⟩
  refine ⟨okR ok G R, G, ⟨hsim.below, ?_, ?_, fun b hb => .inl (hsim.oko b hb), ?_, ?_⟩, fun x => ?_, by rw [← hs]; exact h1, h2⟩
  · rintro b (hb | ⟨t, ht, hb⟩)
    · exact hsim.okb b hb
    · exact (hblk t ht b hb).1
  · rintro b (hb | ⟨t, ht, hb⟩)
    · exact hsim.okn b hb
    · exact .inr (hblk t ht b hb).2
  · intro t f cs ht
    rcases frHeap_get hh t with h3 | ⟨h3, h4, h5⟩
    · rw [h3] at ht; cases ht
    · rcases hsim.tok t f cs (h3.trans ht) with h0 | ⟨b, hb, h6, h7, us, rest, ty, fr, h8, h9, h10⟩
      · exact .inl h0
      · refine .inr ⟨b, hb, h6, ?_, us, rest, ty, fr, h8, RepL.mv hmv cs _ us (fun _ _ _ => rfl) h9, h10⟩
        rintro (hk | ⟨t2, ht2, hb2⟩)
        · exact h7 hk
        · have : t = t2 := hsim.inj t t2 b (by rw [h3, ht]; simp) (hR t2 ht2) hb hb2
          subst this
          exact h4 ht2
  · intro t t' b h3 h4 h5 h6
    have key : ∀ t, hget T.H t ≠ none → hget S.H t ≠ none := fun t ht => by
      rcases frHeap_get hh t with h7 | ⟨h7, _⟩
      · exact absurd h7 ht
      · rw [h7]; exact ht
    exact hsim.inj t t' b (key t h3) (key t' h4) h5 h6
  · rcases frEnv_get he x with h3 | ⟨h3, h4⟩ | h3
    · rw [h3]; simp [Rep]
    · have h5 := hr x
      rw [h3] at h5
      exact Rep.mv hmv _ true _ (fun _ _ _ => rfl) h5
    · exact Rep.to_true _ _ (Frz.sound (hsim.sees R) (G0 := G) h3 (hr x))

/-! ### ends -/
theorem ret_none {P : Program} {fn : Func} {S : St} (h : fn.results.toList = []) : RetQ P fn (.tup []) .ret S := by
  refine ⟨[], [], ?_, .tf rfl, fun _ h => by cases h⟩
  rw [h]; rfl
theorem ret_one {P : Program} {fn : Func} {S : St} {x : Nat} {v v' : V} (h : fn.results.toList = [.tmp x]) (hx : Nat.blt x 1048576 = true) (hv : get S.env x = v') (ht : tf v' = true) (he : v' = v) : RetQ P fn v .ret S := by
  subst he
  refine ⟨[v'], [], ?_, .tf ht, fun _ h => by cases h⟩
  rw [h]
  exact ⟨v', [], rfl, ⟨hx, hv⟩, rfl⟩
theorem ret_two {P : Program} {fn : Func} {S : St} {x y : Nat} {v u : V} (h : fn.results.toList = [.tmp x, .tmp y]) (hx : Nat.blt x 1048576 = true) (hy : Nat.blt y 1048576 = true) (hv : get S.env x = v) (hu : get S.env y = u) (ht : tf v = true) (hu' : tf u = true) : RetQ P fn (.tup [v, u]) .ret S := by
  refine ⟨[v, u], [], ?_, .tf (show tf (V.tup [v, u]) = true by simp [tf, tfL, ht, hu']), fun _ h => by cases h⟩
  rw [h]
  exact ⟨v, [u], rfl, ⟨hx, hv⟩, u, [], rfl, ⟨hy, hu⟩, rfl⟩
/-- The result is a row of the call's own, of no names. -/
theorem ret_os {P : Program} {fn : Func} {S : St} {x t off sz n : Nat} {blk cs : List V} (h : fn.results.toList = [.tmp x]) (hx : Nat.blt x 1048576 = true) (hv : get S.env x = .os t off sz n) (hH : hget S.H t = some (true, blk)) (hl : off + n * sz ≤ blk.length) (hc : (blk.drop off).take (n * sz) = cs) : RetQ P fn (.sl n cs) .ret S := by
  refine ⟨[.os t off sz n], [t], ?_, .osf (by simp) hH hl hc, fun t' h => ?_⟩
  · rw [h]
    exact ⟨_, [], rfl, ⟨hx, hv⟩, rfl⟩
  · simp at h; subst h; rw [hH]; simp
theorem ret_gen {P : Program} {fn : Func} {S : St} {vs : List V} {R : List Nat} {v : V} (h : ResL P S fn.results.toList vs) (hf : Frz (hget S.H) R (theOne vs) v) (hR : ∀ t ∈ R, hget S.H t ≠ none) : RetQ P fn v .ret S := ⟨vs, R, h, hf, hR⟩

mutual
/-- Read out, in so far as it can be told by looking. -/
def fz (H : Heap) : V → V
  | .z0 => .sl 0 []
  | .rf t off => match hget H t with | some (true, blk) => .fp (blk.drop off) | _ => .rf t off
  | .os t off sz n => match hget H t with | some (true, blk) => .sl n ((blk.drop off).take (n * sz)) | _ => .os t off sz n
  | .fn f caps => .fn f (fzL H caps)
  | .agg cs => .agg (fzL H cs)
  | .tup vs => .tup (fzL H vs)
  | v => v
def fzL (H : Heap) : List V → List V
  | [] => []
  | v :: vs => fz H v :: fzL H vs
end
mutual
def okFz (H : Heap) (R : List Nat) : V → Bool
  | .rf t _ => memN t R && match hget H t with | some (true, _) => true | _ => false
  | .bsz _ _ => false
  | .os t off sz n => memN t R && match hget H t with | some (true, blk) => Nat.ble (off + n * sz) blk.length | _ => false
  | .fn _ caps => okFzL H R caps
  | .agg cs => okFzL H R cs
  | .tup vs => okFzL H R vs
  | _ => true
def okFzL (H : Heap) (R : List Nat) : List V → Bool
  | [] => true
  | v :: vs => okFz H R v && okFzL H R vs
end
mutual
theorem fz_sound (H : Heap) (R : List Nat) : ∀ v, okFz H R v = true → Frz (hget H) R v (fz H v)
  | .bool _, _ => by simp only [fz]; exact .tf rfl
  | .int _ _, _ => by simp only [fz]; exact .tf rfl
  | .str _, _ => by simp only [fz]; exact .tf rfl
  | .z0, _ => by simp only [fz]; exact .z
  | .sl _ _, _ => by simp only [fz]; exact .tf rfl
  | .fp _, _ => by simp only [fz]; exact .tf rfl
  | .raw _, _ => by simp only [fz]; exact .tf rfl
  | .undef, _ => by simp only [fz]; exact .tf rfl
  | .bsz _ _, h => by simp [okFz] at h
  | .os t off sz n, h => by
    simp only [okFz, Bool.and_eq_true] at h
    obtain ⟨h1, h2⟩ := h
    simp only [fz]
    cases hh : hget H t with
    | none => rw [hh] at h2; cases h2
    | some bl =>
      obtain ⟨f, blk⟩ := bl
      rw [hh] at h2
      cases f with
      | false => cases h2
      | true => exact .osf (memN_iff.1 h1) hh (Nat.le_of_ble_eq_true h2) rfl
  | .rf t off, h => by
    simp only [okFz, Bool.and_eq_true] at h
    obtain ⟨h1, h2⟩ := h
    simp only [fz]
    cases hh : hget H t with
    | none => rw [hh] at h2; cases h2
    | some bl =>
      obtain ⟨f, blk⟩ := bl
      rw [hh] at h2
      cases f with
      | false => cases h2
      | true => exact .rff (memN_iff.1 h1) hh rfl
  | .fn _ caps, h => by simp only [fz]; exact .fn (fzL_sound H R caps (by simpa [okFz] using h))
  | .agg cs, h => by simp only [fz]; exact .agg (fzL_sound H R cs (by simpa [okFz] using h))
  | .tup cs, h => by simp only [fz]; exact .tup (fzL_sound H R cs (by simpa [okFz] using h))
theorem fzL_sound (H : Heap) (R : List Nat) : ∀ vs, okFzL H R vs = true → FrzL (hget H) R vs (fzL H vs)
  | [], _ => .nil
  | v :: vs, h => by
    simp only [okFzL, Bool.and_eq_true] at h
    exact .cons (fz_sound H R v h.1) (fzL_sound H R vs h.2)
end

/-! ### whole numbers -/
theorem wrap64 {z : Int} (h1 : -9223372036854775808 ≤ z) (h2 : z ≤ 9223372036854775807) : IntKind.i64.wrap z = z := by
  rw [IntKind.wrap_i64]
  omega
theorem bop_add {a b : Int} (h1 : -9223372036854775808 ≤ a + b) (h2 : a + b ≤ 9223372036854775807) : bop .add .i64 a b = a + b := wrap64 h1 h2
theorem bop_sub {a b : Int} (h1 : -9223372036854775808 ≤ a - b) (h2 : a - b ≤ 9223372036854775807) : bop .sub .i64 a b = a - b := wrap64 h1 h2
theorem bop_mul {a b : Int} (h1 : -9223372036854775808 ≤ a * b) (h2 : a * b ≤ 9223372036854775807) : bop .mul .i64 a b = a * b := wrap64 h1 h2
end Go.Hg
