/- append, copy: the laws of the operations. No condition. -/
import Derived.Test.YtajlkpogccbboaaHgJ
set_option linter.unusedVariables false
set_option linter.unusedSimpArgs false
namespace Go.Hg
open Go.RowKit

/-- What is known of an element's type. -/
def EInfo (P : Program) (e sz bytes : Nat) (z : Value) : Prop := (P.info? e).map (fun i => (i.zero, i.size, i.bytes)) = some (some z, sz, bytes)
theorem EInfo.out {P : Program} {e sz bytes : Nat} {z : Value} (h : EInfo P e sz bytes z) : ∃ i, P.info? e = some i ∧ i.zero = some z ∧ i.size = sz ∧ i.bytes = bytes := by
  unfold EInfo at h
  cases hi : P.info? e with
  | none => rw [hi] at h; cases h
  | some i =>
    rw [hi] at h
    simp only [Option.map_some, Option.some.injEq, Prod.mk.injEq] at h
    exact ⟨i, rfl, h.1, h.2.1, h.2.2⟩
/-- A zero value of known cells. -/
def okZ (z : Value) (sz : Nat) : Bool := okC z && (ofC z).solid && Nat.beq (ofC z).cells.length sz && Nat.blt 0 sz && tf (ofC z)
theorem okZ.out {z : Value} {sz : Nat} (h : okZ z sz = true) : okC z = true ∧ (ofC z).solid = true ∧ (ofC z).cells.length = sz ∧ 0 < sz ∧ tf (ofC z) = true := by
  simp only [okZ, Bool.and_eq_true] at h
  exact ⟨h.1.1.1.1, h.1.1.1.2, Nat.eq_of_beq_eq_true h.1.1.2, by have := h.1.2; simp [Nat.blt] at this; omega, h.2⟩

theorem zeroCells_one {z : Value} (hz : okC z = true) (hsol : (ofC z).solid = true) (n : Nat) : ∀ u ∈ (Builtin.zeroCells z.cells n).toList, u.oneCell' = true := by
  have h3 : RepL default (fun _ => True) (fun _ => none) (ofC z).cells false z.cells.toList := Rep.cellsL (Rep.ofC z hz) hsol
  intro u hu
  simp only [Builtin.zeroCells, Array.toList_map, List.mem_map, Array.toList_range, List.mem_range] at hu
  obtain ⟨i, hi, rfl⟩ := hu
  have hp : 0 < z.cells.size := by
    rcases Nat.eq_zero_or_pos z.cells.size with h | h
    · rw [h] at hi; omega
    · exact h
  have hlt := Nat.mod_lt i hp
  refine h3.one _ ?_
  rw [getElem!_pos z.cells _ hlt]
  simp

theorem run_append_room_hg {P : Program} {T tx ty e : TypeId} {i : TypeInfo} (hT : P.underlying T = some (.slice e)) (hi : P.info? e = some i) {w : World} {g o n c m : Nat} {pre mid post news : List Value} {ty' : TypeId} {fr : Nat × Nat} {x : Value}
    (hh : w.heap[g]? = some (.cells (pre ++ mid ++ post).toArray ty' fr)) (hp : pre.length = o + n * i.size) (hm : mid.length = news.length) (hf : fr.2 ≤ fr.1 ∨ (pre ++ mid ++ post).length ≤ fr.1) (hs : Src P i.size tx x m news w) (hroom : n + m ≤ c) :
    ∃ w', (Builtin.append_ #[T, tx] ty #[.slice (some ⟨g, o, none⟩) n c, x]).run P w = .ok (.slice (some ⟨g, o, none⟩) (n + m) c) w' ∧ Wr w g w' ∧ w'.heap[g]? = some (.cells (pre ++ news ++ post).toArray ty' fr) := by
  obtain ⟨w', hst, hwr, hb⟩ := run_storeCells_hg (P := P) g (o + n * i.size) ty' fr news 0 pre post mid w hh (by omega) hm hf hs.one
  refine ⟨w', ?_, hwr, hb⟩
  rcases hs.kind with ⟨e', hk⟩ | hk <;> simp [Builtin.append_, run_underlying hT, run_underlying hk, sizeOf, typeInfo, hi, hs.len, hroom, hs.cells, lit_add, hst]

section
variable {P : Program} {env : Env} {H : Heap} {d : Option Tmp} {ty : TypeId} {ps : String} {af : Array Edge} {gd : Option (Nat × Bool)}

theorem sees_of {w0 : World} {ok0 : Fr} {w : World} {ok : Nat → Prop} {G : Nat → Option Nat} {h' : HF} (hs : Sim w0 ok0 w ok G h') {R : List Nat} (hR : ∀ t ∈ R, h' t = hget H t) : Sees w ok G H R :=
  ⟨fun t ht f cs hc => (hs.tok t f cs ((hR t ht).trans hc)).imp id fun ⟨b, hb, _, _, h⟩ => ⟨b, hb, h⟩⟩

theorem flagged {w : World} {ok : Nat → Prop} {G : Nat → Option Nat} {f f' : Bool} {cs : List V} {us : List Value} (h : RepL w ok G cs (!f) us) (hf : f' = true → f = true) : RepL w ok G cs (!f') us := by
  cases f' with
  | true => rw [hf rfl] at h; exact h
  | false => cases f with
    | true => exact RepL.to_true _ _ h
    | false => exact h

/-- Cells told by fresh naming. -/
theorem renamed {w : World} {ok : Nat → Prop} {G : Nat → Option Nat} {f f' : Bool} {cs : List V} {us : List Value} {t' : Nat} (h : RepL w ok G cs (!f) us) (hf : f' = true → f = true) (hm : f = false → menL t' cs = false) :
    ∀ G' : Nat → Option Nat, (∀ x, x ≠ t' → G' x = G x) → RepL w ok G' cs (!f') us := by
  intro G' hG
  cases f with
  | true => exact flagged (f := true) (RepL.mv (G := G) ⟨fun _ _ => rfl, fun _ h => h, fun _ cs _ fr h => ⟨cs, fr, h, rfl⟩⟩ cs _ us (fun h => by cases h) h) hf
  | false =>
    cases f' with
    | true => cases hf rfl
    | false =>
      refine RepL.mv (G := G) ⟨fun _ _ => rfl, fun _ h => h, fun _ cs _ fr h => ⟨cs, fr, h, rfl⟩⟩ cs _ us (fun _ t2 ht2 => hG t2 ?_) h
      rintro rfl
      rw [hm rfl] at ht2
      cases ht2

theorem menL_sub {t : Nat} {xs ys : List V} (h : menL t ys = false) (hs : ∀ v ∈ xs, v ∈ ys) : menL t xs = false := by
  have key : ∀ l : List V, menL t l = false ↔ ∀ v ∈ l, men t v = false := by
    intro l
    induction l with
    | nil => simp [menL]
    | cons v l ih => simp [menL, ih]
  exact (key _).2 fun v hv => (key _).1 h v (hs v hv)

theorem SrcV.fresh {R : List Nat} {sz tx m : Nat} {v : V} {f : Bool} {ys : List V} (h : SrcV P H R sz tx v m f ys) {t' : Nat} {e' : EF} {h' : HF} {y : Operand} (hy : ev e' y = v) (hR : ∀ t ∈ R, h' t = hget H t) (hf : FreshF t' e' h') : f = false → menL t' ys = false := by
  intro h0
  cases h with
  | sl => cases h0
  | z0 => cases h0
  | str => cases h0
  | @os e1 s off _ _ blk _ hk hR' hH hl hys =>
    subst h0
    have hne : s ≠ t' := by
      cases y with
      | tmp x =>
        have := hf.1 x
        rintro rfl
        simp only [ev] at hy
        rw [hy] at this
        simp [men] at this
      | const c =>
        have hsol : ∀ u, ofCell u ≠ .os s off sz m := by
          intro u; unfold ofCell; split <;> simp
        cases c <;> simp [ev, ofC, ofCell] at hy
        all_goals (first | exact absurd hy (by simp) | (split at hy <;> cases hy))
      | _ => simp [ev] at hy
    have := hf.2 s blk ((hR s hR').trans hH) hne
    subst hys
    exact menL_sub this fun v hv => List.mem_of_mem_drop (List.mem_of_mem_take hv)

theorem sz_ne {m sz : Nat} {l : List Value} (h : l.length = m * sz) (h0 : m = 0) : l = [] := by
  subst h0
  exact List.eq_nil_of_length_eq_zero (by simpa using h)

/-- A row grown onto a new block. -/
theorem grown_row {sz n m c' : Nat} {z : Value} {olds news : List Value} (ho : olds.length = n * sz) (hn : news.length = m * sz) (hz : z.cells.size = sz) (hc : n + m ≤ c') :
    0 + c' * sz = ((olds ++ news) ++ (Builtin.zeroCells z.cells (c' - (n + m))).toList).toArray.size := by
  simp only [List.size_toArray, List.length_append, Array.length_toList, size_zeroCells, ho, hn, hz, ← Nat.add_mul]
  rw [Nat.zero_add]
  congr 1
  omega

/-- Onto a row of the call's own, whole or not there yet: the row has a new name behind it. -/
theorem lop_append_os {x y : Operand} {T tx e t t' sz n m bytes : Nat} {f fy : Bool} {cs ys : List V} {v : V} {R : List Nat} {z : Value} (hx : ev (get env) x = .os t 0 sz n) (hH : hget H t = some (f, cs)) (hy : ev (get env) y = v) (hl : cs.length = n * sz) (hsrc : SrcV P H R sz tx v m fy ys)
    (hT : P.underlying T = some (.slice e)) (hi : EInfo P e sz bytes z) (hz : okZ z sz = true) (hn : (n + m) * bytes ≤ 140737488355328) (hn63 : n + m ≤ 9223372036854775807) :
    LOp P ⟨d, .call { callee := .builtin .append, args := #[x, y], argTypes := #[T, tx] }, ty, ps, af, gd⟩ env H (t :: R) (.os t' 0 sz (n + m)) [(t', some (f && fy, cs ++ ys)), (t, none)] [t'] := by
  obtain ⟨i, hin, hiz, rfl, rfl⟩ := hi.out
  clear hi
  have hi := hin
  obtain ⟨hk, hsol, hzl, h0, _⟩ := okZ.out hz
  have hzs : z.cells.size = i.size := by
    have h3 : RepL default (fun _ => True) (fun _ => none) (ofC z).cells false z.cells.toList := Rep.cellsL (Rep.ofC z hk) hsol
    rw [← hzl, ← h3.length]; simp
  intro e' h' he hRh hfr w0 ok0 sz' a w hok r next Q hnx
  obtain ⟨ok, G, hs, hr, h1, h2⟩ := r
  have hops := opd_ok hok
  simp only [Op.operands, Call.operands] at hops he
  have hxv : Rep w ok G (.os t 0 i.size n) true (a.eval x) := by
    have := Rep.ev hr x (hops x (by simp))
    rwa [he x (by simp), hx] at this
  have hyv : Rep w ok G v true (a.eval y) := by
    have := Rep.ev hr y (hops y (by simp))
    rwa [he y (by simp), hy] at this
  have hfr' := hfr t' (by simp)
  have hsee : Sees w ok G H (t :: R) := sees_of hs hRh
  have hseeR : Sees w ok G H R := sees_of hs fun t ht => hRh t (by simp [ht])
  obtain ⟨news, hsr, hnr, hyl⟩ := hsrc.sound h0 hseeR hyv
  have hyf := hsrc.fresh (e' := e') (h' := h') (y := y) (by rw [he y (by simp), hy]) (fun t ht => hRh t (by simp [ht])) hfr'
  have ht : h' t = some (f, cs) := (hRh t (by simp)).trans hH
  have hcf : t' ≠ t → f = false → menL t' cs = false := fun hne h3 => hfr'.2 t cs (by rw [ht, h3]) (Ne.symm hne)
  have hne : t' ≠ t := by
    rintro rfl
    cases x with
    | tmp x =>
      have := hfr'.1 x
      have hx' := he (.tmp x) (by simp)
      rw [hx] at hx'
      simp only [ev] at hx'
      rw [hx'] at this
      simp [men] at this
    | const c =>
      cases c <;> simp [ev, ofC, ofCell] at hx
      all_goals (first | exact absurd hx (by simp) | (split at hx <;> cases hx))
    | _ => simp [ev] at hx
  have hcf := hcf hne
  have hand1 : (f && fy) = true → f = true := fun h => by simp at h; exact h.1
  have hand2 : (f && fy) = true → fy = true := fun h => by simp at h; exact h.2
  have hnews := hsr.newsLen
  have hex : ∀ u w', (Builtin.append_ #[T, tx] ty #[a.eval x, a.eval y]).run P w = .ok u w' → (execOp a.eval ⟨d, .call { callee := .builtin .append, args := #[x, y], argTypes := #[T, tx] }, ty, ps, af, gd⟩).run P w = .ok (.value u) w' := by
    intro u w' h3
    simp only [execOp, resolve, invoke, builtin, Sem.run_bind, Sem.run_pure, Result.andThen_ok, List.map_toArray, List.map_cons, List.map_nil, h3]
  -- nothing is appended: the row by another name
  have nothing : ∀ A c, a.eval x = .slice A n c → n ≤ c → m = 0 → (∀ G', (G' t' = G t) → Rep w ok G' (.os t' 0 i.size n) true (.slice A n c)) →
      (Oper.wp P ⟨d, .call { callee := .builtin .append, args := #[x, y], argTypes := #[T, tx] }, ty, ps, af, gd⟩ a w next Q) := by
    intro A c hA hc hm hrep
    subst hm
    have hn0 := sz_ne hnews rfl
    subst hn0
    have hrun := run_append_nothing (P := P) w T tx ty e i hT hi A n c hc (a.eval y) hsr
    rw [← hA] at hrun
    have hys : ys = [] := List.eq_nil_of_length_eq_zero (by simpa using hyl)
    subst hys
    unfold Oper.wp
    rw [hex _ _ hrun]
    obtain ⟨hs', hmv⟩ := hs.rename hfr' ht
    have hs'' : Sim w0 ok0 w ok (fun x => if x = t' then G t else G x) (appF h' [(t', some (f && fy, cs ++ [])), (t, none)]) := by
      refine ⟨hs'.below, hs'.okb, hs'.okn, hs'.oko, ?_, ?_⟩
      · intro t2 f2 cs2 h3
        simp only [List.append_nil] at h3
        cases hx2 : Nat.beq t2 t' with
        | true =>
          have : t2 = t' := Nat.eq_of_beq_eq_true hx2
          subst this
          simp only [appF, hx2, cond_true, Option.some.injEq, Prod.mk.injEq] at h3
          obtain ⟨rfl, rfl⟩ := h3
          rcases hs'.tok t2 f cs (by simp only [appF, hx2, cond_true]) with h4 | ⟨b, hb, h5, h6, us, rest, ty1, fr, h7, h8, h9⟩
          · exact .inl h4
          · exact .inr ⟨b, hb, h5, h6, us, rest, ty1, fr, h7, flagged h8 hand1, h9⟩
        | false =>
          refine hs'.tok t2 f2 cs2 ?_
          simpa only [appF, hx2, cond_false] using h3
      · intro a1 b1 c1 ha hb
        refine hs'.inj a1 b1 c1 ?_ ?_
        · simp only [appF] at ha ⊢
          cases hx : Nat.beq a1 t' <;> simp_all
        · simp only [appF] at hb ⊢
          cases hx : Nat.beq b1 t' <;> simp_all
    refine hnx _ _ (rel_put hs'' (fun z => hmv _ _ (hfr'.1 z) (hr z)) h1 h2 (dst_lt hok) ?_)
    rw [hA]
    exact hrep _ (by simp)
  -- a new block
  have grow : ∀ A c (olds : List Value), a.eval x = .slice A n c → c < n + m → RepL w ok G cs (!f) olds → (Builtin.firstCells i.size n (.slice A n c)).run P w.drew = .ok olds.toArray w.drew →
      (Oper.wp P ⟨d, .call { callee := .builtin .append, args := #[x, y], argTypes := #[T, tx] }, ty, ps, af, gd⟩ a w next Q) := by
    intro A c olds hA hc hold hcells
    have hrun := run_append_grow_src (P := P) w T tx ty e i z hT hi hiz A n c olds hcells (a.eval y) m news hsr hc (by omega) (growslice_fits hc hn)
    rw [← hA] at hrun
    have hol : olds.length = n * i.size := by rw [hold.length, hl]
    have hge := grownCap_ge w (n + m) c e
    have hcell : (olds ++ news).toArray ++ Builtin.zeroCells z.cells (grownCap w (n + m) c e - (n + m)) = ((olds ++ news) ++ (Builtin.zeroCells z.cells (grownCap w (n + m) c e - (n + m))).toList).toArray := by
      apply Array.ext'
      simp
    rw [hcell] at hrun
    have hrow := grown_row (z := z) hol hnews hzs hge
    unfold Oper.wp
    rw [hex _ _ hrun]
    have hd := hs.drew
    obtain ⟨hs', hws, hmv⟩ := hd.alloc2 hfr' (olds ++ news) (Builtin.zeroCells z.cells (grownCap w (n + m) c e - (n + m))).toList e (0, 0) (f && fy) (cs ++ ys) (fun G' hG => by
      have h5 := renamed (t' := t') (f' := f && fy) hold hand1 hcf G' hG
      have h6 := renamed (t' := t') (f' := f && fy) hnr hand2 hyf G' hG
      have h7 := h5.append h6
      exact RepL.mv (w := w) (ok := ok) (G := G') (w' := w.drew) ⟨fun _ _ => rfl, fun _ h => h, fun _ cs _ fr h => ⟨cs, fr, h, rfl⟩⟩ _ _ _ (fun _ _ _ => rfl) h7) (zeroCells_one hk hsol _) (by simp)
    have hr2 := rel_put (v := .os t' 0 i.size (n + m)) (dst := d) (u := .slice (some ⟨w.heap.size, 0, none⟩) (n + m) (grownCap w (n + m) c e)) hs' (fun z => hmv _ _ (hfr'.1 z) (Rep.mv (mv_drewN w ok G 1) _ _ _ (fun _ _ _ => rfl) (hr z))) h1 h2 (dst_lt hok) (by
      simp only [Rep]
      refine ⟨trivial, .inl ⟨w.heap.size, grownCap w (n + m) c e, 0, _, e, (0, 0), ?_, rfl, hge, h0, heap_alloc_new w.drew _, hrow, .inr rfl⟩⟩
      simp)
    refine hnx _ _ (RelF.weak hr2 (fun _ => .inr rfl) fun t2 => ?_)
    simp only [appF]
    cases hx2 : Nat.beq t2 t' with
    | true => right; simp
    | false =>
      cases hx3 : Nat.beq t2 t with
      | true => left; simp
      | false => right; simp
  simp only [Rep, true_and] at hxv
  rcases hxv with ⟨b, c, o', bs, ty', fr, hb, hA, h4, h5, h6, h7, h8⟩ | ⟨hg, hn0, A, hA⟩
  · obtain ⟨us, rest, ty2, fr2, h9, h10, h11, h12⟩ := hsee.at_ (by simp) hH hb
    have hnok : (ok0.mine b ∨ w0.heap.size ≤ b) ∧ ¬ ok b := by
      rcases hs.tok t f cs ht with h13 | ⟨b', hb', h14, h15, _⟩
      · rw [h13.1] at hb; cases hb
      · rw [hb] at hb'; injection hb' with hb'; subst hb'; exact ⟨h14, h15⟩
    have hul := h10.length
    rcases Nat.eq_zero_or_pos m with hm | hm
    · exact nothing _ c hA h4 hm fun G' hG => by
        simp only [Rep]
        exact ⟨trivial, .inl ⟨b, c, o', bs, ty', fr, hG.trans hb, rfl, h4, h5, h6, h7, h8⟩⟩
    · rcases Nat.lt_or_ge c (n + m) with hc | hc
      · refine grow _ c us hA hc h10 ?_
        rcases h8 with h8 | h8
        · have hn0 : n = 0 := by omega
          subst hn0
          have hus : us = [] := List.eq_nil_of_length_eq_zero (by rw [hul, hl]; simp)
          subst hus
          simp [Builtin.firstCells, loadCells, loadCellsFrom]
        · subst h8
          refine run_firstCells_some w.drew i.size n ⟨b, 0, none⟩ n c us (by rw [hul, hl]) fun j u hj => ?_
          rw [lit_add, Nat.zero_add]
          have hlt : j < us.length := (List.getElem?_eq_some_iff.1 hj).1
          have := cell_of_row w _ j _ _ _ h9
          simpa [List.getElem?_append_left hlt, hj] using this
      · have ho : o' = 0 := by
          rcases h8 with h8 | h8
          · omega
          · exact h8
        subst ho
        have hbs : bs.size = us.length + rest.length := by
          have h13 := h9
          rw [h6] at h13
          injection h13 with h13
          injection h13 with h13 _ _
          rw [h13]; simp
        have hfit : m * i.size ≤ rest.length := by
          have : (n + m) * i.size ≤ c * i.size := Nat.mul_le_mul_right _ hc
          rw [Nat.add_mul] at this
          omega
        have hsplit : us ++ rest = us ++ rest.take (m * i.size) ++ rest.drop (m * i.size) := by simp
        obtain ⟨w', hrun, hwr, hb'⟩ := run_append_room_hg (P := P) (tx := tx) (ty := ty) (x := a.eval y) (o := 0) (pre := us) (mid := rest.take (m * i.size)) (post := rest.drop (m * i.size)) hT hi (by rw [← hsplit]; exact h9) (by rw [hul, hl]; simp)
          (by rw [List.length_take, hnews]; omega) (by rw [← hsplit]; exact h12) hsr hc
        rw [← hA] at hrun
        have hll : (us ++ news ++ rest.drop (m * i.size)).length = (us ++ rest).length := by
          simp only [List.length_append, List.length_drop, hnews]; omega
        obtain ⟨hs1, hmv⟩ := hs.rename hfr' ht
        have hbt : (fun x => if x = t' then G t else G x) t' = some b := by simp [hb]
        have hcs : RepL w ok (fun x => if x = t' then G t else G x) (cs ++ ys) (!(f && fy)) (us ++ news) :=
          (renamed (f' := f && fy) h10 hand1 hcf _ fun x hx => by simp [hx]).append (renamed (f' := f && fy) hnr hand2 hyf _ fun x hx => by simp [hx])
        obtain ⟨hs2, hws⟩ := hs1.write (t := t') (b := (f, cs)) (f := f && fy) (cs := cs ++ ys) (by simp [appF]) hbt hwr hb' (fun cs1 ty1 fr1 h3 => by
          rw [h9] at h3
          injection h3 with h3
          injection h3 with h3 h4 h5
          subst h3
          exact ⟨h4.symm, by rw [hll]; simp⟩) hcs (fun u hu => h11 u (List.mem_of_mem_drop hu)) (by rw [hll]; exact h12)
        unfold Oper.wp
        rw [hex _ _ hrun]
        have hr2 := rel_put (v := .os t' 0 i.size (n + m)) (dst := d) (u := .slice (some ⟨b, 0, none⟩) (n + m) c) hs2 (fun z => Rep.mv (hws.mv fun _ h => h) _ _ _ (fun _ _ _ => rfl) (hmv _ _ (hfr'.1 z) (hr z))) h1 h2 (dst_lt hok) (by
          simp only [Rep]
          refine ⟨trivial, .inl ⟨b, c, 0, _, ty2, fr2, by simp [hb], rfl, hc, h0, hb', ?_, .inr rfl⟩⟩
          simp only [List.size_toArray, hll, List.length_append]
          omega)
        refine hnx _ _ (RelF.weak hr2 (fun _ => .inr rfl) fun t2 => ?_)
        simp only [appF]
        cases hx2 : Nat.beq t2 t' with
        | true => right; simp
        | false =>
          cases hx3 : Nat.beq t2 t with
          | true => left; simp
          | false => right; simp
  · subst hn0
    have hcs : cs = [] := List.eq_nil_of_length_eq_zero (by simpa using hl)
    subst hcs
    rcases Nat.eq_zero_or_pos m with hm | hm
    · exact nothing _ 0 hA (Nat.le_refl _) hm fun G' hG => by
        simp only [Rep]
        exact ⟨trivial, .inr ⟨hG.trans hg, trivial, _, rfl⟩⟩
    · exact grow A 0 [] hA (by omega) (by simp [RepL]) (by cases A <;> simp [Builtin.firstCells, loadCells, loadCellsFrom])

/-- Onto nothing: a row of a new name, there or not. -/
theorem lop_append_z0 {x y : Operand} {T tx e t' sz m bytes : Nat} {fy : Bool} {ys : List V} {v : V} {R : List Nat} {z : Value} (hx : ev (get env) x = .z0) (hy : ev (get env) y = v) (hsrc : SrcV P H R sz tx v m fy ys)
    (hT : P.underlying T = some (.slice e)) (hi : EInfo P e sz bytes z) (hz : okZ z sz = true) (hn : m * bytes ≤ 140737488355328) (hn63 : m ≤ 9223372036854775807) :
    LOp P ⟨d, .call { callee := .builtin .append, args := #[x, y], argTypes := #[T, tx] }, ty, ps, af, gd⟩ env H R (.os t' 0 sz m) [(t', some (fy, ys))] [t'] := by
  obtain ⟨i, hin, hiz, rfl, rfl⟩ := hi.out
  clear hi
  have hi := hin
  obtain ⟨hk, hsol, hzl, h0, _⟩ := okZ.out hz
  have hzs : z.cells.size = i.size := by
    have h3 : RepL default (fun _ => True) (fun _ => none) (ofC z).cells false z.cells.toList := Rep.cellsL (Rep.ofC z hk) hsol
    rw [← hzl, ← h3.length]; simp
  intro e' h' he hRh hfr w0 ok0 sz' a w hok r next Q hnx
  obtain ⟨ok, G, hs, hr, h1, h2⟩ := r
  have hops := opd_ok hok
  simp only [Op.operands, Call.operands] at hops he
  have hxv : Rep w ok G .z0 true (a.eval x) := by
    have := Rep.ev hr x (hops x (by simp))
    rwa [he x (by simp), hx] at this
  have hyv : Rep w ok G v true (a.eval y) := by
    have := Rep.ev hr y (hops y (by simp))
    rwa [he y (by simp), hy] at this
  have hfr' := hfr t' (by simp)
  have hseeR : Sees w ok G H R := sees_of hs hRh
  obtain ⟨news, hsr, hnr, hyl⟩ := hsrc.sound h0 hseeR hyv
  have hyf := hsrc.fresh (e' := e') (h' := h') (y := y) (by rw [he y (by simp), hy]) hRh hfr'
  have hnews := hsr.newsLen
  have hex : ∀ u w', (Builtin.append_ #[T, tx] ty #[a.eval x, a.eval y]).run P w = .ok u w' → (execOp a.eval ⟨d, .call { callee := .builtin .append, args := #[x, y], argTypes := #[T, tx] }, ty, ps, af, gd⟩).run P w = .ok (.value u) w' := by
    intro u w' h3
    simp only [execOp, resolve, invoke, builtin, Sem.run_bind, Sem.run_pure, Result.andThen_ok, List.map_toArray, List.map_cons, List.map_nil, h3]
  simp only [Rep] at hxv
  obtain ⟨A, hA⟩ := hxv
  rcases Nat.eq_zero_or_pos m with hm | hm
  · subst hm
    have hn0 := sz_ne hnews rfl
    subst hn0
    have hrun := run_append_nothing (P := P) w T tx ty e i hT hi A 0 0 (Nat.le_refl _) (a.eval y) hsr
    rw [← hA] at hrun
    have hys : ys = [] := List.eq_nil_of_length_eq_zero (by simpa using hyl)
    subst hys
    unfold Oper.wp
    rw [hex _ _ hrun]
    obtain ⟨hs', hmv⟩ := hs.virt hfr' fy
    refine hnx _ _ (rel_put hs' (fun z => hmv _ _ (hfr'.1 z) (hr z)) h1 h2 (dst_lt hok) ?_)
    rw [hA]
    simp only [Rep]
    exact ⟨trivial, .inr ⟨by simp, trivial, _, rfl⟩⟩
  · have hrun := run_append_grow_src (P := P) w T tx ty e i z hT hi hiz A 0 0 [] (by cases A <;> simp [Builtin.firstCells, loadCells, loadCellsFrom]) (a.eval y) m news hsr (by omega) (by omega) (growslice_fits (by omega) (by simpa using hn))
    rw [← hA] at hrun
    simp only [Nat.zero_add, List.nil_append] at hrun
    have hge := grownCap_ge w m 0 e
    have hcell : news.toArray ++ Builtin.zeroCells z.cells (grownCap w m 0 e - m) = (news ++ (Builtin.zeroCells z.cells (grownCap w m 0 e - m)).toList).toArray := by
      apply Array.ext'
      simp
    rw [hcell] at hrun
    have hrow := grown_row (n := 0) (olds := []) (z := z) (c' := grownCap w m 0 e) (by simp) hnews hzs (by omega)
    simp only [List.nil_append, Nat.zero_add] at hrow
    unfold Oper.wp
    rw [hex _ _ hrun]
    obtain ⟨hs', hws, hmv⟩ := hs.drew.alloc2 hfr' news (Builtin.zeroCells z.cells (grownCap w m 0 e - m)).toList e (0, 0) fy ys (fun G' hG => by
      have h6 := renamed (t' := t') (f' := fy) hnr (fun h => h) hyf G' hG
      exact RepL.mv (w := w) (ok := ok) (G := G') (w' := w.drew) ⟨fun _ _ => rfl, fun _ h => h, fun _ cs _ fr h => ⟨cs, fr, h, rfl⟩⟩ _ _ _ (fun _ _ _ => rfl) h6) (zeroCells_one hk hsol _) (by simp)
    refine hnx _ _ (rel_put hs' (fun z => hmv _ _ (hfr'.1 z) (Rep.mv (mv_drewN w ok G 1) _ _ _ (fun _ _ _ => rfl) (hr z))) h1 h2 (dst_lt hok) ?_)
    simp only [Rep]
    refine ⟨trivial, .inl ⟨w.heap.size, grownCap w m 0 e, 0, _, e, (0, 0), by simp, rfl, hge, h0, heap_alloc_new w.drew _, by rw [Nat.zero_add]; exact hrow, .inr rfl⟩⟩

/-! ### bytes and strings -/
theorem bytesV_of {w : World} {ok : Nat → Prop} {G : Nat → Option Nat} {tk : Bool} {s : ByteArray} {us : List Value} (h : RepL w ok G (bytesV s) tk us) : us = byteCells s := by
  unfold bytesV at h
  unfold byteCells
  generalize s.data.toList = l at h ⊢
  induction l generalizing us with
  | nil => simpa [RepL] using h
  | cons b l ih =>
    simp only [List.map_cons, RepL, Rep] at h
    obtain ⟨u, us', rfl, _, rfl, h4⟩ := h
    rw [ih h4]
    rfl
end
end Go.Hg
