/- Rows of the call's own and their room: cap, append of zeros, append in place, clear, three-index slices, slices.overlaps. No condition. -/
import Derived.Test.YtajlkpogccbboaaHgU
import Derived.Lib.AppendZerosOnto
import Derived.Laws.Externs
import GoSem.Extern.SlicesOverlaps
set_option linter.unusedVariables false
set_option linter.unusedSimpArgs false
set_option linter.unnecessarySimpa false
namespace Go.Hg
open Go.RowKit
section
variable {P : Program} {ops : Array Oper} {rest : List Oper} {env : Env} {H : Heap} {sz0 : Nat} {K : St → Prop} {d : Nat} {ty : TypeId} {ps : String} {af : Array Edge}

theorem repL_undef {w : World} {ok : Nat → Prop} {G : Nat → Option Nat} {tk : Bool} : ∀ (us : List Value), (∀ u ∈ us, u.oneCell' = true) → RepL w ok G (List.replicate us.length .undef) tk us
  | [], _ => by simp [RepL]
  | u :: us, h => by
    simp only [List.length_cons, List.replicate_succ, RepL]
    exact ⟨u, us, rfl, h u (by simp), by simp [Rep], repL_undef us fun x hx => h x (by simp [hx])⟩

theorem tfL_app : ∀ {xs ys : List V}, tfL xs = true → tfL ys = true → tfL (xs ++ ys) = true
  | [], _, _, h => h
  | x :: xs, ys, h, h' => by
    simp only [tfL, Bool.and_eq_true] at h
    simp only [List.cons_append, tfL, Bool.and_eq_true]
    exact ⟨h.1, tfL_app h.2 h'⟩
theorem tfL_rep {cs : List V} (h : tfL cs = true) : ∀ k, tfL (List.replicate k cs).flatten = true
  | 0 => rfl
  | k + 1 => by rw [List.replicate_succ, List.flatten_cons]; exact tfL_app h (tfL_rep h k)

/-- cap: some number, no less than the length; what stands behind the elements is told to be something. -/
theorem op_cap {x : Operand} {t n sz e T g : Nat} {f : Bool} {cs : List V} (hx : ev (get env) x = .os t 0 sz n) (hH : hget H t = some (f, cs)) (hl : cs.length = n * sz) (h0 : 0 < n) (hT : P.underlying T = some (.slice e))
    (hok : opOk ⟨some d, .call { callee := .builtin .cap, args := #[x], argTypes := #[T] }, ty, ps, af, none⟩ sz0 = true)
    (hr : ∀ c, n ≤ c → OpsOk P ops rest ⟨(d, .int .i64 c) :: (g, .bsz t (c * sz)) :: env, (t, some (f, cs ++ List.replicate ((c - n) * sz) .undef)) :: H, sz0⟩ K) :
    OpsOk P ops (⟨some d, .call { callee := .builtin .cap, args := #[x], argTypes := #[T] }, ty, ps, af, none⟩ :: rest) ⟨env, H, sz0⟩ K := by
  intro w0 ok0 a w r Q hq
  unfold wpList
  rw [if_pos (by simp [Region.wanted])]
  refine .inl ?_
  obtain ⟨ok, G, hs, hrr, h1, h2⟩ := r
  have hops := opd_ok hok
  simp only [Op.operands, Call.operands] at hops
  have hxv : Rep w ok G (.os t 0 sz n) true (a.eval x) := by
    have := Rep.ev hrr x (hops x (by simp))
    rwa [hx] at this
  simp only [Rep, true_and] at hxv
  rcases hxv with ⟨b, c, o', bs, ty', fr', hb, hxe, h4, h5, h6, h7, h8⟩ | ⟨_, hn0, _⟩
  · have hrun : (Builtin.cap_ #[T] ty #[a.eval x]).run P w = .ok (.int .i64 c) w := by
      simp [Builtin.cap_, run_underlying hT, hxe, goInt]
    unfold Oper.wp
    have hex : (execOp a.eval ⟨some d, .call { callee := .builtin .cap, args := #[x], argTypes := #[T] }, ty, ps, af, none⟩).run P w = .ok (.value (.int .i64 c)) w := by
      simp only [execOp, resolve, invoke, builtin, Sem.run_bind, Sem.run_pure, Result.andThen_ok, List.map_toArray, List.map_cons, List.map_nil, hrun]
    rw [hex]
    refine hr c h4 w0 ok0 _ w ?_ Q hq
    obtain ⟨hmine, hnok, us, rest', ty2, fr2, h9, h10, h11, h12⟩ : (ok0.mine b ∨ w0.heap.size ≤ b) ∧ ¬ ok b ∧ ∃ (us rest : List Value) (ty : TypeId) (fr : Nat × Nat), w.heap[b]? = some (.cells (us ++ rest).toArray ty fr) ∧ RepL w ok G cs (!f) us ∧ (∀ u ∈ rest, u.oneCell' = true) ∧ (fr.2 ≤ fr.1 ∨ (us ++ rest).length ≤ fr.1) := by
      rcases hs.tok t f cs hH with h9 | ⟨b', hb', hm, hn, h9⟩
      · rw [h9.1] at hb; cases hb
      · rw [hb] at hb'; injection hb' with hb'; subst hb'; exact ⟨hm, hn, h9⟩
    have hbs : bs.size = us.length + rest'.length := by
      have h13 := h9
      rw [h6] at h13
      injection h13 with h13
      injection h13 with h13 _ _
      rw [h13]; simp
    have hul := h10.length
    have hrl : rest'.length = (c - n) * sz := by rw [Nat.sub_mul]; omega
    have hs' : Sim w0 ok0 w ok G (hget ((t, some (f, cs ++ List.replicate ((c - n) * sz) .undef)) :: H)) := by
      refine ⟨hs.below, hs.okb, hs.okn, hs.oko, ?_, ?_⟩
      · intro t2 f2 cs2 h3
        simp only [hget] at h3
        cases hx2 : Nat.beq t2 t with
        | true =>
          have : t2 = t := Nat.eq_of_beq_eq_true hx2
          subst this
          simp only [hx2, cond_true, Option.some.injEq, Prod.mk.injEq] at h3
          obtain ⟨rfl, rfl⟩ := h3
          refine .inr ⟨b, hb, hmine, hnok, us ++ rest', [], ty2, fr2, by simpa using h9, ?_, by simp, by simpa using h12⟩
          rw [← hrl]
          exact h10.append (repL_undef _ h11)
        | false =>
          rw [hx2] at h3
          exact hs.tok t2 f2 cs2 (by simpa using h3)
      · intro a1 b1 c1 ha hb1
        refine hs.inj a1 b1 c1 ?_ ?_
        · simp only [hget] at ha
          cases hx : Nat.beq a1 t with
          | true => rw [Nat.eq_of_beq_eq_true hx, hH]; simp
          | false => rw [hx] at ha; simpa using ha
        · simp only [hget] at hb1
          cases hx : Nat.beq b1 t with
          | true => rw [Nat.eq_of_beq_eq_true hx, hH]; simp
          | false => rw [hx] at hb1; simpa using hb1
    have he : ∀ z, Rep w ok G (get ((g, .bsz t (c * sz)) :: env) z) true (slot ok0 a z) := fun z => by
      simp only [get]
      cases hz : Nat.beq z g with
      | true =>
        simp only [cond_true, Rep, true_and]
        exact ⟨b, bs, ty', fr', hb, h6, by omega⟩
      | false => simpa using hrr z
    have := rel_put (v := .int .i64 c) (dst := some d) (u := .int .i64 c) hs' he h1 h2 (dst_lt hok) (by simp [Rep])
    unfold Rel
    exact this
  · omega

/-- Onto part of a row that has no room for so many zeros: a new row. -/
theorem op_append0 {x y : Operand} {T tn e t t' sz i k c g bytes : Nat} {kq kn : IntKind} {z0 : Int} {f : Bool} {cs : List V} {z : Value} (hx : ev (get env) x = .os t 0 sz i) (hH : hget H t = some (f, cs)) (hy : ev (get env) y = .int kq z0) (hz0 : z0 = (k : Int))
    (hb : get env g = .bsz t (c * sz)) (hl : i * sz ≤ cs.length) (hc : c < i + k) (hk0 : 0 < k)
    (hT : P.underlying T = some (.slice e)) (hTn : P.underlying tn = some (.int kn)) (hi : EInfo P e sz bytes z) (hz : okZ z sz = true) (hn : (i + k) * bytes ≤ 140737488355328) (hn63 : i + k ≤ 9223372036854775807)
    (hok : opOk ⟨some d, .call { callee := .builtin .append, args := #[x, y], argTypes := #[T, tn] }, ty, ps, af, none⟩ sz0 = true) (hf : freshB t' env H = true)
    (hr : OpsOk P ops rest ⟨(d, .os t' 0 sz (i + k)) :: env, (t', some (f, cs.take (i * sz) ++ (List.replicate k (ofC z).cells).flatten)) :: H, sz0⟩ K) :
    OpsOk P ops (⟨some d, .call { callee := .builtin .append, args := #[x, y], argTypes := #[T, tn] }, ty, ps, af, none⟩ :: rest) ⟨env, H, sz0⟩ K := by
  obtain ⟨inf, hin, hiz, rfl, rfl⟩ := hi.out
  clear hi
  obtain ⟨hk, hsol, hzl, h0, _⟩ := okZ.out hz
  have hzs : z.cells.size = inf.size := by
    have h3 : RepL default (fun _ => True) (fun _ => none) (ofC z).cells false z.cells.toList := Rep.cellsL (Rep.ofC z hk) hsol
    rw [← hzl, ← h3.length]; simp
  subst hz0
  intro w0 ok0 a w r Q hq
  unfold wpList
  rw [if_pos (by simp [Region.wanted])]
  refine .inl ?_
  obtain ⟨ok, G, hs, hrr, h1, h2⟩ := r
  have hops := opd_ok hok
  simp only [Op.operands, Call.operands] at hops
  have hxv : Rep w ok G (.os t 0 inf.size i) true (a.eval x) := by
    have := Rep.ev hrr x (hops x (by simp))
    rwa [hx] at this
  have hyv : Rep w ok G (.int kq k) true (a.eval y) := by
    have := Rep.ev hrr y (hops y (by simp))
    rwa [hy] at this
  have hgv := hrr g
  rw [hb] at hgv
  simp only [Rep, true_and] at hxv hyv hgv
  obtain ⟨b1, bs1, ty1, fr1, hb1, hh1, hsz1⟩ := hgv
  have hfr' := fresh_of hf
  rcases hxv with ⟨b, c', o', bs, ty', fr', hb2, hxe, h4, h5, h6, h7, h8⟩ | ⟨hg0, _, _⟩
  · have hbb : b1 = b := by rw [hb1] at hb2; injection hb2
    subst hbb
    rw [h6] at hh1
    injection hh1 with hh1
    injection hh1 with hh1 _ _
    subst hh1
    have hcc : c' = c := by
      have : c' * inf.size = c * inf.size := by omega
      exact Nat.eq_of_mul_eq_mul_right h5 this
    subst hcc
    obtain ⟨us, rest', ty2, fr2, h9, h10, h11, h12⟩ : ∃ (us rest : List Value) (ty : TypeId) (fr : Nat × Nat), w.heap[b1]? = some (.cells (us ++ rest).toArray ty fr) ∧ RepL w ok G cs (!f) us ∧ (∀ u ∈ rest, u.oneCell' = true) ∧ (fr.2 ≤ fr.1 ∨ (us ++ rest).length ≤ fr.1) := by
      rcases hs.tok t f cs hH with h9 | ⟨b', hb', hm, hn, h9⟩
      · rw [h9.1] at hb1; cases hb1
      · rw [hb1] at hb'; injection hb' with hb'; subst hb'; exact h9
    have hul := h10.length
    have hold := h10.take (i * inf.size)
    have hol : (us.take (i * inf.size)).length = i * inf.size := by rw [List.length_take]; omega
    have hcells : (Builtin.firstCells inf.size i (.slice (some ⟨b1, o', none⟩) i c')).run P w.drew = .ok (us.take (i * inf.size)).toArray w.drew := by
      rcases h8 with h8 | h8
      · have hn0 : i = 0 := by omega
        subst hn0
        simp [Builtin.firstCells, loadCells, loadCellsFrom]
      · subst h8
        refine run_firstCells_some w.drew inf.size i ⟨b1, 0, none⟩ i c' _ hol fun j u hj => ?_
        rw [lit_add, Nat.zero_add]
        have hlt : j < (us.take (i * inf.size)).length := (List.getElem?_eq_some_iff.1 hj).1
        rw [hol] at hlt
        rw [List.getElem?_take_of_lt hlt] at hj
        have hlt2 : j < us.length := (List.getElem?_eq_some_iff.1 hj).1
        have := cell_of_row w b1 j _ _ _ h9
        simpa [List.getElem?_append_left hlt2, hj] using this
    have h48 : k * inf.bytes ≤ 281474976710656 := by
      have : k * inf.bytes ≤ (i + k) * inf.bytes := Nat.mul_le_mul_right _ (by omega)
      omega
    have hrun := Lib.run_append_grow_zeros (P := P) w T tn ty e inf z kq kn hT hTn hin hiz (some ⟨b1, o', none⟩) i c' _ hcells k hk0 h0 hc (by omega) h48 (growslice_fits hc hn)
    have hzf : (Builtin.zeroCells z.cells k).toList = (List.replicate k z.cells.toList).flatten := by
      unfold Builtin.zeroCells
      rw [hzs]
      have := range_flat hzs h0 k
      rw [hzs] at this
      exact this
    have hzr : RepL w ok G (List.replicate k (ofC z).cells).flatten (!f) (Builtin.zeroCells z.cells k).toList := by
      rw [hzf]
      exact repL_flat (Rep.cellsL (Rep.ofC z hk) hsol) k
    have hzl2 : (Builtin.zeroCells z.cells k).toList.length = k * inf.size := by rw [Array.length_toList, size_zeroCells, hzs]
    have hge := grownCap_ge w (i + k) c' e
    have hcell : (us.take (i * inf.size)).toArray ++ Builtin.zeroCells z.cells k ++ Builtin.zeroCells z.cells (grownCap w (i + k) c' e - (i + k)) = ((us.take (i * inf.size) ++ (Builtin.zeroCells z.cells k).toList) ++ (Builtin.zeroCells z.cells (grownCap w (i + k) c' e - (i + k))).toList).toArray := by
      apply Array.ext'
      simp
    rw [hcell] at hrun
    have hrow := grown_row (z := z) hol hzl2 hzs hge
    have hex : ∀ u w', (Builtin.append_ #[T, tn] ty #[a.eval x, a.eval y]).run P w = .ok u w' → (execOp a.eval ⟨some d, .call { callee := .builtin .append, args := #[x, y], argTypes := #[T, tn] }, ty, ps, af, none⟩).run P w = .ok (.value u) w' := by
      intro u w' h3
      simp only [execOp, resolve, invoke, builtin, Sem.run_bind, Sem.run_pure, Result.andThen_ok, List.map_toArray, List.map_cons, List.map_nil, h3]
    unfold Oper.wp
    rw [hex _ _ (by rw [hxe, hyv]; exact hrun)]
    have hcf : f = false → menL t' (cs.take (i * inf.size)) = false := fun h3 => by
      have hne : t ≠ t' := by
        rintro rfl
        cases x with
        | tmp x =>
          have := hfr'.1 x
          simp only [ev] at hx
          rw [hx] at this
          simp [men] at this
        | const c =>
          cases c <;> simp [ev, ofC, ofCell] at hx
          all_goals (first | exact absurd hx (by simp) | (split at hx <;> cases hx))
        | _ => simp [ev] at hx
      exact menL_sub (hfr'.2 t cs (by rw [hH, h3]) hne) fun v hv => List.mem_of_mem_take hv
    have hzm : f = false → menL t' (List.replicate k (ofC z).cells).flatten = false := fun _ => by
      have hz' : tfL (ofC z).cells = true := by
        have ht : tf (ofC z) = true := (okZ.out hz).2.2.2.2
        cases hv : ofC z <;> rw [hv] at ht <;> simpa [V.cells, tfL, tf] using ht
      exact menL_of_tf _ _ (tfL_rep hz' k)
    obtain ⟨hs', hws, hmv⟩ := hs.drew.alloc2 hfr' (us.take (i * inf.size) ++ (Builtin.zeroCells z.cells k).toList) (Builtin.zeroCells z.cells (grownCap w (i + k) c' e - (i + k))).toList e (0, 0) f (cs.take (i * inf.size) ++ (List.replicate k (ofC z).cells).flatten) (fun G' hG => by
      have h5 := renamed (t' := t') (f' := f) hold (fun h => h) hcf G' hG
      have h6 := renamed (t' := t') (f' := f) hzr (fun h => h) hzm G' hG
      exact RepL.mv (w := w) (ok := ok) (G := G') (w' := w.drew) ⟨fun _ _ => rfl, fun _ h => h, fun _ cs _ fr h => ⟨cs, fr, h, rfl⟩⟩ _ _ _ (fun _ _ _ => rfl) (h5.append h6)) (zeroCells_one hk hsol _) (by simp)
    have hr2 := rel_put (v := .os t' 0 inf.size (i + k)) (dst := some d) (u := .slice (some ⟨w.heap.size, 0, none⟩) (i + k) (grownCap w (i + k) c' e)) hs' (fun z => hmv _ _ (hfr'.1 z) (Rep.mv (mv_drewN w ok G 1) _ _ _ (fun _ _ _ => rfl) (hrr z))) h1 h2 (dst_lt hok) (by
      simp only [Rep]
      refine ⟨trivial, .inl ⟨w.heap.size, grownCap w (i + k) c' e, 0, _, e, (0, 0), by simp, rfl, hge, h0, heap_alloc_new w.drew _, hrow, .inr rfl⟩⟩)
    exact hr w0 ok0 _ _ hr2 Q hq
  · rw [hg0] at hb1; cases hb1

/-- Cells are put down in a row of the call's own. -/
theorem sim_store {P : Program} {w0 : World} {ok0 : Fr} {w : World} {ok : Nat → Prop} {G : Nat → Option Nat} {h' : HF} {t g off o' : Nat} {f fy : Bool} {cs ys : List V} {news : List Value} (hs : Sim w0 ok0 w ok G h') (ht : h' t = some (f, cs)) (hg : G t = some g)
    (hoff : off + ys.length ≤ cs.length) (hn : RepL w ok G ys (!fy) news) (ho : news = [] ∨ o' = off) :
    ∃ w', (storeCells ⟨g, o', none⟩ news).run P w = .ok () w' ∧ Sim w0 ok0 w' ok G (appF h' [(t, some (f && fy, vsplice cs off ys))]) ∧ WS w ok w' := by
  obtain ⟨us, rest, ty0, fr, hh, hc, hone, hfz⟩ : ∃ (us rest : List Value) (ty : TypeId) (fr : Nat × Nat), w.heap[g]? = some (.cells (us ++ rest).toArray ty fr) ∧ RepL w ok G cs (!f) us ∧ (∀ u ∈ rest, u.oneCell' = true) ∧ (fr.2 ≤ fr.1 ∨ (us ++ rest).length ≤ fr.1) := by
    rcases hs.tok t f cs ht with h0 | ⟨b, hb, _, _, h3⟩
    · rw [h0.1] at hg; cases hg
    · rw [hg] at hb
      injection hb with hb
      subst hb
      exact h3
  have hul := hc.length
  have hnl := hn.length
  have hsplit : us ++ rest = us.take off ++ (us.drop off).take news.length ++ (us.drop (off + news.length) ++ rest) := by
    rw [List.append_assoc, ← List.append_assoc ((us.drop off).take news.length), ← List.drop_drop, List.take_append_drop, ← List.append_assoc, List.take_append_drop]
  have hst : ∃ w', (storeCells ⟨g, o', none⟩ news).run P w = .ok () w' ∧ Wr w g w' ∧ w'.heap[g]? = some (.cells (us.take off ++ news ++ (us.drop (off + news.length) ++ rest)).toArray ty0 fr) := by
    rcases ho with rfl | rfl
    · refine ⟨w, by simp [storeCells], Wr.refl _ _, ?_⟩
      rw [hh, hsplit]
      simp
    · exact run_storeCells_hg (P := P) g o' ty0 fr news 0 (us.take o') (us.drop (o' + news.length) ++ rest) ((us.drop o').take news.length) w (by rw [← hsplit]; exact hh)
        (by rw [List.length_take, Nat.add_zero]; omega) (by rw [List.length_take, List.length_drop]; omega) (by rw [← hsplit]; exact hfz) hn.one
  obtain ⟨w', hst, hwr, hb⟩ := hst
  have hre : us.take off ++ news ++ (us.drop (off + news.length) ++ rest) = (us.take off ++ news ++ us.drop (off + news.length)) ++ rest := by simp
  rw [hre] at hb
  have hcs : RepL w ok G (vsplice cs off ys) (!(f && fy)) (us.take off ++ news ++ us.drop (off + news.length)) := by
    unfold vsplice
    rw [← hnl]
    have hc' : RepL w ok G cs (!(f && fy)) us := flagged hc (fun h => by simp at h; exact h.1)
    have hn' : RepL w ok G ys (!(f && fy)) news := flagged hn (fun h => by simp at h; exact h.2)
    exact ((hc'.take off).append hn').append (hc'.drop _)
  have hll : (us.take off ++ news ++ us.drop (off + news.length) ++ rest).length = (us ++ rest).length := by
    simp only [List.length_append, List.length_take, List.length_drop]; omega
  obtain ⟨hs', hws⟩ := hs.write ht hg hwr hb (fun cs1 ty1 fr1 h3 => by
    rw [hh] at h3
    injection h3 with h3
    injection h3 with h3 h4 h5
    subst h3
    exact ⟨h4.symm, by rw [hll]; simp⟩) hcs hone (by rw [hll]; exact hfz)
  exact ⟨w', hst, hs', hws⟩
end
section
variable {P : Program} {env : Env} {H : Heap} {d : Option Tmp} {ty : TypeId} {ps : String} {af : Array Edge} {gd : Option (Nat × Bool)}

/-- Nothing is put down in a row that isn't there yet. -/
theorem sim_none {w0 : World} {ok0 : Fr} {w : World} {ok : Nat → Prop} {G : Nat → Option Nat} {h' : HF} {t : Nat} {f f2 : Bool} {cs cs2 : List V} (hs : Sim w0 ok0 w ok G h') (ht : h' t = some (f, cs)) (hg : G t = none) (h2 : cs2 = []) : Sim w0 ok0 w ok G (appF h' [(t, some (f2, cs2))]) := by
  subst h2
  refine ⟨hs.below, hs.okb, hs.okn, hs.oko, ?_, ?_⟩
  · intro t2 f2 cs2 h3
    simp only [appF] at h3
    cases hx2 : Nat.beq t2 t with
    | true =>
      have : t2 = t := Nat.eq_of_beq_eq_true hx2
      subst this
      rw [hx2] at h3
      simp only [cond_true, Option.some.injEq, Prod.mk.injEq] at h3
      exact .inl ⟨hg, h3.2.symm⟩
    | false =>
      rw [hx2] at h3
      exact hs.tok t2 f2 cs2 (by simpa using h3)
  · intro a1 b1 c1 ha hb
    refine hs.inj a1 b1 c1 ?_ ?_
    · simp only [appF] at ha
      cases hx : Nat.beq a1 t with
      | true => rw [Nat.eq_of_beq_eq_true hx, ht]; simp
      | false => rw [hx] at ha; simpa using ha
    · simp only [appF] at hb
      cases hx : Nat.beq b1 t with
      | true => rw [Nat.eq_of_beq_eq_true hx, ht]; simp
      | false => rw [hx] at hb; simpa using hb

/-- append where the elements behind the window are told: in place. -/
theorem lop_append_in {x y : Operand} {T tx e t off sz n m bytes : Nat} {f fy : Bool} {cs ys : List V} {v : V} {R : List Nat} {z : Value} (hx : ev (get env) x = .os t off sz n) (hH : hget H t = some (f, cs)) (hy : ev (get env) y = v) (hsrc : SrcV P H R sz tx v m fy ys) (hl : off + (n + m) * sz ≤ cs.length)
    (hT : P.underlying T = some (.slice e)) (hi : EInfo P e sz bytes z) (h0 : 0 < sz) :
    LOp P ⟨d, .call { callee := .builtin .append, args := #[x, y], argTypes := #[T, tx] }, ty, ps, af, gd⟩ env H (t :: R) (.os t off sz (n + m)) [(t, some (f && fy, vsplice cs (off + n * sz) ys))] [] := by
  obtain ⟨i, hin, hiz, rfl, rfl⟩ := hi.out
  intro e' h' he hR _ w0 ok0 sz' a w hok r next Q hnx
  obtain ⟨ok, G, hs, hr, h1, h2⟩ := r
  have hops := opd_ok hok
  simp only [Op.operands, Call.operands] at hops he
  have hxv : Rep w ok G (.os t off i.size n) true (a.eval x) := by
    have := Rep.ev hr x (hops x (by simp))
    rwa [he x (by simp), hx] at this
  have hyv : Rep w ok G v true (a.eval y) := by
    have := Rep.ev hr y (hops y (by simp))
    rwa [he y (by simp), hy] at this
  have ht : h' t = some (f, cs) := (hR t (by simp)).trans hH
  obtain ⟨news, hsr, hnr, hyl⟩ := hsrc.sound h0 (sees_of hs fun t ht => hR t (by simp [ht])) hyv
  have hex : ∀ u w', (Builtin.append_ #[T, tx] ty #[a.eval x, a.eval y]).run P w = .ok u w' → (execOp a.eval ⟨d, .call { callee := .builtin .append, args := #[x, y], argTypes := #[T, tx] }, ty, ps, af, gd⟩).run P w = .ok (.value u) w' := by
    intro u w' h3
    simp only [execOp, resolve, invoke, builtin, Sem.run_bind, Sem.run_pure, Result.andThen_ok, List.map_toArray, List.map_cons, List.map_nil, h3]
  simp only [Rep, true_and] at hxv
  rcases hxv with ⟨g, c, o', bs, ty', fr', hg, hxe, h4, h5, h6, h7, h8⟩ | ⟨hg, hn0, A, hxe⟩
  · have hbs : cs.length ≤ bs.size := by
      rcases hs.tok t f cs ht with h9 | ⟨b', hb', hm, hn, us, rest, ty2, fr2, h9, h10, _⟩
      · rw [h9.1] at hg; cases hg
      · rw [hg] at hb'; injection hb' with hb'; subst hb'
        rw [h6] at h9
        injection h9 with h9
        injection h9 with h9 _ _
        rw [h9, ← h10.length]; simp
    have hroom : n + m ≤ c := by
      have : (n + m) * i.size ≤ c * i.size := by omega
      exact Nat.le_of_mul_le_mul_right this h0
    have hoff : news = [] ∨ o' + n * i.size = off + n * i.size := by
      rcases h8 with h8 | h8
      · left
        have : m = 0 := by omega
        exact sz_ne hsr.newsLen this
      · right; rw [h8]
    obtain ⟨w', hst, hs', hws⟩ := sim_store (P := P) (off := off + n * i.size) (o' := o' + n * i.size) hs ht hg (by rw [hyl]; rw [Nat.add_mul] at hl; omega) hnr hoff
    have hrun : (Builtin.append_ #[T, tx] ty #[.slice (some ⟨g, o', none⟩) n c, a.eval y]).run P w = .ok (.slice (some ⟨g, o', none⟩) (n + m) c) w' := by
      rcases hsr.kind with ⟨e', hk⟩ | hk <;> simp [Builtin.append_, run_underlying hT, run_underlying hk, sizeOf, typeInfo, hin, hsr.len, hroom, hsr.cells, lit_add, hst]
    unfold Oper.wp
    rw [hex _ _ (by rw [hxe]; exact hrun)]
    refine hnx _ _ (rel_put hs' (fun z => Rep.mv (hws.mv fun _ h => h) _ _ _ (fun _ _ _ => rfl) (hr z)) h1 h2 (dst_lt hok) ?_)
    simp only [Rep]
    obtain ⟨cs', fr'', h9, h10⟩ := hws.siz _ _ _ _ h6
    exact ⟨trivial, .inl ⟨g, c, o', cs', ty', fr'', hg, rfl, hroom, h0, h9, by rw [h10]; exact h7, h8⟩⟩
  · subst hn0
    have hcs0 : cs = [] := by
      rcases hs.tok t f cs ht with h3 | ⟨b, hb, _⟩
      · exact h3.2
      · rw [hg] at hb; cases hb
    subst hcs0
    have hm0 : m = 0 := by
      rcases Nat.eq_zero_or_pos m with h | h
      · exact h
      · have := Nat.mul_pos h h0
        simp at hl
        omega
    subst hm0
    have hn0 := sz_ne hsr.newsLen rfl
    subst hn0
    have hys : ys = [] := List.eq_nil_of_length_eq_zero (by simpa using hyl)
    subst hys
    have hrun := run_append_nothing (P := P) w T tx ty e i hT hin A 0 0 (Nat.le_refl _) (a.eval y) hsr
    unfold Oper.wp
    rw [hex _ _ (by rw [hxe]; exact hrun)]
    refine hnx _ _ (rel_put (sim_none hs ht hg (by simp [vsplice])) (fun z => hr z) h1 h2 (dst_lt hok) ?_)
    simp only [Rep]
    exact ⟨trivial, .inr ⟨hg, trivial, _, rfl⟩⟩

/-- clear: a window of zeros. -/
theorem lop_clear {x : Operand} {T e t off sz n bytes : Nat} {f : Bool} {cs ys : List V} {z : Value} (hx : ev (get env) x = .os t off sz n) (hH : hget H t = some (f, cs)) (hl : off + n * sz ≤ cs.length)
    (hT : P.underlying T = some (.slice e)) (hi : EInfo P e sz bytes z) (hz : okZ z sz = true) (hys : (List.replicate n (ofC z).cells).flatten = ys) :
    LOp P ⟨d, .call { callee := .builtin .clear, args := #[x], argTypes := #[T] }, ty, ps, af, gd⟩ env H [t] .undef [(t, some (f, vsplice cs off ys))] [] := by
  subst hys
  obtain ⟨i, hin, hiz, rfl, rfl⟩ := hi.out
  obtain ⟨hk, hsol, hzl, h0, _⟩ := okZ.out hz
  have hzs : z.cells.size = i.size := by
    have h3 : RepL default (fun _ => True) (fun _ => none) (ofC z).cells false z.cells.toList := Rep.cellsL (Rep.ofC z hk) hsol
    rw [← hzl, ← h3.length]; simp
  intro e' h' he hR _ w0 ok0 sz' a w hok r next Q hnx
  obtain ⟨ok, G, hs, hr, h1, h2⟩ := r
  have hops := opd_ok hok
  simp only [Op.operands, Call.operands] at hops he
  have hxv : Rep w ok G (.os t off i.size n) true (a.eval x) := by
    have := Rep.ev hr x (hops x (by simp))
    rwa [he x (by simp), hx] at this
  have ht : h' t = some (f, cs) := (hR t (by simp)).trans hH
  have hex : ∀ u w', (Builtin.clear_ #[T] ty #[a.eval x]).run P w = .ok u w' → (execOp a.eval ⟨d, .call { callee := .builtin .clear, args := #[x], argTypes := #[T] }, ty, ps, af, gd⟩).run P w = .ok (.value u) w' := by
    intro u w' h3
    simp only [execOp, resolve, invoke, builtin, Sem.run_bind, Sem.run_pure, Result.andThen_ok, List.map_toArray, List.map_cons, List.map_nil, h3]
  have hzf : (Builtin.zeroCells z.cells n).toList = (List.replicate n z.cells.toList).flatten := by
    unfold Builtin.zeroCells
    rw [hzs]
    have := range_flat hzs h0 n
    rw [hzs] at this
    exact this
  have hzr : RepL w ok G (List.replicate n (ofC z).cells).flatten (!true) (Builtin.zeroCells z.cells n).toList := by
    rw [hzf]
    exact repL_flat (Rep.cellsL (Rep.ofC z hk) hsol) n
  have hyl : (List.replicate n (ofC z).cells).flatten.length = n * i.size := by
    rw [← hzr.length, Array.length_toList, size_zeroCells, hzs]
  simp only [Rep, true_and] at hxv
  rcases hxv with ⟨g, c, o', bs, ty', fr', hg, hxe, h4, h5, h6, h7, h8⟩ | ⟨hg, hn0, A, hxe⟩
  · have hoff : (Builtin.zeroCells z.cells n).toList = [] ∨ o' = off := by
      rcases h8 with h8 | h8
      · left
        have : n = 0 := by omega
        subst this
        exact List.eq_nil_of_length_eq_zero (by rw [Array.length_toList, size_zeroCells]; simp)
      · right; exact h8
    obtain ⟨w', hst, hs', hws⟩ := sim_store (P := P) (off := off) (o' := o') (fy := true) hs ht hg (by rw [hyl]; omega) hzr hoff
    have hrun : (Builtin.clear_ #[T] ty #[.slice (some ⟨g, o', none⟩) n c]).run P w = .ok (.tuple #[]) w' := by
      cases n with
      | zero =>
        have hnil : (Builtin.zeroCells z.cells 0).toList = [] := List.eq_nil_of_length_eq_zero (by rw [Array.length_toList, size_zeroCells]; simp)
        rw [hnil] at hst
        simp [storeCells] at hst
        subst hst
        simp [Builtin.clear_, run_underlying hT]
      | succ n => simp [Builtin.clear_, run_underlying hT, zeroValue, typeInfo, hin, hiz, hst]
    unfold Oper.wp
    rw [hex _ _ (by rw [hxe]; exact hrun)]
    rw [Bool.and_true] at hs'
    exact hnx _ _ (rel_put hs' (fun z => Rep.mv (hws.mv fun _ h => h) _ _ _ (fun _ _ _ => rfl) (hr z)) h1 h2 (dst_lt hok) (by simp [Rep]))
  · subst hn0
    have hcs0 : cs = [] := by
      rcases hs.tok t f cs ht with h3 | ⟨b, hb, _⟩
      · exact h3.2
      · rw [hg] at hb; cases hb
    subst hcs0
    have hrun : (Builtin.clear_ #[T] ty #[a.eval x]).run P w = .ok (.tuple #[]) w := by
      rw [hxe]
      cases A <;> simp [Builtin.clear_, run_underlying hT]
    unfold Oper.wp
    rw [hex _ _ hrun]
    exact hnx _ _ (rel_put (sim_none hs ht hg (by simp [vsplice])) (fun z => hr z) h1 h2 (dst_lt hok) (by simp [Rep]))

theorem slice_opds3 {T : TypeId} {x hi mx : Operand} {lo : Option Operand} : (∀ y ∈ lo.toList, y ∈ (Op.slice T x lo (some hi) (some mx)).operands) ∧ hi ∈ (Op.slice T x lo (some hi) (some mx)).operands ∧ mx ∈ (Op.slice T x lo (some hi) (some mx)).operands ∧ x ∈ (Op.slice T x lo (some hi) (some mx)).operands := by
  cases lo <;> simp [Op.operands]
/-- A window of three bounds, of which nothing is told. -/
theorem lop_slice3 {x hi mx : Operand} {lo : Option Operand} {t off sz n l h m : Nat} {k k' : IntKind} {zh zm : Int} {f : Bool} {cs : List V} {T e : TypeId} (hx : ev (get env) x = .os t off sz n) (hH : hget H t = some (f, cs)) (hT : P.underlying T = some (.slice e)) (hsz : ∀ w, (sizeOf e).run P w = .ok sz w) (hlo : Bd (get env) lo 0 l) (hhi : ev (get env) hi = .int k zh) (hzh : zh = (h : Int)) (hmx : ev (get env) mx = .int k' zm) (hzm : zm = (m : Int)) (h1 : l ≤ h) (h2 : h ≤ m) (h3 : m ≤ n) :
    LOp P ⟨d, .slice T x lo (some hi) (some mx), ty, ps, af, gd⟩ env H [t] .undef [] [] :=
  lop_read fun w ok G ρ hs hr => by
    subst hzh hzm
    have h4 := hr x slice_opds3.2.2.2
    have h5 := hr hi slice_opds3.2.1
    have h6 := hr mx slice_opds3.2.2.1
    rw [hx] at h4
    rw [hhi] at h5
    rw [hmx] at h6
    simp only [Rep] at h4 h5 h6
    have hlo' := bd_val hlo fun y hy => hr y (slice_opds3.1 y hy)
    have key : ∀ A c, n ≤ c → ∃ u, (Instr.sliceAt T (.slice A n c) (lo.map ρ) (some (ρ hi)) (some (ρ mx))).run P w = .ok u w := fun A c hc => by
      have e1 := run_sliceBound_nat (P := P) (k := k') (code := .slice3Acap) (show m ≤ c by omega) w
      have e2 := run_sliceBound_nat (P := P) (k := k) (code := .slice3B) h2 w
      rcases hlo' with ⟨hl, rfl⟩ | ⟨kk, hl⟩
      · exact ⟨_, by rw [hl, h5, h6]; simp [Instr.sliceAt, run_underlying hT, Instr.slice, Instr.sliceBounds, hsz, e1, e2]; rfl⟩
      · have e3 := run_sliceBound_nat (P := P) (k := kk) (code := .slice3C) h1 w
        exact ⟨_, by rw [hl, h5, h6]; simp [Instr.sliceAt, run_underlying hT, Instr.slice, Instr.sliceBounds, hsz, e1, e2, e3]; rfl⟩
    obtain ⟨_, ⟨b, c, o', bs, ty', fr, hb, h7, h8, _⟩ | ⟨hg, rfl, A, h7⟩⟩ := h4
    · obtain ⟨u, hu⟩ := key (some ⟨b, o', none⟩) c h8
      exact ⟨u, by simp only [execOp, h7, Option.map_some, Sem.run_bind, hu, Result.andThen_ok, Sem.run_pure], by simp [Rep]⟩
    · obtain ⟨u, hu⟩ := key A 0 (by omega)
      exact ⟨u, by simp only [execOp, h7, Option.map_some, Sem.run_bind, hu, Result.andThen_ok, Sem.run_pure], by simp [Rep]⟩
end
end Go.Hg
namespace Go.Hg
open Go.RowKit
theorem run_overlaps_any {P : Program} (w : World) (tS tR e : TypeId) (ht : P.underlying tS = some (.slice e)) (size : Nat) (hz : ∀ w, (Go.sizeOf e).run P w = .ok size w)
    (a b : Addr) (la ca lb cb : Nat) (hne : a.block ≠ b.block) (tA tB : TypeId) (kA kB : Nat)
    (hsa : w.shape? a.block = some (tA, kA)) (hsb : w.shape? b.block = some (tB, kB)) (hfa : w.frozen? a = false) :
    ∃ r w', (Extern.SlicesOverlaps.overlaps #[tS, tS] #[tR] #[.slice (some a) la ca, .slice (some b) lb cb]).run P w = .ok (.bool r) w' ∧ (w' = w ∨ w' = w.drew) := by
  have hnb : (a.block != b.block) = true := by simpa using hne
  have hnb' : (a.block == b.block) = false := by simpa using hne
  change ∃ r w', Sem.run P (α := Value) (do
    let some t := (#[tS, tS] : Array TypeId)[0]? | stuck "slices.overlaps: no parameter types"
    let .slice elem ← underlying t | stuck "slices.overlaps: slice type expected"
    let size ← sizeOf elem
    match (some a : Option Addr), (some b : Option Addr) with
    | some a, some b =>
      if la = 0 ∨ lb = 0 ∨ size = 0 then pure (Value.bool false)
      else if a.block != b.block && (← frozen a) && (← frozen b) then unsupported .addressObserved
      else do
        if a.block != b.block then do
          noView a; noView b
          if ← mayBeOne a b then return Value.bool ((← choose (.extern "sameAddr.stringBytes" 2)) == 1)
        pure (Value.bool (a.block == b.block && a.off < b.off + lb * size && b.off < a.off + la * size))
    | _, _ => pure (Value.bool false)) w = .ok (.bool r) w' ∧ (w' = w ∨ w' = w.drew)
  by_cases h0 : la = 0 ∨ lb = 0 ∨ size = 0
  · exact ⟨false, w, by simp [run_underlying ht, hz, h0], .inl rfl⟩
  · obtain ⟨m, hm⟩ : ∃ m, (mayBeOne a b).run P w = .ok m w := by
      cases hfb : w.frozen? b <;> cases kA <;> cases kB <;> exact ⟨_, by simp [mayBeOne, stringish, frozen, shape, Sem.run, hsa, hsb, hfa, hfb]; rfl⟩
    cases m
    · exact ⟨false, w, by simp [run_underlying ht, hz, h0, hnb, hnb', frozen, noView, viewAt, shape, Sem.run, hsa, hsb, hfa, hm], .inl rfl⟩
    · refine ⟨(Question.extern "sameAddr.stringBytes" 2).cut (w.tape w.drawn (Question.extern "sameAddr.stringBytes" 2)) == 1, w.drew, ?_, .inr rfl⟩
      simp [run_underlying ht, hz, h0, hnb, hnb', frozen, noView, viewAt, shape, Sem.run, hsa, hsb, hfa, hm, Question.forced]
section
variable {P : Program} {ops : Array Oper} {rest : List Oper} {env : Env} {H : Heap} {sz0 : Nat} {K : St → Prop} {d : Nat} {ty : TypeId} {ps : String} {af : Array Edge}
theorem run_overlaps_nil {P : Program} (w : World) (tS tR e : TypeId) (ht : P.underlying tS = some (.slice e)) (size : Nat) (hz : ∀ w, (Go.sizeOf e).run P w = .ok size w) (a b : Option Addr) (la ca lb cb : Nat) (h : la = 0 ∨ lb = 0) :
    (Extern.SlicesOverlaps.overlaps #[tS, tS] #[tR] #[.slice a la ca, .slice b lb cb]).run P w = .ok (.bool false) w := by
  have h0 : la = 0 ∨ lb = 0 ∨ size = 0 := h.imp id .inl
  cases a with
  | none =>
    change Sem.run P (α := Value) (do
      let some t := (#[tS, tS] : Array TypeId)[0]? | stuck "slices.overlaps: no parameter types"
      let .slice elem ← underlying t | stuck "slices.overlaps: slice type expected"
      let size ← sizeOf elem
      pure (Value.bool false)) w = _
    simp [run_underlying ht, hz]
  | some a =>
    cases b with
    | none =>
      change Sem.run P (α := Value) (do
        let some t := (#[tS, tS] : Array TypeId)[0]? | stuck "slices.overlaps: no parameter types"
        let .slice elem ← underlying t | stuck "slices.overlaps: slice type expected"
        let size ← sizeOf elem
        pure (Value.bool false)) w = _
      simp [run_underlying ht, hz]
    | some b =>
      change Sem.run P (α := Value) (do
        let some t := (#[tS, tS] : Array TypeId)[0]? | stuck "slices.overlaps: no parameter types"
        let .slice elem ← underlying t | stuck "slices.overlaps: slice type expected"
        let size ← sizeOf elem
        if la = 0 ∨ lb = 0 ∨ size = 0 then pure (Value.bool false)
        else if a.block != b.block && (← frozen a) && (← frozen b) then unsupported .addressObserved
        else do
          if a.block != b.block then do
            noView a; noView b
            if ← mayBeOne a b then return Value.bool ((← choose (.extern "sameAddr.stringBytes" 2)) == 1)
          pure (Value.bool (a.block == b.block && a.off < b.off + lb * size && b.off < a.off + la * size))) w = _
      simp [run_underlying ht, hz, h0]
theorem pos_pos {n sz : Nat} (h : 0 < n) (h2 : 0 < sz) : 0 < n * sz := Nat.mul_pos h h2
/-- slices.overlaps of windows of two blocks: yes or no. -/
theorem op_overlaps {fid T R e : Nat} {x x1 x2 : Operand} {ats : Array TypeId} {t1 t2 off1 off2 n1 n2 sz : Nat} {f1 f2 : Bool} {cs1 cs2 : List V} (hx : ev (get env) x = .fn fid [])
    (hfn : ∀ a b w, (callFunc fid #[a, b]).run P w = ((Extern.SlicesOverlaps.overlaps #[T, T] #[R] #[a, b]).run P w).andThen fun v w' => .ok (.value v) w')
    (hT : P.underlying T = some (.slice e)) (hsz : ∀ w, (Go.sizeOf e).run P w = .ok sz w)
    (hx1 : ev (get env) x1 = .os t1 off1 sz n1) (hx2 : ev (get env) x2 = .os t2 off2 sz n2) (hne : t1 ≠ t2) (hH1 : hget H t1 = some (f1, cs1)) (hH2 : hget H t2 = some (f2, cs2)) (hl1 : off1 + n1 * sz ≤ cs1.length)
    (hok : opOk ⟨some d, .call { callee := .value x, args := #[x1, x2], argTypes := ats }, ty, ps, af, none⟩ sz0 = true)
    (hr : ∀ b, OpsOk P ops rest ⟨(d, .bool b) :: env, H, sz0⟩ K) :
    OpsOk P ops (⟨some d, .call { callee := .value x, args := #[x1, x2], argTypes := ats }, ty, ps, af, none⟩ :: rest) ⟨env, H, sz0⟩ K := by
  intro w0 ok0 a w r Q hq
  unfold wpList
  rw [if_pos (by simp [Region.wanted])]
  refine .inl ?_
  obtain ⟨ok, G, hs, hrr, h1, h2⟩ := r
  have hops := opd_ok hok
  simp only [Op.operands, Call.operands] at hops
  have hxr : Rep w ok G (.fn fid []) true (a.eval x) := by
    have := Rep.ev hrr x (hops x (by simp))
    rwa [hx] at this
  simp only [Rep, RepT] at hxr
  obtain ⟨cus, hxe, rfl⟩ := hxr
  have hv1 : Rep w ok G (.os t1 off1 sz n1) true (a.eval x1) := by
    have := Rep.ev hrr x1 (hops x1 (by simp))
    rwa [hx1] at this
  have hv2 : Rep w ok G (.os t2 off2 sz n2) true (a.eval x2) := by
    have := Rep.ev hrr x2 (hops x2 (by simp))
    rwa [hx2] at this
  have hfin : ∀ r w', (Extern.SlicesOverlaps.overlaps #[T, T] #[R] #[a.eval x1, a.eval x2]).run P w = .ok (.bool r) w' → (w' = w ∨ w' = w.drew) → Oper.wp P ⟨some d, .call { callee := .value x, args := #[x1, x2], argTypes := ats }, ty, ps, af, none⟩ a w (wpList P ops Q rest) Q := by
    intro r w' hrun hw
    have hex : (execOp a.eval ⟨some d, .call { callee := .value x, args := #[x1, x2], argTypes := ats }, ty, ps, af, none⟩).run P w = .ok (.value (.bool r)) w' := by
      simp [execOp, resolve, hxe, Deferred.ofValue, invoke, hfn, hrun]
    unfold Oper.wp
    rw [hex]
    have hs' : Sim w0 ok0 w' ok G (hget H) ∧ Mv w ok G w' ok G := by
      rcases hw with rfl | rfl
      · exact ⟨hs, ⟨fun _ _ => rfl, fun _ h => h, fun _ cs _ fr h => ⟨cs, fr, h, rfl⟩⟩⟩
      · exact ⟨hs.drew, mv_drewN w ok G 1⟩
    have := rel_put (v := .bool r) (dst := some d) (u := .bool r) hs'.1 (fun z => Rep.mv hs'.2 _ _ _ (fun _ _ _ => rfl) (hrr z)) h1 h2 (dst_lt hok) (by simp [Rep])
    exact hr r w0 ok0 _ _ this Q hq
  simp only [Rep, true_and] at hv1 hv2
  have hnil : ∀ (A B : Option Addr) n c n' c', (n = 0 ∨ n' = 0) → (Extern.SlicesOverlaps.overlaps #[T, T] #[R] #[.slice A n c, .slice B n' c']).run P w = .ok (.bool false) w := fun A B n c n' c' h => run_overlaps_nil w T R e hT sz hsz A B n c n' c' h
  rcases hv1 with ⟨b1, c1, o1, bs1, ty1, fr1, hb1, he1, hc1, h0, hh1, hz1, hoo1⟩ | ⟨_, hn1, A1, he1⟩
  · rcases hv2 with ⟨b2, c2, o2, bs2, ty2, fr2, hb2, he2, hc2, _, hh2, hz2, hoo2⟩ | ⟨_, hn2, A2, he2⟩
    · have hbne : b1 ≠ b2 := fun h => hne (hs.inj t1 t2 b1 (by rw [hH1]; simp) (by rw [hH2]; simp) hb1 (h ▸ hb2))
      rcases Nat.eq_zero_or_pos n1 with hn1 | hn1
      · exact hfin false w (by rw [he1, he2]; exact hnil _ _ _ _ _ _ (.inl hn1)) (.inl rfl)
      · have hfz : w.frozen? ⟨b1, o1, none⟩ = false := by
          rcases hs.tok t1 f1 cs1 hH1 with h9 | ⟨b', hb', _, _, us, rest', ty3, fr3, h9, h10, h11, h12⟩
          · rw [h9.1] at hb1; cases hb1
          · rw [hb1] at hb'; injection hb' with hb'; subst hb'
            have ho : o1 = off1 := by
              rcases hoo1 with h | h
              · omega
              · exact h
            have := pos_pos hn1 h0
            have hul := h10.length
            simp only [World.frozen?, h9]
            simp only [List.length_append] at h12
            obtain ⟨lo, hi⟩ := fr3
            simp only at h12
            simp only [Bool.and_eq_false_iff, decide_eq_false_iff_not]
            omega
        obtain ⟨r, w', hrun, hw⟩ := run_overlaps_any (P := P) w T R e hT sz hsz ⟨b1, o1, none⟩ ⟨b2, o2, none⟩ n1 c1 n2 c2 hbne ty1 ty2 bs1.size bs2.size (by simp [World.shape?, hh1]) (by simp [World.shape?, hh2]) hfz
        exact hfin r w' (by rw [he1, he2]; exact hrun) hw
    · exact hfin false w (by rw [he1, he2]; exact hnil _ _ _ _ _ _ (.inr rfl)) (.inl rfl)
  · rcases hv2 with ⟨b2, c2, o2, bs2, ty2, fr2, hb2, he2, hc2, _, hh2, hz2, hoo2⟩ | ⟨_, hn2, A2, he2⟩
    · exact hfin false w (by rw [he1, he2]; exact hnil _ _ _ _ _ _ (.inl rfl)) (.inl rfl)
    · exact hfin false w (by rw [he1, he2]; exact hnil _ _ _ _ _ _ (.inl rfl)) (.inl rfl)
end
end Go.Hg
