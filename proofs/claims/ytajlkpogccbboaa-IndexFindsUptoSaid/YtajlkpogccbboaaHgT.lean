/- copy into rows of the call's own. No condition. -/
import Derived.Test.YtajlkpogccbboaaHgR
set_option linter.unusedVariables false
set_option linter.unusedSimpArgs false
namespace Go.Hg
open Go.RowKit

/-- What a slice yields as the source of a copy. -/
structure SrcK (P : Program) (sz : Nat) (x : Value) (m : Nat) (news : List Value) (w : World) : Prop where
  len : ∀ w' : World, (Builtin.lenOf x).run P w' = .ok m w'
  pre : ∀ k, k ≤ m → (Builtin.firstCells sz k x).run P w = .ok (news.take (k * sz)).toArray w
  newsLen : news.length = m * sz
  one : ∀ u ∈ news, u.oneCell' = true

theorem srcK_at {P : Program} {w : World} {ok : Nat → Prop} {sz : Nat} {A : Option Addr} {m c : Nat} {us : List Value} (h0 : 0 < sz) (ha : At w ok A us) (hl : us.length = m * sz) (h1 : ∀ u ∈ us, u.oneCell' = true) :
    SrcK P sz (.slice A m c) m us w := by
  refine ⟨fun _ => rfl, fun k hk => ?_, hl, h1⟩
  have hle : k * sz ≤ m * sz := Nat.mul_le_mul_right _ hk
  rcases ha with rfl | ⟨ad, rfl, _, h⟩
  · have hm : m = 0 := by
      rcases Nat.eq_zero_or_pos m with h | h
      · exact h
      · have := Nat.mul_pos h h0
        simp at hl
        omega
    subst hm
    have hk0 : k = 0 := by omega
    subst hk0
    cases A with
    | none => simpa using run_firstCells_none w sz 0 0 c
    | some ad => exact run_firstCells_some w sz 0 ad 0 c _ (by simp) (by simp)
  · refine run_firstCells_some w sz k ad m c _ (by rw [List.length_take]; omega) (fun j u hj => ?_)
    rw [List.getElem?_take] at hj
    split at hj
    · exact h j u hj
    · cases hj

theorem SrcV.soundK {P : Program} {H : Heap} {R : List Nat} {sz tx : Nat} {v : V} {m : Nat} {f : Bool} {ys : List V} (hv : SrcV P H R sz tx v m f ys) (h0 : 0 < sz) {w : World} {ok : Nat → Prop} {G : Nat → Option Nat} (hs : Sees w ok G H R) {u : Value} (hr : Rep w ok G v true u) :
    ∃ news, SrcK P sz u m news w ∧ RepL w ok G ys (!f) news ∧ ys.length = m * sz := by
  cases hv with
  | sl hk hl =>
    simp only [Rep] at hr
    obtain ⟨A, c, us, rfl, h2, h3, h4⟩ := hr
    exact ⟨us, srcK_at h0 h3 (by rw [h4.length, hl]) h4.one, h4, hl⟩
  | z0 hk =>
    simp only [Rep] at hr
    obtain ⟨A, rfl⟩ := hr
    exact ⟨[], srcK_at (ok := ok) h0 (.inl rfl) (by simp) (by simp), by simp [RepL], by simp⟩
  | @os e' s off _ f blk _ hk hR hH hl hy =>
    subst hy
    simp only [Rep] at hr
    have hlen : ((blk.drop off).take (m * sz)).length = m * sz := by rw [List.length_take, List.length_drop]; omega
    obtain ⟨_, ⟨b, c, o', cs, ty, fr, hb, rfl, h3, h4, h5, h6, h7⟩ | ⟨hg, rfl, A, rfl⟩⟩ := hr
    · rcases hs.tok s hR f blk hH with h8 | ⟨b', hb', us, rest, ty', fr', h9, h10, h11, h12⟩
      · rw [h8.1] at hb; cases hb
      rw [hb] at hb'; injection hb' with hb'; subst hb'
      have h13 := (h10.drop off).take (m * sz)
      refine ⟨_, ?_, h13, hlen⟩
      have hul : ((us.drop off).take (m * sz)).length = m * sz := by rw [h13.length, hlen]
      rcases h7 with h7 | h7
      · have hm : m = 0 := by omega
        subst hm
        simp only [Nat.zero_mul, List.take_zero] at hul ⊢
        exact srcK_at (ok := fun _ => True) h0 (.inl rfl) (by simp) (by simp)
      · subst h7
        exact srcK_at (ok := fun _ => True) h0 ((at_block h9 trivial).take _) hul h13.one
    · simp only [Nat.zero_mul, List.take_zero]
      exact ⟨[], srcK_at (ok := ok) h0 (.inl rfl) (by simp) (by simp), by simp [RepL], by simp⟩
  | str hk h1 =>
    subst h1
    simp only [Rep] at hr
    subst hr
    refine ⟨byteCells _, ⟨fun _ => rfl, fun k hk => ?_, by rw [byteCells_length, Nat.mul_one], fun u hu => ?_⟩, repL_bytes _, by rw [bytesV_length, Nat.mul_one]⟩
    · have : ∀ s : ByteArray, (s.extract 0 k).data.map (fun b => Value.int .u8 b.toNat) = ((byteCells s).take (k * 1)).toArray := fun s => by
        apply Array.ext'
        simp [byteCells, List.map_take]
      simp only [Builtin.firstCells, this, Sem.run_pure]
    · obtain ⟨_, _, rfl⟩ := List.mem_map.1 hu
      rfl

section
variable {P : Program} {env : Env} {H : Heap} {d : Option Tmp} {ty : TypeId} {ps : String} {af : Array Edge} {gd : Option (Nat × Bool)}

/-- copy into a row of the call's own: as many elements as both have. -/
theorem lop_copy {x y : Operand} {T tx e t off sz n m k : Nat} {f fy : Bool} {cs ys : List V} {v : V} {R : List Nat} (hx : ev (get env) x = .os t off sz n) (hH : hget H t = some (f, cs)) (hy : ev (get env) y = v) (hsrc : SrcV P H R sz tx v m fy ys)
    (hT : P.underlying T = some (.slice e)) (hsz : ∀ w, (sizeOf e).run P w = .ok sz w) (h0 : 0 < sz) (hk : min m n = k) (hl : off + n * sz ≤ cs.length) :
    LOp P ⟨d, .call { callee := .builtin .copy, args := #[x, y], argTypes := #[T, tx] }, ty, ps, af, gd⟩ env H (t :: R) (.int .i64 k) [(t, some (f && fy, vsplice cs off (ys.take (k * sz))))] [] := by
  intro e' h' he hR _ w0 ok0 sz' a w hok r next Q hnx
  obtain ⟨ok, G, hs, hr, h1, h2⟩ := r
  have hops := opd_ok hok
  simp only [Op.operands, Call.operands] at hops he
  have hxv : Rep w ok G (.os t off sz n) true (a.eval x) := by
    have := Rep.ev hr x (hops x (by simp))
    rwa [he x (by simp), hx] at this
  have hyv : Rep w ok G v true (a.eval y) := by
    have := Rep.ev hr y (hops y (by simp))
    rwa [he y (by simp), hy] at this
  have ht : h' t = some (f, cs) := (hR t (by simp)).trans hH
  obtain ⟨news, hsr, hnr, hyl⟩ := hsrc.soundK h0 (w := w) (ok := ok) (G := G) (sees_of hs fun t ht => hR t (by simp [ht])) hyv
  have hkm : k ≤ m := by omega
  have hkn : k ≤ n := by omega
  have hks : k * sz ≤ n * sz := Nat.mul_le_mul_right _ hkn
  have hkms : k * sz ≤ m * sz := Nat.mul_le_mul_right _ hkm
  have hput : ∀ {w' : World} {W : HF} (hs' : Sim w0 ok0 w' ok G W) (hws : Mv w ok G w' ok G), RelF w0 ok0 (putF e' d (.int .i64 k)) W sz' (a.put d (.int .i64 k)) w' := fun hs' hws =>
    rel_put hs' (fun z => Rep.mv hws _ _ _ (fun _ _ _ => rfl) (hr z)) h1 h2 (dst_lt hok) (by simp [Rep])
  simp only [Rep, true_and] at hxv
  rcases hxv with ⟨g, c, o', bs, ty', fr', hg, hxv, h4, h5, h6, h7, h8⟩ | ⟨hg, hn0, A, hxv⟩
  · obtain ⟨us, rest, ty0, fr, hh, hc, hone, hfz⟩ : ∃ (us rest : List Value) (ty : TypeId) (fr : Nat × Nat), w.heap[g]? = some (.cells (us ++ rest).toArray ty fr) ∧ RepL w ok G cs (!f) us ∧ (∀ u ∈ rest, u.oneCell' = true) ∧ (fr.2 ≤ fr.1 ∨ (us ++ rest).length ≤ fr.1) := by
      rcases hs.tok t f cs ht with h0 | ⟨b, hb, _, _, h3⟩
      · rw [h0.1] at hg; cases hg
      · rw [hg] at hb
        injection hb with hb
        subst hb
        exact h3
    have hul := hc.length
    have hnl : (news.take (k * sz)).length = k * sz := by rw [List.length_take, hsr.newsLen]; omega
    have hsplit : us ++ rest = us.take off ++ (us.drop off).take (k * sz) ++ (us.drop (off + k * sz) ++ rest) := by
      rw [List.append_assoc, ← List.append_assoc ((us.drop off).take (k * sz)), ← List.drop_drop, List.take_append_drop, ← List.append_assoc, List.take_append_drop]
    have hone' : ∀ u ∈ news.take (k * sz), u.oneCell' = true := fun u hu => hsr.one u (List.mem_of_mem_take hu)
    -- the place that is written
    have hrun : ∃ w', (Builtin.copy_ #[T, tx] ty #[a.eval x, a.eval y]).run P w = .ok (.int .i64 k) w' ∧ Wr w g w' ∧ w'.heap[g]? = some (.cells (us.take off ++ news.take (k * sz) ++ (us.drop (off + k * sz) ++ rest)).toArray ty0 fr) := by
      have hst : ∃ w', (storeCells ⟨g, o', none⟩ (news.take (k * sz))).run P w = .ok () w' ∧ Wr w g w' ∧ w'.heap[g]? = some (.cells (us.take off ++ news.take (k * sz) ++ (us.drop (off + k * sz) ++ rest)).toArray ty0 fr) := by
        rcases h8 with h8 | h8
        · have hk0 : k = 0 := by omega
          subst hk0
          refine ⟨w, by simp [storeCells], Wr.refl _ _, ?_⟩
          rw [hh, hsplit]
          simp
        · rw [h8]
          exact run_storeCells_hg (P := P) g off ty0 fr (news.take (k * sz)) 0 (us.take off) (us.drop (off + k * sz) ++ rest) ((us.drop off).take (k * sz)) w (by rw [← hsplit]; exact hh)
            (by rw [List.length_take, Nat.add_zero]; omega) (by rw [List.length_take, List.length_drop, hnl]; omega) (by rw [← hsplit]; exact hfz) hone'
      obtain ⟨w', hst, hwr, hb⟩ := hst
      refine ⟨w', ?_, hwr, hb⟩
      have hmn : Nat.min m n = k := hk
      simp [Builtin.copy_, run_underlying hT, hxv, hsr.len, hmn, hsz, hsr.pre k hkm, hst, goInt]
    obtain ⟨w', hrun, hwr, hb⟩ := hrun
    have hex : (execOp a.eval ⟨d, .call { callee := .builtin .copy, args := #[x, y], argTypes := #[T, tx] }, ty, ps, af, gd⟩).run P w = .ok (.value (.int .i64 k)) w' := by
      simp only [execOp, resolve, invoke, builtin, Sem.run_bind, Sem.run_pure, Result.andThen_ok, List.map_toArray, List.map_cons, List.map_nil, hrun]
    have hre : us.take off ++ news.take (k * sz) ++ (us.drop (off + k * sz) ++ rest) = (us.take off ++ news.take (k * sz) ++ us.drop (off + k * sz)) ++ rest := by simp
    rw [hre] at hb
    have hcs : RepL w ok G (vsplice cs off (ys.take (k * sz))) (!(f && fy)) (us.take off ++ news.take (k * sz) ++ us.drop (off + k * sz)) := by
      have hdn : off + (ys.take (k * sz)).length = off + k * sz := by rw [List.length_take, hyl]; omega
      unfold vsplice
      rw [hdn]
      have hc' : RepL w ok G cs (!(f && fy)) us := flagged hc (fun h => by simp at h; exact h.1)
      have hn' : RepL w ok G ys (!(f && fy)) news := flagged hnr (fun h => by simp at h; exact h.2)
      exact ((hc'.take off).append (hn'.take _)).append (hc'.drop (off + k * sz))
    have hll : (us.take off ++ news.take (k * sz) ++ us.drop (off + k * sz) ++ rest).length = (us ++ rest).length := by
      simp only [List.length_append, List.length_take, List.length_drop, hsr.newsLen]; omega
    obtain ⟨hs', hws⟩ := hs.write ht hg hwr hb (fun cs1 ty1 fr1 h3 => by
      rw [hh] at h3
      injection h3 with h3
      injection h3 with h3 h4 h5
      subst h3
      exact ⟨h4.symm, by rw [hll]; simp⟩) hcs hone (by rw [hll]; exact hfz)
    unfold Oper.wp
    rw [hex]
    exact hnx _ _ (hput hs' (hws.mv fun _ h => h))
  · -- not there yet: nothing is copied
    subst hn0
    have hk0 : k = 0 := by omega
    subst hk0
    have hcs0 : cs = [] := by
      rcases hs.tok t f cs ht with h3 | ⟨b, hb, _⟩
      · exact h3.2
      · rw [hg] at hb; cases hb
    subst hcs0
    have hrun : (Builtin.copy_ #[T, tx] ty #[a.eval x, a.eval y]).run P w = .ok (.int .i64 0) w := by
      have hmn : Nat.min m 0 = 0 := by simp
      cases A with
      | none => simp [Builtin.copy_, run_underlying hT, hxv, hsr.len, hsz, hsr.pre 0 hkm, goInt]
      | some ad => simp [Builtin.copy_, run_underlying hT, hxv, hsr.len, hsz, hsr.pre 0 hkm, goInt, storeCells]
    have hex : (execOp a.eval ⟨d, .call { callee := .builtin .copy, args := #[x, y], argTypes := #[T, tx] }, ty, ps, af, gd⟩).run P w = .ok (.value (.int .i64 0)) w := by
      simp only [execOp, resolve, invoke, builtin, Sem.run_bind, Sem.run_pure, Result.andThen_ok, List.map_toArray, List.map_cons, List.map_nil, hrun]
    unfold Oper.wp
    rw [hex]
    refine hnx _ _ (RelF.weak (hput (W := appF h' [(t, some (f && fy, []))]) ?_ ⟨fun _ _ => rfl, fun _ h => h, fun _ cs _ fr h => ⟨cs, fr, h, rfl⟩⟩) (fun _ => .inr rfl) (fun t' => .inr ?_))
    · refine ⟨hs.below, hs.okb, hs.okn, hs.oko, ?_, ?_⟩
      · intro t2 f2 cs2 h3
        simp only [appF] at h3
        cases hx2 : Nat.beq t2 t with
        | true =>
          have : t2 = t := Nat.eq_of_beq_eq_true hx2
          subst this
          rw [hx2] at h3
          simp only [cond_true, Option.some.injEq, Prod.mk.injEq] at h3
          exact .inl ⟨hg, h3.2.symm⟩
        | false =>
          rw [hx2] at h3
          exact hs.tok t2 f2 cs2 (by simpa using h3)
      · intro a1 b1 c1 ha hb
        refine hs.inj a1 b1 c1 ?_ ?_
        · simp only [appF] at ha
          cases hx : Nat.beq a1 t with
          | true => rw [Nat.eq_of_beq_eq_true hx, ht]; simp
          | false => rw [hx] at ha; simpa using ha
        · simp only [appF] at hb
          cases hx : Nat.beq b1 t with
          | true => rw [Nat.eq_of_beq_eq_true hx, ht]; simp
          | false => rw [hx] at hb; simpa using hb
    · simp [vsplice]
end
end Go.Hg
