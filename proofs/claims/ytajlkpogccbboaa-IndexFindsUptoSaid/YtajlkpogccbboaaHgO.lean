/- Strings and bytes. No condition. -/
import Derived.Test.YtajlkpogccbboaaHgN
import Derived.Laws.BytesString
import Derived.Laws.BytesArg
set_option linter.unusedVariables false
set_option linter.unusedSimpArgs false
namespace Go.Hg
open Go.RowKit

/-- A row of bytes. -/
def rowV (l : List UInt8) : List V := l.map fun b => .int .u8 b.toNat
theorem rowV_length (l : List UInt8) : (rowV l).length = l.length := by simp [rowV]
theorem rowV_append (l l' : List UInt8) : rowV (l ++ l') = rowV l ++ rowV l' := by simp [rowV]
theorem rowV_take (l : List UInt8) (n : Nat) : (rowV l).take n = rowV (l.take n) := by simp [rowV, List.map_take]
theorem rowV_drop (l : List UInt8) (n : Nat) : (rowV l).drop n = rowV (l.drop n) := by simp [rowV, List.map_drop]
theorem rowV_get (l : List UInt8) (n : Nat) : (rowV l)[n]? = (l[n]?).map fun b => V.int .u8 b.toNat := by simp [rowV]
theorem bytesV_eq (s : ByteArray) : bytesV s = rowV s.data.toList := rfl
theorem tfL_rowV (l : List UInt8) : tfL (rowV l) = true := by
  induction l with
  | nil => rfl
  | cons b l ih => simpa [rowV, tfL, tf] using ih

theorem repL_row {w : World} {ok : Nat → Prop} {G : Nat → Option Nat} {tk : Bool} {l : List UInt8} {us : List Value} (h : RepL w ok G (rowV l) tk us) : us = (l.map fun b => (b.toNat : Int)).map (Value.int .u8) := by
  induction l generalizing us with
  | nil => simpa [rowV, RepL] using h
  | cons b l ih =>
    simp only [rowV, List.map_cons, RepL, Rep] at h
    obtain ⟨u, us', rfl, _, rfl, h4⟩ := h
    simp [ih h4]

theorem run_toStr {P : Program} {src e dst : TypeId} (hs : P.underlying src = some (.slice e)) (he : P.underlying e = some (.int .u8)) (hd : P.underlying dst = some .string) {w : World} {ok : Nat → Prop} {A : Option Addr} {us : List Value} {l : List UInt8} {c : Nat}
    (ha : At w ok A us) (hu : us = (l.map fun b => (b.toNat : Int)).map (Value.int .u8)) : (convert src dst (.slice A l.length c)).run P w = .ok (.string ⟨l.toArray⟩) w := by
  have key : (l.map fun b => (b.toNat : Int)).foldl (fun r (n : Int) => r.push (UInt8.ofNat n.toNat)) ByteArray.empty = ⟨l.toArray⟩ := by
    rw [foldl_push_bytes]
    congr 1
    apply Array.ext'
    simp only [ByteArray.empty, ByteArray.emptyWithCapacity, Array.toList_append, List.map_map]
    show [] ++ _ = l
    rw [List.nil_append]
    conv => rhs; rw [← List.map_id l]
    refine List.map_congr_left fun b _ => ?_
    simp
  rw [run_convert_bytes_string w src dst e A l.length c hs he hd]
  rcases ha with h | ⟨ad, rfl, _, h⟩
  · rw [h] at hu
    have hl : l = [] := by
      cases l with
      | nil => rfl
      | cons b l => simp at hu
    subst hl
    cases A with
    | none =>
      simp [Conv.bytesToString]
      rfl
    | some ad =>
      rw [List.length_nil, run_bytesToString w ad 0 c [] (by simp [loadCells, loadCellsFrom])]
      rfl
  · subst hu
    rw [run_bytesToString w ad l.length c (l.map fun b => (b.toNat : Int)) ?_, key]
    have := run_loadCells_list (P := P) w ad _ h
    simpa using this

section
variable {P : Program} {env : Env} {H : Heap} {d : Option Tmp} {ty : TypeId} {ps : String} {af : Array Edge} {gd : Option (Nat × Bool)}

theorem lop_str_sl {x : Operand} {src dst e n : Nat} {cs : List V} {l : List UInt8} {s : ByteArray} (hx : ev (get env) x = .sl n cs) (hcs : cs = rowV l) (hn : n = l.length) (hs' : s = ⟨l.toArray⟩) (hs : P.underlying src = some (.slice e)) (he : P.underlying e = some (.int .u8)) (hd : P.underlying dst = some .string) :
    LOp P ⟨d, .convert src dst x, ty, ps, af, gd⟩ env H [] (.str s) [] [] :=
  lop_pure fun w ok G ρ h => by
    subst hcs hn hs'
    have h1 := h x (by simp [Op.operands])
    rw [hx] at h1
    simp only [Rep] at h1
    obtain ⟨A, c, us, h2, h3, h4, h5⟩ := h1
    have := run_toStr (P := P) hs he hd (c := c) h4 (repL_row h5)
    exact ⟨.string ⟨l.toArray⟩, by simp only [execOp, h2, Sem.run_bind, this, Result.andThen_ok, Sem.run_pure], by simp [Rep]⟩
theorem lop_str_z0 {x : Operand} {src dst e : Nat} (hx : ev (get env) x = .z0) (hs : P.underlying src = some (.slice e)) (he : P.underlying e = some (.int .u8)) (hd : P.underlying dst = some .string) :
    LOp P ⟨d, .convert src dst x, ty, ps, af, gd⟩ env H [] (.str ⟨#[]⟩) [] [] :=
  lop_pure fun w ok G ρ h => by
    have h1 := h x (by simp [Op.operands])
    rw [hx] at h1
    simp only [Rep] at h1
    obtain ⟨A, h2⟩ := h1
    have := run_toStr (P := P) (ok := ok) (A := A) (l := []) (us := []) (w := w) hs he hd (c := 0) (.inl rfl) rfl
    simp only [List.length_nil] at this
    exact ⟨.string ⟨#[]⟩, by simp only [execOp, h2, Sem.run_bind, this, Result.andThen_ok, Sem.run_pure], by simp [Rep]⟩
theorem lop_str_os {x : Operand} {src dst e t off n : Nat} {f : Bool} {blk : List V} {l : List UInt8} {s : ByteArray} (hx : ev (get env) x = .os t off 1 n) (hH : hget H t = some (f, blk)) (hl : off + n ≤ blk.length) (hcs : (blk.drop off).take n = rowV l) (hs' : s = ⟨l.toArray⟩) (hs : P.underlying src = some (.slice e)) (he : P.underlying e = some (.int .u8)) (hd : P.underlying dst = some .string) :
    LOp P ⟨d, .convert src dst x, ty, ps, af, gd⟩ env H [t] (.str s) [] [] :=
  lop_read fun w ok G ρ hsee h => by
    subst hs'
    have hn : n = l.length := by rw [← rowV_length, ← hcs, List.length_take, List.length_drop]; omega
    have h1 := h x (by simp [Op.operands])
    rw [hx] at h1
    simp only [Rep] at h1
    obtain ⟨_, ⟨b, c, o', cs, ty', fr, hb, h2, h3, h4, h5, h6, h7⟩ | ⟨hg, h0, A, h2⟩⟩ := h1
    · obtain ⟨us, rest, ty2, fr2, h9, h10, _⟩ := hsee.at_ (by simp) hH hb
      have h11 := (h10.drop off).take n
      rw [hcs] at h11
      have hat : At w (fun _ => True) (some ⟨b, o', none⟩) ((us.drop off).take n) := by
        rcases h7 with h7 | h7
        · have : n = 0 := by omega
          subst this
          exact .inl (by simp)
        · subst h7
          exact (at_block h9 trivial).take _
      have := run_toStr (P := P) hs he hd (c := c) hat (repL_row h11)
      rw [← hn] at this
      exact ⟨.string ⟨l.toArray⟩, by simp only [execOp, h2, Sem.run_bind, this, Result.andThen_ok, Sem.run_pure], by simp [Rep]⟩
    · subst h0
      have hl0 : l = [] := List.eq_nil_of_length_eq_zero hn.symm
      subst hl0
      have := run_toStr (P := P) (ok := ok) (A := A) (l := []) (us := []) (w := w) hs he hd (c := 0) (.inl rfl) rfl
      simp only [List.length_nil] at this
      exact ⟨.string ⟨#[]⟩, by simp only [execOp, h2, Sem.run_bind, this, Result.andThen_ok, Sem.run_pure], by simp [Rep]⟩

/-- []byte(s): a new row. -/
theorem lop_bytes {x : Operand} {src dst e t : Nat} {s : ByteArray} {u : TypeDesc} (hx : ev (get env) x = .str s) (hs : P.underlying src = some u) (hd : P.underlying dst = some (.slice e)) (he : P.underlying e = some (.int .u8)) :
    LOp P ⟨d, .convert src dst x, ty, ps, af, gd⟩ env H [] (.os t 0 1 s.size) [(t, some (true, bytesV s))] [t] := by
  intro e' h' hev _ hfr w0 ok0 sz a w hok r next Q hn
  obtain ⟨ok, G, hsim, hr, h1, h2⟩ := r
  have hxv : Rep w ok G (.str s) true (a.eval x) := by
    have := Rep.ev hr x (opd_ok hok x (by simp [Op.operands]))
    rwa [hev x (by simp [Op.operands]), hx] at this
  simp only [Rep] at hxv
  have hrun := Lib.run_convert_string_bytes (P := P) w src dst e s hs hd he
  have hf := hfr t (by simp)
  have hcell : Lib.bytesCells w e s = (byteCells s ++ List.replicate (grownCap w s.size 0 e - s.size) (Value.int .u8 0)).toArray := by
    apply Array.ext'
    simp [Lib.bytesCells, byteCells]
  have hrest : ∀ u ∈ List.replicate (grownCap w s.size 0 e - s.size) (Value.int .u8 0), u.oneCell' = true := fun u hu => by
    rw [(List.mem_replicate.1 hu).2]; rfl
  have hsize : (Lib.bytesCells w e s).size = (byteCells s ++ List.replicate (grownCap w s.size 0 e - s.size) (Value.int .u8 0)).length := by rw [hcell]; simp
  have hW : Lib.bytesWorld w e s = w.drew.alloc (.cells (byteCells s ++ List.replicate (grownCap w s.size 0 e - s.size) (Value.int .u8 0)).toArray e ((Lib.bytesCells w e s).size, (Lib.bytesCells w e s).size + 1)) := by
    have hheap : (Lib.bytesWorld w e s).heap = (w.drew.alloc (.cells (byteCells s ++ List.replicate (grownCap w s.size 0 e - s.size) (Value.int .u8 0)).toArray e ((Lib.bytesCells w e s).size, (Lib.bytesCells w e s).size + 1))).heap := by
      apply Array.ext_getElem?
      intro j
      rcases Nat.lt_trichotomy j w.heap.size with h | h | h
      · rw [Lib.bytesWorld_at_old w e s j h]
        exact (heap_alloc_old w.drew _ j h).symm
      · subst h
        rw [Lib.bytesWorld_at_new]
        refine Eq.trans ?_ (heap_alloc_new w.drew _).symm
        rw [hcell]
      · rw [Array.getElem?_eq_none (by rw [Lib.bytesWorld_size]; omega), Array.getElem?_eq_none]
        simp
        omega
    have h4 : Lib.bytesWorld w e s = { w.drew with heap := (Lib.bytesWorld w e s).heap } := rfl
    rw [h4, hheap]
    rfl
  have hge := grownCap_ge w s.size 0 e
  have hlen : (byteCells s ++ List.replicate (grownCap w s.size 0 e - s.size) (Value.int .u8 0)).length = grownCap w s.size 0 e := by
    rw [List.length_append, List.length_replicate, byteCells_length]
    omega
  obtain ⟨hs', hws, hmv⟩ := hsim.drew.alloc2 hf (byteCells s) (List.replicate (grownCap w s.size 0 e - s.size) (Value.int .u8 0)) e ((Lib.bytesCells w e s).size, (Lib.bytesCells w e s).size + 1) true (bytesV s) (fun G' hG => repL_bytes s) hrest (.inr (by rw [← hsize]; exact Nat.le_refl _))
  unfold Oper.wp
  simp only [execOp, hxv, Sem.run_bind, hrun, Result.andThen_ok, Sem.run_pure, hW]
  refine hn _ _ (rel_put hs' (fun z => hmv _ _ (hf.1 z) (Rep.mv (mv_drewN w ok G 1) _ _ _ (fun _ _ _ => rfl) (hr z))) h1 h2 (dst_lt hok) ?_)
  simp only [Rep]
  refine ⟨trivial, .inl ⟨w.heap.size, grownCap w s.size 0 e, 0, _, e, _, by simp, rfl, hge, by omega, heap_alloc_new w.drew _, ?_, .inr rfl⟩⟩
  simp only [List.size_toArray, hlen]
  omega
end
end Go.Hg
