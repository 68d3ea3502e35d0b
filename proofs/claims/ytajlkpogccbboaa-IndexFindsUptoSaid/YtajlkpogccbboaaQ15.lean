/- Chapter 15: structs compared. -/
import Derived.Test.YtajlkpogccbboaaT15b
set_option linter.unusedVariables false
set_option linter.unusedSimpArgs false
set_option maxRecDepth 100000
namespace Go.Proofs
open Go.Hg
def ReplyD.vals (a : ReplyD) : Array Value := #[.int .i64 a.err, .int .i64 a.vol, .int .i64 a.off, .int .i64 a.n, .int .u32 a.sum, .bool a.found]
def NameD.vals (a : NameD) : Array Value := #[.string a.name, .int .i64 a.vol, .int .i64 a.off, .int .i64 a.n, .int .u32 a.sum]
def SessD.vals (a : SessD) : Array Value := #[.int .i64 a.client, .int .i64 a.seq, .int .i64 a.reply.err, .int .i64 a.reply.vol, .int .i64 a.reply.off, .int .i64 a.reply.n, .int .u32 a.reply.sum, .bool a.reply.found]
theorem held35 : Try.prog.stoodInHeld 35 = false := by kernel_rfl
theorem held47 : Try.prog.stoodInHeld 47 = false := by kernel_rfl
theorem held39 : Try.prog.stoodInHeld 39 = false := by kernel_rfl
theorem held54 : Try.prog.stoodInHeld 54 = false := by kernel_rfl
theorem eqg35 : Try.prog.eqGuardType Try.prog.depth 35 = false := by kernel_rfl
theorem eqg47 : Try.prog.eqGuardType Try.prog.depth 47 = false := by kernel_rfl
theorem eqg39 : Try.prog.eqGuardType Try.prog.depth 39 = false := by kernel_rfl
theorem eqg54 : Try.prog.eqGuardType Try.prog.depth 54 = false := by kernel_rfl
theorem eq54 (a b c d : Int) (w : World) : (binOp .eql 54 (.agg #[.int .i64 a, .int .i64 b]) (.agg #[.int .i64 c, .int .i64 d])).run Try.prog w = .ok (.bool (decide (a = c ∧ b = d))) w :=
  run_eq2 Try.underlying54 held54 (by decide) (by decide) rfl rfl Try.underlying3 Try.underlying3 Try.isAgg3 Try.isAgg3 a b c d w
theorem fieldsOf_of {T : TypeId} {fs : Array Field} (h : Try.prog.underlying T = some (.struct fs)) : Try.prog.fieldsOf T = fs := by simp [Program.fieldsOf, h]
theorem in35 (d : Nat) (a b : ReplyD) (w : World) : (Op.equalIn (d + 2) 35 (.agg a.vals) (.agg b.vals)).run Try.prog w = .ok (decide (a = b)) w := by
  have hf := fieldsOf_of Try.underlying35
  rw [run_equalIn_struct w (d + 1) 35 _ _ (by rw [hf]; exact Try.underlying35) held35, hf]
  refine Eq.trans (b := .ok ((a.err == b.err) && ((a.vol == b.vol) && ((a.off == b.off) && ((a.n == b.n) && ((a.sum == b.sum) && ((a.found == b.found) && true)))))) w) ?_ ?_
  · refine eqF_go _ _ _ _ _ w (by decide) (a := .int .i64 a.err) (b := .int .i64 b.err) (by simp [part, Try.isAgg33, ReplyD.vals]) (by simp [part, Try.isAgg33, ReplyD.vals]) (run_equalIn_int w d 33 .i64 .i64 _ _ Try.underlying33) ?_
    refine eqF_go _ _ _ _ _ w (by decide) (a := .int .i64 a.vol) (b := .int .i64 b.vol) (by simp [part, Try.isAgg3, ReplyD.vals]) (by simp [part, Try.isAgg3, ReplyD.vals]) (run_equalIn_int w d 3 .i64 .i64 _ _ Try.underlying3) ?_
    refine eqF_go _ _ _ _ _ w (by decide) (a := .int .i64 a.off) (b := .int .i64 b.off) (by simp [part, Try.isAgg3, ReplyD.vals]) (by simp [part, Try.isAgg3, ReplyD.vals]) (run_equalIn_int w d 3 .i64 .i64 _ _ Try.underlying3) ?_
    refine eqF_go _ _ _ _ _ w (by decide) (a := .int .i64 a.n) (b := .int .i64 b.n) (by simp [part, Try.isAgg3, ReplyD.vals]) (by simp [part, Try.isAgg3, ReplyD.vals]) (run_equalIn_int w d 3 .i64 .i64 _ _ Try.underlying3) ?_
    refine eqF_go _ _ _ _ _ w (by decide) (a := .int .u32 a.sum) (b := .int .u32 b.sum) (by simp [part, Try.isAgg27, ReplyD.vals]) (by simp [part, Try.isAgg27, ReplyD.vals]) (run_equalIn_int w d 27 .u32 .u32 _ _ Try.underlying27) ?_
    refine eqF_go _ _ _ _ _ w (by decide) (a := .bool a.found) (b := .bool b.found) (by simp [part, Try.isAgg4, ReplyD.vals]) (by simp [part, Try.isAgg4, ReplyD.vals]) (run_equalIn_bool' w d 4 _ _ Try.underlying4) ?_
    simp [Op.eqFields]
  · congr 1
    cases a; cases b
    rw [Bool.eq_iff_iff]
    simp
theorem in47 (d : Nat) (a b : NameD) (w : World) : (Op.equalIn (d + 2) 47 (.agg a.vals) (.agg b.vals)).run Try.prog w = .ok (decide (a = b)) w := by
  have hf := fieldsOf_of Try.underlying47
  rw [run_equalIn_struct w (d + 1) 47 _ _ (by rw [hf]; exact Try.underlying47) held47, hf]
  refine Eq.trans (b := .ok ((a.name.toList == b.name.toList) && ((a.vol == b.vol) && ((a.off == b.off) && ((a.n == b.n) && ((a.sum == b.sum) && true))))) w) ?_ ?_
  · refine eqF_go _ _ _ _ _ w (by decide) (a := .string a.name) (b := .string b.name) (by simp [part, Try.isAgg9, NameD.vals]) (by simp [part, Try.isAgg9, NameD.vals]) (run_equalIn_string w d 9 _ _ Try.underlying9) ?_
    refine eqF_go _ _ _ _ _ w (by decide) (a := .int .i64 a.vol) (b := .int .i64 b.vol) (by simp [part, Try.isAgg3, NameD.vals]) (by simp [part, Try.isAgg3, NameD.vals]) (run_equalIn_int w d 3 .i64 .i64 _ _ Try.underlying3) ?_
    refine eqF_go _ _ _ _ _ w (by decide) (a := .int .i64 a.off) (b := .int .i64 b.off) (by simp [part, Try.isAgg3, NameD.vals]) (by simp [part, Try.isAgg3, NameD.vals]) (run_equalIn_int w d 3 .i64 .i64 _ _ Try.underlying3) ?_
    refine eqF_go _ _ _ _ _ w (by decide) (a := .int .i64 a.n) (b := .int .i64 b.n) (by simp [part, Try.isAgg3, NameD.vals]) (by simp [part, Try.isAgg3, NameD.vals]) (run_equalIn_int w d 3 .i64 .i64 _ _ Try.underlying3) ?_
    refine eqF_go _ _ _ _ _ w (by decide) (a := .int .u32 a.sum) (b := .int .u32 b.sum) (by simp [part, Try.isAgg27, NameD.vals]) (by simp [part, Try.isAgg27, NameD.vals]) (run_equalIn_int w d 27 .u32 .u32 _ _ Try.underlying27) ?_
    simp [Op.eqFields]
  · congr 1
    cases a; cases b
    rw [toList_inj, Bool.eq_iff_iff]
    simp
theorem in39 (d : Nat) (a b : SessD) (w : World) : (Op.equalIn (d + 3) 39 (.agg a.vals) (.agg b.vals)).run Try.prog w = .ok (decide (a = b)) w := by
  have hf := fieldsOf_of Try.underlying39
  rw [run_equalIn_struct w (d + 2) 39 _ _ (by rw [hf]; exact Try.underlying39) held39, hf]
  refine Eq.trans (b := .ok ((a.client == b.client) && ((a.seq == b.seq) && (decide (a.reply = b.reply) && true))) w) ?_ ?_
  · refine eqF_go _ _ _ _ _ w (by decide) (a := .int .i64 a.client) (b := .int .i64 b.client) (by simp [part, Try.isAgg3, SessD.vals]) (by simp [part, Try.isAgg3, SessD.vals]) (run_equalIn_int w (d + 1) 3 .i64 .i64 _ _ Try.underlying3) ?_
    refine eqF_go _ _ _ _ _ w (by decide) (a := .int .i64 a.seq) (b := .int .i64 b.seq) (by simp [part, Try.isAgg3, SessD.vals]) (by simp [part, Try.isAgg3, SessD.vals]) (run_equalIn_int w (d + 1) 3 .i64 .i64 _ _ Try.underlying3) ?_
    refine eqF_go _ _ _ _ _ w (by decide) (a := .agg a.reply.vals) (b := .agg b.reply.vals) (by simp [part, Try.isAgg35, Try.sizeOf35, SessD.vals]; rfl) (by simp [part, Try.isAgg35, Try.sizeOf35, SessD.vals]; rfl) (in35 d _ _ w) ?_
    simp [Op.eqFields]
  · congr 1
    cases a; cases b
    rw [Bool.eq_iff_iff]
    simp
theorem ne_of {T : TypeId} {xs ys : Array Value} {r : Bool} {w : World} (h : (Op.equalIn 10000 T (.agg xs) (.agg ys)).run Try.prog w = .ok r w) : (binOp .neq T (.agg xs) (.agg ys)).run Try.prog w = .ok (.bool (!r)) w := by
  rw [run_neq_struct, h]; rfl
theorem eq_of {T : TypeId} {xs ys : Array Value} {r : Bool} {w : World} (h : (Op.equalIn 10000 T (.agg xs) (.agg ys)).run Try.prog w = .ok r w) : (binOp .eql T (.agg xs) (.agg ys)).run Try.prog w = .ok (.bool r) w := by
  rw [run_eql_struct, h]; rfl
theorem eq35 (a b : ReplyD) (w : World) : (binOp .eql 35 (.agg (a.enc.map valC).toArray) (.agg (b.enc.map valC).toArray)).run Try.prog w = .ok (.bool (decide (a = b))) w := eq_of (in35 9998 a b w)
theorem eq47 (a b : NameD) (w : World) : (binOp .eql 47 (.agg (a.enc.map valC).toArray) (.agg (b.enc.map valC).toArray)).run Try.prog w = .ok (.bool (decide (a = b))) w := eq_of (in47 9998 a b w)
theorem ne47 (a b : NameD) (w : World) : (binOp .neq 47 (.agg (a.enc.map valC).toArray) (.agg (b.enc.map valC).toArray)).run Try.prog w = .ok (.bool (!decide (a = b))) w := ne_of (in47 9998 a b w)
theorem eq39 (a b : SessD) (w : World) : (binOp .eql 39 (.agg (a.enc.map valC).toArray) (.agg (b.enc.map valC).toArray)).run Try.prog w = .ok (.bool (decide (a = b))) w := eq_of (in39 9997 a b w)
theorem ne39 (a b : SessD) (w : World) : (binOp .neq 39 (.agg (a.enc.map valC).toArray) (.agg (b.enc.map valC).toArray)).run Try.prog w = .ok (.bool (!decide (a = b))) w := ne_of (in39 9997 a b w)
theorem ne57 (a b : PlD) (w : World) : (binOp .neq 57 (.agg (a.enc.map valC).toArray) (.agg (b.enc.map valC).toArray)).run Try.prog w = .ok (.bool (!decide (a = b))) w := by
  refine (run_ne2 Try.underlying57 held57 (by decide) (by decide) rfl rfl Try.underlying3 Try.underlying3 Try.isAgg3 Try.isAgg3 a.r a.n b.r b.n w).trans ?_
  rw [decide_eq_decide.2 (PlD.eq_iff a b)]
theorem ne54 (a b : SpanD) (w : World) : (binOp .neq 54 (.agg (a.enc.map valC).toArray) (.agg (b.enc.map valC).toArray)).run Try.prog w = .ok (.bool (!decide (a = b))) w := by
  refine (run_ne2 Try.underlying54 held54 (by decide) (by decide) rfl rfl Try.underlying3 Try.underlying3 Try.isAgg3 Try.isAgg3 a.off a.n b.off b.n w).trans ?_
  rw [decide_eq_decide.2 (SpanD.eq_iff a b)]
end Go.Proofs
