/- A load of a row, as a run. -/
import Derived.Test.YtjjcnijdjhhdoaaLaw
namespace Go.Proofs.Ytjjcnijdjhhdoaa
open Go.RowKit
theorem exec_load {P : Program} {o : Oper} {a : Act} (ty : TypeId) (x : Operand) (ho : o.op = .load ty x) (b k : Nat) (hx : a.eval x = .pointer (some ⟨b, k, none⟩)) (T : TypeId) (cs ds : List Value) (d : TypeDesc) {W : World} (hb : Blk W b T cs)
    (hd : ∀ j v, ds[j]? = some v → cs[k + j]? = some v) (hu : P.underlying ty = some d) (hr : d.isRow = true) (hi : (P.info? ty).map (·.size) = some ds.length) : (execOp a.eval o).run P W = .ok (.value (.agg ds.toArray)) W := by
  unfold execOp
  simp only [ho, hx, Instr.loadAt, Instr.sureAddr, Sem.run_bind, Sem.run_pure, Result.andThen_ok, run_loadVar_mid W b k ty ds d (hb.range hd) hu hr hi]
end Go.Proofs.Ytjjcnijdjhhdoaa
