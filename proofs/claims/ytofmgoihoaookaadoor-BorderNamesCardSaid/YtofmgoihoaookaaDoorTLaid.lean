/- What the row lists of 'smalto/border.names' gives what the walks ask for. -/
import Derived.Test.YtofmgoihoaookaaDoorTGlob
import Derived.Test.YtofmgoihoaookaaDoorRows
import Derived.ProofKit
import Derived.OpenShut
import Derived.LaidMore
import Derived.Lay
import Derived.ChangeSame
namespace Go.Proofs.YtofmgoihoaookaaDoor.T
open Go.ChangeShapes Go.WideShapes Go.ChangeAt Go.RowKit
theorem str_eq {s : ByteArray} {l : List UInt8} (h : s.data.toList = l) : s = ⟨l.toArray⟩ := by
  cases s with | mk d => simp only at h; rw [← h]
theorem gNames : Tryd.prog.globalNamed "smalto/border.names" = some 0 := by kernel_rfl
theorem tNames : (Tryd.prog.globals[0]?).map (·.type) = some 23 := by kernel_rfl
theorem str_cell {W : World} {v : Value} {n : Nat} {q : List MemPlace} {s : List UInt8} (h : DataW.trod (fun _ => ()) Tryd.prog W 0 (fun _ => true) false n 9 [v] = some (.lit (.string s), q)) : v = .string ⟨s.toArray⟩ := by
  obtain ⟨z, e0, e1, _⟩ := DataW.trod_string Tryd.underlying9 h
  simp only [Prod.mk.injEq, DataW.lit.injEq, Lit.string.injEq] at e1
  rw [str_eq e1.1.symm] at e0
  simpa using e0
theorem names_cells {W : World} {fuel : Nat} {cs : Array Value} {x : DataW Unit × List MemPlace} (hv : W.var? Tryd.prog "smalto/border.names" = some cs)
    (h : DataW.trod (fun _ => ()) Tryd.prog W 0 (fun _ => true) false fuel 23 cs.toList = some x) (hx : x.1 = Rows.laid_smalto_border_names) :
    ∃ (a : Addr) (c : Nat), 3 ≤ c ∧ W.cell? ⟨0, 0, none⟩ = some (.slice (some a) 3 c) ∧ W.cell? a = some (.string (⟨#[99, 108, 97, 109, 112]⟩ : ByteArray)) ∧ W.cell? ⟨a.block, a.off + 1, none⟩ = some (.string (⟨#[109, 105, 114, 114, 111, 114]⟩ : ByteArray)) ∧ W.cell? ⟨a.block, a.off + 2, none⟩ = some (.string (⟨#[119, 114, 97, 112]⟩ : ByteArray)) := by
  obtain ⟨d, p⟩ := x
  simp only at hx
  subst hx
  obtain ⟨a, cap, e, hl, hc⟩ := open_row Tryd.underlying23 (show Tryd.prog.cellsOf 9 = 1 by kernel_rfl) h
  obtain ⟨v0, n0, q0, c0, t0⟩ := hc 0 _ rfl
  obtain ⟨v1, n1, q1, c1, t1⟩ := hc 1 _ rfl
  obtain ⟨v2, n2, q2, c2, t2⟩ := hc 2 _ rfl
  rw [str_cell t0] at c0
  rw [str_cell t1] at c1
  rw [str_cell t2] at c2
  have e0 : a.add 0 = a := by cases a; rfl
  rw [e0] at c0
  have ec : cs[0]? = some (.slice (some a) 3 cap) := by
    have := congrArg (fun l => l[0]?) e
    simpa using this
  exact ⟨a, cap, hl, by rw [World.var?_cell gNames hv]; exact ec, c0, c1, c2⟩
theorem gl_of_laid {W : World} (h : laidMetH Tryd.prog [("smalto/border.names", Rows.laid_smalto_border_names)] W) : GL W := by
  rw [MakeChecks.laidMetH_plain _ _ _ (by kernel_rfl)] at h
  obtain ⟨ps, ⟨g, t, cs, fuel, p, q, hg, ht, hv, hd, _, _⟩, _, _⟩ := h
  obtain rfl := Option.some.inj (gNames.symm.trans hg)
  obtain rfl := Option.some.inj (tNames.symm.trans ht)
  exact names_cells hv hd rfl
theorem laid_witness (os : Os) (args : Array Value) : laidMetH Tryd.prog [("smalto/border.names", Rows.laid_smalto_border_names)] ((World.laidAll Tryd.prog os [("smalto/border.names", Rows.laid_smalto_border_names)]).forCall (fun _ _ => 0) ⟨#[], args, []⟩).memory := by
  rw [MakeChecks.laidMetH_plain _ _ _ (by kernel_rfl)]
  exact laidMet_laidAll _ (by kernel_rfl) (by kernel_rfl)
end Go.Proofs.YtofmgoihoaookaaDoor.T
