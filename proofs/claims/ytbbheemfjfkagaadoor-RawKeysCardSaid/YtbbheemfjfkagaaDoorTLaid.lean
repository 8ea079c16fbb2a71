/- What the row lists of 'smalto/raw.kinds' gives what the walks ask for. -/
import Derived.Test.YtbbheemfjfkagaaDoorTGlob
import Derived.Test.YtbbheemfjfkagaaDoorRows
import Derived.ProofKit
import Derived.OpenShut
import Derived.LaidMore
import Derived.Lay
import Derived.ChangeSame
namespace Go.Proofs.YtbbheemfjfkagaaDoor.T
open Go.ChangeShapes Go.WideShapes Go.ChangeAt Go.RowKit
theorem gKinds : Tryd.prog.globalNamed "smalto/raw.kinds" = some 1 := by kernel_rfl
theorem tKinds : (Tryd.prog.globals[1]?).map (·.type) = some 51 := by kernel_rfl
theorem cell_of {cs : List Value} {a b i : Nat} {v : Value} {ws : List Value} (hi : i < b) (h : ((cs.drop a).take b) = ws) (hv : ws[i]? = some v) : cs[a + i]? = some v := by
  rw [← h] at hv
  rw [List.getElem?_take, if_pos hi, List.getElem?_drop] at hv
  exact hv
theorem str_eq {s : ByteArray} {l : List UInt8} (h : s.data.toList = l) : s = ⟨l.toArray⟩ := by
  cases s with | mk d => simp only at h; rw [← h]
theorem kind_cells {W : World} {m : Nat} {cs : List Value} {s : List UInt8} {n : Int} {x : DataW Unit × List MemPlace}
    (h : DataW.trod (fun _ => ()) Tryd.prog W 0 (fun _ => true) false m 50 cs = some x) (hx : x.1 = .agg [.lit (.string s), .lit (.int .i64 n)]) :
    cs[0]? = some (.string ⟨s.toArray⟩) ∧ cs[1]? = some (.int .i64 n) := by
  obtain ⟨y0, y1, k, rfl, hl, h0, h1⟩ := trod_struct2 Tryd.underlying50 h
  simp only [DataW.agg.injEq, List.cons.injEq, and_true] at hx
  obtain ⟨z, e0, e1, _⟩ := DataW.trod_string Tryd.underlying9 h0
  obtain ⟨q, f0, f1, _⟩ := DataW.trod_int Tryd.underlying2 h1
  rw [e1, f1] at hx
  simp only [DataW.lit.injEq, Lit.string.injEq, Lit.int.injEq, true_and] at hx
  obtain ⟨hs, rfl⟩ := hx
  rw [str_eq hs] at e0
  constructor
  · simpa using cell_of (i := 0) (of_decide_eq_true (by kernel_rfl)) e0 rfl
  · simpa using cell_of (i := 0) (of_decide_eq_true (by kernel_rfl)) f0 rfl
set_option maxRecDepth 100000 in
theorem kinds_cells {W : World} {fuel : Nat} {cs : Array Value} {x : DataW Unit × List MemPlace} (hv : W.var? Tryd.prog "smalto/raw.kinds" = some cs)
    (h : DataW.trod (fun _ => ()) Tryd.prog W 0 (fun _ => true) false fuel 51 cs.toList = some x) (hx : x.1 = Rows.laid_smalto_raw_kinds) : GL W := by
  obtain ⟨xs, m, _, rfl, hl, hlen, hel⟩ := DataW.trod_array Tryd.underlying51 h
  have c2 : Tryd.prog.cellsOf 50 = 2 := by kernel_rfl
  match xs, hlen with
  | [x0, x1, x2], _ =>
    have hx' := hx
    simp only [Rows.laid_smalto_raw_kinds, List.map_cons, List.map_nil, DataW.agg.injEq, List.cons.injEq, and_true] at hx'
    obtain ⟨k0, k1, k2⟩ := hx'
    have g0 := kind_cells (hel 0 (by decide)) k0
    have g1 := kind_cells (hel 1 (by decide)) k1
    have g2 := kind_cells (hel 2 (by decide)) k2
    rw [c2] at g0 g1 g2
    simp only [List.getElem?_take, List.getElem?_drop] at g0 g1 g2
    simp at g0 g1 g2
    unfold GL
    simp only [World.var?_cell gKinds hv]
    exact ⟨g0.1, g0.2, g1.1, g1.2, g2.1, g2.2⟩
theorem gl_of_laid {W : World} (h : laidMetH Tryd.prog [("smalto/raw.kinds", Rows.laid_smalto_raw_kinds)] W) : GL W := by
  rw [MakeChecks.laidMetH_plain _ _ _ (by kernel_rfl)] at h
  obtain ⟨ps, ⟨g, t, cs, fuel, p, q, hg, ht, hv, hd, _, _⟩, _, _⟩ := h
  obtain rfl := Option.some.inj (gKinds.symm.trans hg)
  obtain rfl := Option.some.inj (tKinds.symm.trans ht)
  exact kinds_cells hv hd rfl
theorem laid_witness (os : Os) (args : Array Value) : laidMetH Tryd.prog [("smalto/raw.kinds", Rows.laid_smalto_raw_kinds)] ((World.laidAll Tryd.prog os [("smalto/raw.kinds", Rows.laid_smalto_raw_kinds)]).forCall (fun _ _ => 0) ⟨#[], args, []⟩).memory := by
  rw [MakeChecks.laidMetH_plain _ _ _ (by kernel_rfl)]
  exact laidMet_laidAll _ (by kernel_rfl) (by kernel_rfl)
end Go.Proofs.YtbbheemfjfkagaaDoor.T
