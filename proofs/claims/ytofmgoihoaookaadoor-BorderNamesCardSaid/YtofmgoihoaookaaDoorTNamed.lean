/- What functions of the program come to, in plain numbers. -/
import Derived.Test.YtofmgoihoaookaaDoorQAx2
import Derived.Test.YtofmgoihoaookaaDoorTCore
import Derived.Test.YtofmgoihoaookaaDoorTExt
namespace Go.Proofs.YtofmgoihoaookaaDoor.QA
open Go.RowKit Go.Proofs.YtofmgoihoaookaaDoorW.PrintWords Go.Proofs.YtofmgoihoaookaaDoorW.PrintLast Go.Proofs.YtofmgoihoaookaaDoorW.PrintMore Go.Proofs.YtofmgoihoaookaaDoor.T
set_option linter.unusedVariables false
set_option linter.unusedSimpArgs false

/-- The policies' names. -/
def polNames : List ByteArray := [(⟨#[99, 108, 97, 109, 112]⟩ : ByteArray), (⟨#[109, 105, 114, 114, 111, 114]⟩ : ByteArray), (⟨#[119, 114, 97, 112]⟩ : ByteArray)]
/-- What border.Named answers. -/
def namedF (a0 : ByteArray) : Option (Int × Bool) := (slices_Index_string_string.f 10 polNames a0).bind fun t => some (mx 0 t, decide (0 ≤ t))
theorem names_C {w : World} {a : Addr} (h0 : w.cell? a = some (.string (⟨#[99, 108, 97, 109, 112]⟩ : ByteArray))) (h1 : w.cell? ⟨a.block, a.off + 1, none⟩ = some (.string (⟨#[109, 105, 114, 114, 111, 114]⟩ : ByteArray))) (h2 : w.cell? ⟨a.block, a.off + 2, none⟩ = some (.string (⟨#[119, 114, 97, 112]⟩ : ByteArray))) : Kd.C Kd.string w (some a) 3 polNames := by
  refine ⟨rfl, by decide, fun _ => ⟨a, rfl, fun j p hj => ?_⟩⟩
  match j, hj with
  | 0, hj =>
    obtain rfl := Option.some.inj hj
    refine ⟨_, rfl, rfl, fun i u hu => ?_⟩
    match i, hu with
    | 0, hu => rw [← Option.some.inj hu]; have e : a.add (0 * Kd.string.sz + 0) = a := by cases a; rfl
               rw [e]; exact h0
  | 1, hj =>
    obtain rfl := Option.some.inj hj
    refine ⟨_, rfl, rfl, fun i u hu => ?_⟩
    match i, hu with
    | 0, hu => rw [← Option.some.inj hu]; exact h1
  | 2, hj =>
    obtain rfl := Option.some.inj hj
    refine ⟨_, rfl, rfl, fun i u hu => ?_⟩
    match i, hu with
    | 0, hu => rw [← Option.some.inj hu]; exact h2

attribute [local go_sem] max2_int min2_int max_two min_two
set_option maxHeartbeats 8000000 in
set_option maxRecDepth 100000 in
theorem named_calls (a0 : ByteArray) (r1 : Int) (r2 : Bool) (w : World) (hG : GL w) (h : namedF a0 = some (r1, r2)) :
    Calls Tryd.prog 6 #[.string a0] w fun e w' => e = .returned (.tuple #[.int .i64 r1, .bool r2]) ∧ Drawn0 w w' := by
  obtain ⟨t, ht, h⟩ := Option.bind_eq_some_iff.1 h
  obtain ⟨rfl, rfl⟩ := Prod.mk.inj (Option.some.inj h)
  obtain ⟨a, c, hc, s0, h0, h1, h2⟩ := hG
  have IX := Aside0.mk (slices_Index_string_string.calls 10 (some a) c polNames a0 t w (names_C h0 h1 h2) hc ht)
  clear h0 h1 h2 ht h
  go_enter Tryd.func6, Tryd.ntmps6
  go_wp2_with (go_at_call 8; refine IX.out.mono ?_; rintro e w1 ⟨rfl, ⟨nd, rfl⟩⟩)
  all_goals (
    go_ret2
    refine ⟨?_, ⟨nd, rfl⟩⟩
    unfold mx
    first
      | (rw [if_pos (by assumption)]; rfl)
      | (rw [if_neg (by omega)]; rfl))

end Go.Proofs.YtofmgoihoaookaaDoor.QA
