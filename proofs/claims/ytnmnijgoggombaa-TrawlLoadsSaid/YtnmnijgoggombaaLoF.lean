/- Part 6 of the proof of one statement about the given program: what the program's code computes is carried out over abstract values, and that is proved to hold of the program in every world. -/
import Derived.Test.YtnmnijgoggombaaLoE
import Derived.Test.YtnmnijgoggombaaRows
import Derived.WalkKit
import Derived.ProofKit
import Derived.OpenShut
import Derived.ShutString
import Derived.ChangeOld
import Derived.Below
import Derived.Carry
import Derived.SizedLaws
set_option maxRecDepth 100000
/- The statement of the law TrawlLoads of this seat, for every input: out of what its call gives. -/
namespace Go.Proofs.Ytnmnijgoggombaa.trawlLoads
open Go.ChangeShapes Go.WideShapes Go.ChangeAt Go.RowKit
open Go.Proofs.Ytnmnijgoggombaa.X
theorem own : ownKnob Try.prog.godebug = none := by kernel_rfl
theorem laidOut : laidOutB Try.prog = true := by kernel_rfl
theorem cts0 : cts Try.prog 9 22 = some [.sl [.s, .i .i64, .i .i64]] := by kernel_rfl
theorem agg0 : aggTy Try.prog 22 = false := by kernel_rfl
theorem cts1 : cts Try.prog 9 23 = some [.i .i64, .i .i64] := by kernel_rfl
theorem agg1 : aggTy Try.prog 23 = true := by kernel_rfl
set_option maxRecDepth 100000 in
theorem lifted (os : Os) (started : os.Started) (H : Type) (enc : TypeId × Value → H) :
    ReturnsInHanded {} Try.checked os 3 .any (Rows.trawlLoadsSpec.pre6 enc Try.prog Try.f3 Rows.trawlLoadsRow.domain false) (Rows.trawlLoadsSpec.post enc Try.prog Try.f3 false true false false) := by
  refine returnsInHanded_of_change_sized (C := Try.checked) own started (by kernel_rfl) Try.func3
    (ChangeSpec.witness6 (enc := enc) (C := Try.checked) false ⟨#[], #[.slice none 0 0, .agg #[.int .i64 0, .int .i64 0]], []⟩ 8 (by kernel_rfl) (by kernel_rfl) (by kernel_rfl) (by kernel_rfl)) ?_
  intro W base args ds gs before hval0 hW hcnd hsz0 _
  have hval : ∀ (j : Nat) t v, Try.f3.params[j]? = some t → args[j]? = some v → Value.okWide Try.prog W .any base t v := hval0
  have hW' := hW
  obtain ⟨p, q, hA0, hV, rfl, hfz, hnd⟩ := hW
  have hA : DataW.TrodAll enc Try.prog W 0 (fun _ => true) true Try.f3.params.toList args.toList ds p := hA0
  rw [Try.params3] at hA hval
  obtain ⟨v0, vs0, d0, ds0, p0, q0, hargs, rfl, rfl, h0, r0⟩ := trodAll_cons hA
  obtain ⟨v1, vs1, d1, ds1, p1, q1, rfl, rfl, rfl, h1, r1⟩ := trodAll_cons r0
  obtain ⟨rfl, rfl, rfl⟩ := trodAll_nil r1
  obtain rfl : args = #[v0, v1] := by cases args; simp_all
  obtain ⟨rfl, rfl⟩ := trodVars_none hV
  have lt0 : ∀ x ∈ p0, x.block < W.heap.size := by obtain ⟨m, hm⟩ := h0; exact DataW.trod_lt m _ _ _ hm
  obtain ⟨x0, y0, z0⟩ := arg_pv cts0 (hval 0 22 v0 rfl rfl) h0
  rw [agg0] at y0
  have lt1 : ∀ x ∈ p1, x.block < W.heap.size := by obtain ⟨m, hm⟩ := h1; exact DataW.trod_lt m _ _ _ hm
  obtain ⟨x1, y1, z1⟩ := arg_pv cts1 (hval 1 23 v1 rfl rfl) h1
  rw [agg1] at y1
  clear hA0 hval0 hsz0
  refine (ret_calls (loads_call y0 y1) W (cv := #[v0, v1]) rfl ?_).mono fun e W' ⟨he, bel⟩ => ?_
  · intro i p c hp hc
    match i, hp, hc with
    | 0, hp, hc => cases hp; cases hc; exact z0
    | 1, hp, hc => cases hp; cases hc; exact z1
    | _ + 2, hp, _ => simp at hp
  · subst he
    exact ⟨_, rfl, _, _, _, [], _, [], hW', trodAll_mk1 (shut_bool Try.underlying4 _), (trodAll_cons_mk (Below.trod laidOut (by kernel_rfl) (of_decide_eq_true (by kernel_rfl)) h0 bel lt0) (trodAll_cons_mk (Below.trod laidOut (by kernel_rfl) (of_decide_eq_true (by kernel_rfl)) h1 bel lt1) trodAll_mk0)), rfl, bel.frame _, fun h => by cases h⟩
theorem over : Rows.trawlLoadsRow.holds Try.pinned (OpenSpec.ofChange Rows.trawlLoadsSpec) :=
  OpenClaim.holds_of_wide 3 Try.f3 rfl rfl rfl rfl rfl rfl rfl ⟨rfl, rfl, rfl, rfl, rfl⟩ rfl rfl rfl rfl rfl (by kernel_rfl) Try.func3 (by kernel_rfl)
    (of_decide_eq_true (by kernel_rfl)) (by unfold Func.isWrapper; first | (rw [if_pos (by decide +kernel)]; kernel_rfl) | (rw [if_neg (by decide +kernel)]; exact ⟨rfl, rfl⟩))
    (fun os started H enc _ => lifted os started H enc)
end Go.Proofs.Ytnmnijgoggombaa.trawlLoads
namespace Go.Proofs.Ytnmnijgoggombaa
/-- The statement. -/
theorem trawlLoads_holds : Rows.TrawlLoadsSaid := trawlLoads.over
#print axioms trawlLoads_holds
end Go.Proofs.Ytnmnijgoggombaa
