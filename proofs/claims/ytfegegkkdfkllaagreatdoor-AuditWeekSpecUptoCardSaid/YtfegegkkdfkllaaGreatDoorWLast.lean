/- AuditWeekSpec: the claim. -/
import Derived.Test.YtfegegkkdfkllaaGreatDoorW1
import Derived.Test.YtfegegkkdfkllaaGreatDoorW2
import Derived.Test.YtfegegkkdfkllaaGreatDoorW3
import Derived.Test.YtfegegkkdfkllaaGreatDoorW4
import Derived.Test.YtfegegkkdfkllaaGreatDoorW5
import Derived.Test.YtfegegkkdfkllaaGreatDoorW6
import Derived.Test.YtfegegkkdfkllaaGreatDoorW7
import Derived.Test.YtfegegkkdfkllaaGreatDoorW8
import Derived.Test.YtfegegkkdfkllaaGreatDoorW9
import Derived.Test.YtfegegkkdfkllaaGreatDoorW10
import Derived.Test.YtfegegkkdfkllaaGreatDoorW11
import Derived.Test.YtfegegkkdfkllaaGreatDoorW12
import Derived.Test.YtfegegkkdfkllaaGreatDoorW13
import Derived.Test.YtfegegkkdfkllaaGreatDoorW14
set_option linter.unusedVariables false
set_option linter.unusedSimpArgs false
/- AuditWeekSpec: the claim. -/
namespace Go.Proofs.YtfegegkkdfkllaaGreatDoor.auditWeekSpec
open Go.ChangeShapes Go.WideShapes Go.ChangeAt Go.RowKit
open Go Go.Sx Go.Fo
set_option maxRecDepth 100000

theorem contract (H : Type) (enc : TypeId × Value → H) (W : World) (base : Nat) (args : Array Value) (ds gs : List (DataW H)) (before : List MemPlace)
    (hval : ∀ (j : Nat) t v, Tryz.f3.params[j]? = some t → args[j]? = some v → Value.okWide Tryz.prog W .any base t v)
    (hW : DataW.Whole enc Tryz.prog Tryz.f3.params.toList Rows.auditWeekSpecSpec.vars false W args.toList ds gs before) (hk : Rows.uptoSmall H (ds ++ gs) = true) (hL : laidMetH Tryz.prog Rows.auditWeekSpecUptoRow.laid W) (hS : W.ShapedOpen Tryz.prog) :
    Calls Tryz.prog 3 args W fun e W' => ∃ v, e = .returned v ∧ Rows.auditWeekSpecSpec.post enc Tryz.prog Tryz.f3 false true false false W args v W' := by
  have hW' := hW
  obtain ⟨p, q, hA0, hV, rfl, hfz, hnd⟩ := hW
  have hA : DataW.TrodAll enc Tryz.prog W 0 (fun _ => true) true Tryz.f3.params.toList args.toList ds p := hA0
  rw [Tryz.params3] at hA hval
  obtain ⟨v0, vs0, d0, ds0, p0, q0, e0, rfl, rfl, h0, r0⟩ := trodAll_cons hA
  obtain ⟨v1, vs1, d1, ds1, p1, q1, e1, rfl, rfl, h1, r1⟩ := trodAll_cons r0
  obtain ⟨v2, vs2, d2, ds2, p2, q2, e2, rfl, rfl, h2, r2⟩ := trodAll_cons r1
  obtain ⟨rfl, rfl, rfl⟩ := trodAll_nil r2
  obtain rfl : args = #[v0, v1, v2] := by cases args; simp_all
  obtain ⟨rfl, rfl⟩ := trodVars_none hV
  obtain ⟨x0, hx0, hwt0⟩ := Kp (hval 0 32 v0 rfl rfl) h0
  obtain ⟨x1, hx1, hwt1⟩ := M6 (hval 1 35 v1 rfl rfl) h1
  obtain ⟨x2, hx2, hwt2⟩ := M6 (hval 2 35 v2 rfl rfl) h2
  have hb := N2 hk
  simp only [List.append_nil, Rows.uptoBulkAll] at hb
  refine RQ (xs := [x0.d, xl x1, xl x2]) (by kernel_rfl) rfl ?_ ?_ hW' hL hS (by simp [Rows.auditWeekSpecUptoRow]) (by simp [Rows.auditWeekSpecUptoRow]) (by simp [Rows.auditWeekSpecUptoRow]) (by simp [Rows.auditWeekSpecUptoRow]) (by simp [Rows.auditWeekSpecUptoRow]) (by simp [Rows.auditWeekSpecUptoRow]) (by simp [Rows.auditWeekSpecUptoRow]) (by simp [Rows.auditWeekSpecUptoRow]) (zy.cons hx0 (zy.cons hx1 (zy.cons hx2 zy.nil))) fun M m hM hF => f3 hM hF m x0 x1 x2 (NI (by omega)) (by omega) (by omega)
  · intro H ds' hl
    match ds', hl with
    | [d0, d1, d2], _ => exact ⟨rfl, rfl, rfl⟩
  · rw [Tryz.params3]
    intro t ht
    have ht2 : t = 32 ∨ t = 35 := by simpa [or_comm, or_left_comm, or_assoc] using ht
    rcases ht2 with rfl | rfl
    · exact ⟨by kernel_rfl, of_decide_eq_true (by kernel_rfl)⟩
    · exact ⟨by kernel_rfl, of_decide_eq_true (by kernel_rfl)⟩

theorem reads (os : Os) {H : Type} (enc : TypeId × Value → H) : ∃ places, DataW.whole enc Tryz.prog ((xB os).forCall (fun _ _ => 0) ⟨#[], #[(.agg #[.slice none 0 0, .slice none 0 0, .slice none 0 0, .slice none 0 0, .slice none 0 0, .slice none 0 0, .slice none 0 0]), (.agg #[.slice none 0 0]), (.agg #[.slice none 0 0])], []⟩).memory Tryz.f3.params.toList Rows.auditWeekSpecSpec.vars false (#[(.agg #[.slice none 0 0, .slice none 0 0, .slice none 0 0, .slice none 0 0, .slice none 0 0, .slice none 0 0, .slice none 0 0]), (.agg #[.slice none 0 0]), (.agg #[.slice none 0 0])] : Array Value).toList 8 = some ([.agg [.agg [.nil, .nil, .nil, .nil, .nil], .nil, .nil], .agg [.nil], .agg [.nil]], [], places) :=
  ⟨[], by kernel_rfl⟩

theorem liftedUpto (os : Os) (started : os.Started) (H : Type) (enc : TypeId × Value → H) (F : Stop.Interp) :
    ReturnsInHanded {} Tryz.checked os 3 .any ((Rows.OpenSpec.upto Rows.auditWeekSpecSpec).preRow enc Tryz.prog Tryz.f3 Rows.auditWeekSpecUptoRow.domain false Rows.auditWeekSpecUptoRow.laid) (((Rows.OpenSpec.upto Rows.auditWeekSpecSpec).at F).post enc Tryz.prog Tryz.f3 false true false false) := by
  obtain ⟨places, hx⟩ := reads os enc
  refine returnsInHanded_of_row (C := Tryz.checked) (s := Rows.OpenSpec.upto Rows.auditWeekSpecSpec) own started (by kernel_rfl) Tryz.func3
    (witness_row_atRef (enc := enc) (C := Tryz.checked) false (xB os) #[(.agg #[.slice none 0 0, .slice none 0 0, .slice none 0 0, .slice none 0 0, .slice none 0 0, .slice none 0 0, .slice none 0 0]), (.agg #[.slice none 0 0]), (.agg #[.slice none 0 0])] rfl (RP os _) (RO os _) (by kernel_rfl)
      (OpenSpec.preRow_of_cond 8 hx (by kernel_rfl) (fun k hk => by cases hk; kernel_rfl) (by kernel_rfl) (N3 os _))) ?_
  intro W base args ds gs before hval hW _ hcond _ hL hS _
  exact contract H enc W base args ds gs before hval hW (hcond _ rfl) hL hS

theorem fact9 : (Rows.auditWeekSpecUptoRow.inPlace == Tryz.pinned.checked.prog.inPlace 3) = true := by kernel_rfl
theorem fact10 : (Rows.auditWeekSpecUptoRow.unfollowed == Tryz.pinned.checked.prog.unfollowed 3) = true := by kernel_rfl
theorem fact11 : (Rows.auditWeekSpecUptoRow.recurses == Tryz.pinned.checked.prog.recurses 3) = true := by kernel_rfl
theorem fact12 : (Rows.auditWeekSpecUptoRow.named == Tryz.pinned.checked.prog.varsNamed 3) = true := by kernel_rfl
theorem closed : joinedFacts Tryz.pinned.checked.prog 3 Tryz.f3 (Rows.OpenSpec.upto Rows.auditWeekSpecSpec).bare Rows.auditWeekSpecUptoRow = true := by
  unfold joinedFacts
  refine wC (wC (wC (wC (wC (wC (wC (wC (wC (wC (wC (wC (wC (wC (wC (wC (wC (wC (wC (wC (wC (wC (wC (wC (wC (wC (wC (wC (wC (wC (wC ?_ fact1) fact2) ?_) ?_) ?_) ?_) ?_) ?_) fact9) fact10) fact11) fact12) ?_) ?_) ?_) ?_) ?_) ?_) ?_) ?_) ?_) ?_) ?_) fact24) fact25) ?_) ?_) ?_) ?_) ?_) ?_
  all_goals kernel_rfl

theorem saidUpto : Rows.AuditWeekSpecUptoSaid :=
  OpenClaim.holds_of_cond 3 Tryz.f3 rfl rfl rfl rfl rfl rfl rfl ⟨rfl, rfl, rfl, rfl, rfl⟩ rfl rfl rfl rfl rfl (by kernel_rfl) Tryz.func3 closed
    (of_decide_eq_true (by kernel_rfl)) (by unfold Func.isWrapper; first | (rw [if_pos (by decide +kernel)]; kernel_rfl) | (rw [if_neg (by decide +kernel)]; exact ⟨rfl, rfl⟩))
    (fun os started H enc _ F => by rw [OpenClaim.pre_eq_preRow]; exact liftedUpto os started H enc F)

theorem plain (f : FuncId) (fn : Func) (hf : Tryz.pinned.checked.prog.funcNamed "chalkline/chalklinelaw37.AuditWeekSpec" = some f) (hfn : Tryz.pinned.checked.prog.funcs[f]? = some fn) :
    false = Tryz.pinned.checked.prog.looks [] ∧ ∀ (j : Nat) t, fn.params[j]? = some t → Tryz.pinned.checked.prog.wantsStandIn t = false := by
  obtain rfl : f = 3 := Option.some.inj ((show Tryz.prog.funcNamed "chalkline/chalklinelaw37.AuditWeekSpec" = some 3 by kernel_rfl).symm.trans hf) |>.symm
  obtain rfl : fn = Tryz.f3 := (Option.some.inj (Tryz.func3.symm.trans hfn)).symm
  refine ⟨by kernel_rfl, fun j t ht => ?_⟩
  rw [Tryz.params3] at ht
  have ht1 := Array.mem_of_getElem? ht
  have ht2 : t = 32 ∨ t = 35 := by simpa [or_comm, or_left_comm, or_assoc] using ht1
  rcases ht2 with rfl | rfl
  · exact (show Tryz.prog.wantsStandIn 32 = false by kernel_rfl)
  · exact (show Tryz.prog.wantsStandIn 35 = false by kernel_rfl)

theorem cardUpto : Rows.AuditWeekSpecUptoCardSaid :=
  Claim7.holds_tied_plain_at .later [] _ _ _ _ saidUpto (fun _ h => by cases h) (by kernel_rfl) (fun _ h => by cases h) auditWeekSpecUpto_row_tie rfl ⟨rfl, rfl⟩ (by kernel_rfl) rfl plain (by kernel_rfl)
end Go.Proofs.YtfegegkkdfkllaaGreatDoor.auditWeekSpec
#print axioms Go.Proofs.YtfegegkkdfkllaaGreatDoor.auditWeekSpec.cardUpto
