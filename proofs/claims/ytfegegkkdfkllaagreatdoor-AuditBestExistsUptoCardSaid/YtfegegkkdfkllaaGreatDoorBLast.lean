/- AuditBestExists: the claim. -/
import Derived.Test.YtfegegkkdfkllaaGreatDoorB1
import Derived.Test.YtfegegkkdfkllaaGreatDoorB2
import Derived.Test.YtfegegkkdfkllaaGreatDoorB3
import Derived.Test.YtfegegkkdfkllaaGreatDoorB4
import Derived.Test.YtfegegkkdfkllaaGreatDoorB5
import Derived.Test.YtfegegkkdfkllaaGreatDoorB6
import Derived.Test.YtfegegkkdfkllaaGreatDoorB7
import Derived.Test.YtfegegkkdfkllaaGreatDoorB8
import Derived.Test.YtfegegkkdfkllaaGreatDoorB9
import Derived.Test.YtfegegkkdfkllaaGreatDoorB10
import Derived.Test.YtfegegkkdfkllaaGreatDoorB11
import Derived.Test.YtfegegkkdfkllaaGreatDoorB12
import Derived.Test.YtfegegkkdfkllaaGreatDoorB13
set_option linter.unusedVariables false
set_option linter.unusedSimpArgs false
/- AuditBestExists: the claim. -/
namespace Go.Proofs.YtfegegkkdfkllaaGreatDoor.auditBestExists
open Go.ChangeShapes Go.WideShapes Go.ChangeAt Go.RowKit
open Go Go.Sx Go.Fo
set_option maxRecDepth 100000

theorem contract (H : Type) (enc : TypeId × Value → H) (W : World) (base : Nat) (args : Array Value) (ds gs : List (DataW H)) (before : List MemPlace)
    (hval : ∀ (j : Nat) t v, Tryz.f4.params[j]? = some t → args[j]? = some v → Value.okWide Tryz.prog W .any base t v)
    (hW : DataW.Whole enc Tryz.prog Tryz.f4.params.toList Rows.auditBestExistsSpec.vars false W args.toList ds gs before) (hk : Rows.uptoSmall H (ds ++ gs) = true) (hL : laidMetH Tryz.prog Rows.auditBestExistsUptoRow.laid W) (hS : W.ShapedOpen Tryz.prog) :
    Calls Tryz.prog 4 args W fun e W' => ∃ v, e = .returned v ∧ Rows.auditBestExistsSpec.post enc Tryz.prog Tryz.f4 false true false false W args v W' := by
  have hW' := hW
  obtain ⟨p, q, hA0, hV, rfl, hfz, hnd⟩ := hW
  have hA : DataW.TrodAll enc Tryz.prog W 0 (fun _ => true) true Tryz.f4.params.toList args.toList ds p := hA0
  rw [Tryz.params4] at hA hval
  obtain ⟨v0, vs0, d0, ds0, p0, q0, e0, rfl, rfl, h0, r0⟩ := trodAll_cons hA
  obtain ⟨v1, vs1, d1, ds1, p1, q1, e1, rfl, rfl, h1, r1⟩ := trodAll_cons r0
  obtain ⟨rfl, rfl, rfl⟩ := trodAll_nil r1
  obtain rfl : args = #[v0, v1] := by cases args; simp_all
  obtain ⟨rfl, rfl⟩ := trodVars_none hV
  obtain ⟨x0, hx0, hwt0⟩ := QR (hval 0 32 v0 rfl rfl) h0
  obtain ⟨x1, hx1, hwt1⟩ := QQ (hval 1 35 v1 rfl rfl) h1
  have hb := To hk
  simp only [List.append_nil, Rows.uptoBulkAll] at hb
  refine Wg (xs := [x0.d, wh x1]) (by kernel_rfl) rfl ?_ ?_ hW' hL hS (by simp [Rows.auditBestExistsUptoRow]) (by simp [Rows.auditBestExistsUptoRow]) (by simp [Rows.auditBestExistsUptoRow]) (by simp [Rows.auditBestExistsUptoRow]) (by simp [Rows.auditBestExistsUptoRow]) (by simp [Rows.auditBestExistsUptoRow]) (by simp [Rows.auditBestExistsUptoRow]) (by simp [Rows.auditBestExistsUptoRow]) (z8.cons hx0 (z8.cons hx1 z8.nil)) fun M m hM hF => f4 hM hF m x0 x1 (Sz (by omega)) (by omega)
  · intro H ds' hl
    match ds', hl with
    | [d0, d1], _ => exact ⟨rfl, rfl, rfl⟩
  · rw [Tryz.params4]
    intro t ht
    have ht2 : t = 32 ∨ t = 35 := by simpa [or_comm, or_left_comm, or_assoc] using ht
    rcases ht2 with rfl | rfl
    · exact ⟨by kernel_rfl, of_decide_eq_true (by kernel_rfl)⟩
    · exact ⟨by kernel_rfl, of_decide_eq_true (by kernel_rfl)⟩

theorem reads (os : Os) {H : Type} (enc : TypeId × Value → H) : ∃ places, DataW.whole enc Tryz.prog ((xb os).forCall (fun _ _ => 0) ⟨#[], #[(.agg #[.slice none 0 0, .slice none 0 0, .slice none 0 0, .slice none 0 0, .slice none 0 0, .slice none 0 0, .slice none 0 0]), (.agg #[.slice none 0 0])], []⟩).memory Tryz.f4.params.toList Rows.auditBestExistsSpec.vars false (#[(.agg #[.slice none 0 0, .slice none 0 0, .slice none 0 0, .slice none 0 0, .slice none 0 0, .slice none 0 0, .slice none 0 0]), (.agg #[.slice none 0 0])] : Array Value).toList 8 = some ([.agg [.agg [.nil, .nil, .nil, .nil, .nil], .nil, .nil], .agg [.nil]], [], places) :=
  ⟨[], by kernel_rfl⟩

theorem liftedUpto (os : Os) (started : os.Started) (H : Type) (enc : TypeId × Value → H) (F : Stop.Interp) :
    ReturnsInHanded {} Tryz.checked os 4 .any ((Rows.OpenSpec.upto Rows.auditBestExistsSpec).preRow enc Tryz.prog Tryz.f4 Rows.auditBestExistsUptoRow.domain false Rows.auditBestExistsUptoRow.laid) (((Rows.OpenSpec.upto Rows.auditBestExistsSpec).at F).post enc Tryz.prog Tryz.f4 false true false false) := by
  obtain ⟨places, hx⟩ := reads os enc
  refine returnsInHanded_of_row (C := Tryz.checked) (s := Rows.OpenSpec.upto Rows.auditBestExistsSpec) own started (by kernel_rfl) Tryz.func4
    (witness_row_atRef (enc := enc) (C := Tryz.checked) false (xb os) #[(.agg #[.slice none 0 0, .slice none 0 0, .slice none 0 0, .slice none 0 0, .slice none 0 0, .slice none 0 0, .slice none 0 0]), (.agg #[.slice none 0 0])] rfl (Wf os _) (We os _) (by kernel_rfl)
      (OpenSpec.preRow_of_cond 8 hx (by kernel_rfl) (fun k hk => by cases hk; kernel_rfl) (by kernel_rfl) (Tn os _))) ?_
  intro W base args ds gs before hval hW _ hcond _ hL hS _
  exact contract H enc W base args ds gs before hval hW (hcond _ rfl) hL hS

theorem fact9 : (Rows.auditBestExistsUptoRow.inPlace == Tryz.pinned.checked.prog.inPlace 4) = true := by kernel_rfl
theorem fact10 : (Rows.auditBestExistsUptoRow.unfollowed == Tryz.pinned.checked.prog.unfollowed 4) = true := by kernel_rfl
theorem fact11 : (Rows.auditBestExistsUptoRow.recurses == Tryz.pinned.checked.prog.recurses 4) = true := by kernel_rfl
theorem fact12 : (Rows.auditBestExistsUptoRow.named == Tryz.pinned.checked.prog.varsNamed 4) = true := by kernel_rfl
theorem closed : joinedFacts Tryz.pinned.checked.prog 4 Tryz.f4 (Rows.OpenSpec.upto Rows.auditBestExistsSpec).bare Rows.auditBestExistsUptoRow = true := by
  unfold joinedFacts
  refine wl (wl (wl (wl (wl (wl (wl (wl (wl (wl (wl (wl (wl (wl (wl (wl (wl (wl (wl (wl (wl (wl (wl (wl (wl (wl (wl (wl (wl (wl (wl ?_ fact1) fact2) ?_) ?_) ?_) ?_) ?_) ?_) fact9) fact10) fact11) fact12) ?_) ?_) ?_) ?_) ?_) ?_) ?_) ?_) ?_) ?_) ?_) fact24) fact25) ?_) ?_) ?_) ?_) ?_) ?_
  all_goals kernel_rfl

theorem saidUpto : Rows.AuditBestExistsUptoSaid :=
  OpenClaim.holds_of_cond 4 Tryz.f4 rfl rfl rfl rfl rfl rfl rfl ⟨rfl, rfl, rfl, rfl, rfl⟩ rfl rfl rfl rfl rfl (by kernel_rfl) Tryz.func4 closed
    (of_decide_eq_true (by kernel_rfl)) (by unfold Func.isWrapper; first | (rw [if_pos (by decide +kernel)]; kernel_rfl) | (rw [if_neg (by decide +kernel)]; exact ⟨rfl, rfl⟩))
    (fun os started H enc _ F => by rw [OpenClaim.pre_eq_preRow]; exact liftedUpto os started H enc F)

theorem plain (f : FuncId) (fn : Func) (hf : Tryz.pinned.checked.prog.funcNamed "chalkline/chalklinelaw37.AuditBestExists" = some f) (hfn : Tryz.pinned.checked.prog.funcs[f]? = some fn) :
    false = Tryz.pinned.checked.prog.looks [] ∧ ∀ (j : Nat) t, fn.params[j]? = some t → Tryz.pinned.checked.prog.wantsStandIn t = false := by
  obtain rfl : f = 4 := Option.some.inj ((show Tryz.prog.funcNamed "chalkline/chalklinelaw37.AuditBestExists" = some 4 by kernel_rfl).symm.trans hf) |>.symm
  obtain rfl : fn = Tryz.f4 := (Option.some.inj (Tryz.func4.symm.trans hfn)).symm
  refine ⟨by kernel_rfl, fun j t ht => ?_⟩
  rw [Tryz.params4] at ht
  have ht1 := Array.mem_of_getElem? ht
  have ht2 : t = 32 ∨ t = 35 := by simpa [or_comm, or_left_comm, or_assoc] using ht1
  rcases ht2 with rfl | rfl
  · exact (show Tryz.prog.wantsStandIn 32 = false by kernel_rfl)
  · exact (show Tryz.prog.wantsStandIn 35 = false by kernel_rfl)

theorem cardUpto : Rows.AuditBestExistsUptoCardSaid :=
  Claim7.holds_tied_plain_at .later [] _ _ _ _ saidUpto (fun _ h => by cases h) (by kernel_rfl) (fun _ h => by cases h) auditBestExistsUpto_row_tie rfl ⟨rfl, rfl⟩ (by kernel_rfl) rfl plain (by kernel_rfl)
end Go.Proofs.YtfegegkkdfkllaaGreatDoor.auditBestExists
#print axioms Go.Proofs.YtfegegkkdfkllaaGreatDoor.auditBestExists.cardUpto
