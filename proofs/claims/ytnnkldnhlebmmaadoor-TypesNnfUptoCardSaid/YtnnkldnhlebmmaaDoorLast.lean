/- TypesNnf: the claim. -/
import Derived.Test.YtnnkldnhlebmmaaDoorP3
import Derived.Test.YtnnkldnhlebmmaaDoorP4
import Derived.Test.YtnnkldnhlebmmaaDoorP5
set_option linter.unusedVariables false
set_option linter.unusedSimpArgs false
/- TypesNnf: the claim. -/
namespace Go.Proofs.YtnnkldnhlebmmaaDoor.typesNnf
open Go.ChangeShapes Go.WideShapes Go.ChangeAt Go.RowKit
open Go Go.Sx Go.Fo
set_option maxRecDepth 100000

theorem contract (H : Type) (enc : TypeId × Value → H) (W : World) (base : Nat) (args : Array Value) (ds gs : List (DataW H)) (before : List MemPlace)
    (hval : ∀ (j : Nat) t v, Tryd.f11.params[j]? = some t → args[j]? = some v → Value.okWide Tryd.prog W .any base t v)
    (hW : DataW.Whole enc Tryd.prog Tryd.f11.params.toList Rows.typesNnfSpec.vars false W args.toList ds gs before) (hk : Rows.uptoSmall H (ds ++ gs) = true) (hL : laidMetH Tryd.prog Rows.typesNnfUptoRow.laid W) :
    Calls Tryd.prog 11 args W fun e W' => ∃ v, e = .returned v ∧ Rows.typesNnfSpec.post enc Tryd.prog Tryd.f11 false true false false W args v W' := by
  have hW' := hW
  obtain ⟨p, q, hA0, hV, rfl, hfz, hnd⟩ := hW
  have hA : DataW.TrodAll enc Tryd.prog W 0 (fun _ => true) true Tryd.f11.params.toList args.toList ds p := hA0
  rw [Tryd.params11] at hA hval
  obtain ⟨v0, vs0, d0, ds0, p0, q0, e0, rfl, rfl, h0, r0⟩ := trodAll_cons hA
  obtain ⟨v1, vs1, d1, ds1, p1, q1, e1, rfl, rfl, h1, r1⟩ := trodAll_cons r0
  obtain ⟨rfl, rfl, rfl⟩ := trodAll_nil r1
  obtain rfl : args = #[v0, v1] := by cases args; simp_all
  obtain ⟨rfl, rfl⟩ := trodVars_none hV
  obtain ⟨x0, hx0, hwt0⟩ := arg22 (hval 0 22 v0 rfl rfl) h0
  obtain ⟨x1, hx1, hwt1⟩ := arg26 (hval 1 33 v1 rfl rfl) h1
  have hb := small_of hk
  simp only [List.append_nil, Rows.uptoBulkAll] at hb
  refine contractGD (xs := [.sl (x0.map Bd.d), x1.d]) (by kernel_rfl) rfl ?_ ?_ hW' (by kernel_rfl) hL (by simp [Rows.typesNnfUptoRow]) (by simp [Rows.typesNnfUptoRow]) (by simp [Rows.typesNnfUptoRow]) (by simp [Rows.typesNnfUptoRow]) (by simp [Rows.typesNnfUptoRow]) (by simp [Rows.typesNnfUptoRow]) (All2.cons hx0 (All2.cons hx1 All2.nil)) fun M hM => g11 hM x0 x1 (by omega)
  · intro H ds' hl
    match ds', hl with
    | [d0, d1], _ => exact ⟨rfl, rfl, rfl⟩
  · rw [Tryd.params11]
    intro t ht
    have ht2 : t = 22 ∨ t = 33 := by simpa [or_comm, or_left_comm, or_assoc] using ht
    rcases ht2 with rfl | rfl
    · exact ⟨by kernel_rfl, of_decide_eq_true (by kernel_rfl)⟩
    · exact ⟨by kernel_rfl, of_decide_eq_true (by kernel_rfl)⟩

theorem reads (os : Os) {H : Type} (enc : TypeId × Value → H) : ∃ places, DataW.whole enc Tryd.prog ((laidWorld os).forCall (fun _ _ => 0) ⟨#[], #[(.slice none 0 0), zeroFm], []⟩).memory Tryd.f11.params.toList Rows.typesNnfSpec.vars false (#[(.slice none 0 0), zeroFm] : Array Value).toList 8 = some ([.nil, zeroD], [], places) :=
  ⟨[], by kernel_rfl⟩

theorem liftedUpto (os : Os) (started : os.Started) (H : Type) (enc : TypeId × Value → H) (F : Stop.Interp) :
    ReturnsInHanded {} Tryd.checked os 11 .any ((Rows.OpenSpec.upto Rows.typesNnfSpec).preRow enc Tryd.prog Tryd.f11 Rows.typesNnfUptoRow.domain false Rows.typesNnfUptoRow.laid) (((Rows.OpenSpec.upto Rows.typesNnfSpec).at F).post enc Tryd.prog Tryd.f11 false true false false) := by
  obtain ⟨places, hx⟩ := reads os enc
  refine returnsInHanded_of_row (C := Tryd.checked) (s := Rows.OpenSpec.upto Rows.typesNnfSpec) own started (by kernel_rfl) Tryd.func11
    (witness_row_atRef (enc := enc) (C := Tryd.checked) false (laidWorld os) #[(.slice none 0 0), zeroFm] rfl (laid_vars os _) (laid_rest os _) (by kernel_rfl)
      (OpenSpec.preRow_of_cond 8 hx (by kernel_rfl) (fun k hk => by cases hk; kernel_rfl) (by kernel_rfl) (laid_metD os _))) ?_
  intro W base args ds gs before hval hW _ hcond _ hL _ _
  exact contract H enc W base args ds gs before hval hW (hcond _ rfl) hL

theorem saidUpto : Rows.TypesNnfUptoSaid :=
  OpenClaim.holds_of_cond 11 Tryd.f11 rfl rfl rfl rfl rfl rfl rfl ⟨rfl, rfl, rfl, rfl, rfl⟩ rfl rfl rfl rfl rfl (by kernel_rfl) Tryd.func11 (by kernel_rfl)
    (of_decide_eq_true (by kernel_rfl)) (by unfold Func.isWrapper; first | (rw [if_pos (by decide +kernel)]; kernel_rfl) | (rw [if_neg (by decide +kernel)]; exact ⟨rfl, rfl⟩))
    (fun os started H enc _ F => by rw [OpenClaim.pre_eq_preRow]; exact liftedUpto os started H enc F)

theorem plain (f : FuncId) (fn : Func) (hf : Tryd.pinned.checked.prog.funcNamed "chalkline/chalklinelaw08.TypesNnf" = some f) (hfn : Tryd.pinned.checked.prog.funcs[f]? = some fn) :
    false = Tryd.pinned.checked.prog.looks [] ∧ ∀ (j : Nat) t, fn.params[j]? = some t → Tryd.pinned.checked.prog.wantsStandIn t = false := by
  obtain rfl : f = 11 := Option.some.inj ((show Tryd.prog.funcNamed "chalkline/chalklinelaw08.TypesNnf" = some 11 by kernel_rfl).symm.trans hf) |>.symm
  obtain rfl : fn = Tryd.f11 := (Option.some.inj (Tryd.func11.symm.trans hfn)).symm
  refine ⟨by kernel_rfl, fun j t ht => ?_⟩
  rw [Tryd.params11] at ht
  have ht1 := Array.mem_of_getElem? ht
  have ht2 : t = 22 ∨ t = 33 := by simpa [or_comm, or_left_comm, or_assoc] using ht1
  rcases ht2 with rfl | rfl
  · exact (show Tryd.prog.wantsStandIn 22 = false by kernel_rfl)
  · exact (show Tryd.prog.wantsStandIn 33 = false by kernel_rfl)

theorem cardUpto : Rows.TypesNnfUptoCardSaid :=
  Claim7.holds_tied_plain_at .later [] _ _ _ _ saidUpto (fun _ h => by cases h) (by kernel_rfl) (fun _ h => by cases h) typesNnfUpto_row_tie rfl ⟨rfl, rfl⟩ (by kernel_rfl) rfl plain (by kernel_rfl)
end Go.Proofs.YtnnkldnhlebmmaaDoor.typesNnf
#print axioms Go.Proofs.YtnnkldnhlebmmaaDoor.typesNnf.cardUpto
