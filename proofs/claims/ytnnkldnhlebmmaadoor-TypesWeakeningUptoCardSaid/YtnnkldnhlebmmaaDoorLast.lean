/- TypesWeakening: the claim. -/
import Derived.Test.YtnnkldnhlebmmaaDoorP4
import Derived.Test.YtnnkldnhlebmmaaDoorP5
set_option linter.unusedVariables false
set_option linter.unusedSimpArgs false
/- TypesWeakening: the claim. -/
namespace Go.Proofs.YtnnkldnhlebmmaaDoor.typesWeakening
open Go.ChangeShapes Go.WideShapes Go.ChangeAt Go.RowKit
open Go Go.Sx Go.Fo
set_option maxRecDepth 100000

theorem contract (H : Type) (enc : TypeId × Value → H) (W : World) (base : Nat) (args : Array Value) (ds gs : List (DataW H)) (before : List MemPlace)
    (hval : ∀ (j : Nat) t v, Tryd.f6.params[j]? = some t → args[j]? = some v → Value.okWide Tryd.prog W .any base t v)
    (hW : DataW.Whole enc Tryd.prog Tryd.f6.params.toList Rows.typesWeakeningSpec.vars false W args.toList ds gs before) (hk : Rows.uptoSmall H (ds ++ gs) = true) (hL : laidMetH Tryd.prog Rows.typesWeakeningUptoRow.laid W) :
    Calls Tryd.prog 6 args W fun e W' => ∃ v, e = .returned v ∧ Rows.typesWeakeningSpec.post enc Tryd.prog Tryd.f6 false true false false W args v W' := by
  have hW' := hW
  obtain ⟨p, q, hA0, hV, rfl, hfz, hnd⟩ := hW
  have hA : DataW.TrodAll enc Tryd.prog W 0 (fun _ => true) true Tryd.f6.params.toList args.toList ds p := hA0
  rw [Tryd.params6] at hA hval
  obtain ⟨v0, vs0, d0, ds0, p0, q0, e0, rfl, rfl, h0, r0⟩ := trodAll_cons hA
  obtain ⟨v1, vs1, d1, ds1, p1, q1, e1, rfl, rfl, h1, r1⟩ := trodAll_cons r0
  obtain ⟨v2, vs2, d2, ds2, p2, q2, e2, rfl, rfl, h2, r2⟩ := trodAll_cons r1
  obtain ⟨rfl, rfl, rfl⟩ := trodAll_nil r2
  obtain rfl : args = #[v0, v1, v2] := by cases args; simp_all
  obtain ⟨rfl, rfl⟩ := trodVars_none hV
  obtain ⟨x0, hx0, hwt0⟩ := arg22 (hval 0 22 v0 rfl rfl) h0
  obtain ⟨x1, hx1, hwt1⟩ := arg26 (hval 1 33 v1 rfl rfl) h1
  obtain ⟨x2, hx2, hwt2⟩ := arg43 (hval 2 43 v2 rfl rfl) h2
  have hb := small_of hk
  simp only [List.append_nil, Rows.uptoBulkAll] at hb
  refine contractG (xs := [.sl (x0.map Bd.d), x1.d, x2.d]) (by kernel_rfl) rfl ?_ ?_ hW' (by kernel_rfl) hL (by simp [Rows.typesWeakeningUptoRow]) (by simp [Rows.typesWeakeningUptoRow]) (by simp [Rows.typesWeakeningUptoRow]) (by simp [Rows.typesWeakeningUptoRow]) (by simp [Rows.typesWeakeningUptoRow]) (All2.cons hx0 (All2.cons hx1 (All2.cons hx2 All2.nil))) fun M hM => g6 hM x0 x1 x2 (by omega)
  · intro H ds' hl
    match ds', hl with
    | [d0, d1, d2], _ => exact ⟨rfl, rfl, rfl⟩
  · rw [Tryd.params6]
    intro t ht
    have ht2 : t = 22 ∨ t = 33 ∨ t = 43 := by simpa [or_comm, or_left_comm, or_assoc] using ht
    rcases ht2 with rfl | rfl | rfl
    · exact ⟨by kernel_rfl, of_decide_eq_true (by kernel_rfl)⟩
    · exact ⟨by kernel_rfl, of_decide_eq_true (by kernel_rfl)⟩
    · exact ⟨by kernel_rfl, of_decide_eq_true (by kernel_rfl)⟩

theorem reads (os : Os) {H : Type} (enc : TypeId × Value → H) : ∃ places, DataW.whole enc Tryd.prog ((laidWorld os).forCall (fun _ _ => 0) ⟨#[], #[(.slice none 0 0), zeroFm, (.agg #[.string ⟨#[]⟩, .int .i64 0])], []⟩).memory Tryd.f6.params.toList Rows.typesWeakeningSpec.vars false (#[(.slice none 0 0), zeroFm, (.agg #[.string ⟨#[]⟩, .int .i64 0])] : Array Value).toList 8 = some ([.nil, zeroD, .agg [.lit (.string []), .lit (.int .i64 0)]], [], places) :=
  ⟨[], by kernel_rfl⟩

theorem liftedUpto (os : Os) (started : os.Started) (H : Type) (enc : TypeId × Value → H) (F : Stop.Interp) :
    ReturnsInHanded {} Tryd.checked os 6 .any ((Rows.OpenSpec.upto Rows.typesWeakeningSpec).preRow enc Tryd.prog Tryd.f6 Rows.typesWeakeningUptoRow.domain false Rows.typesWeakeningUptoRow.laid) (((Rows.OpenSpec.upto Rows.typesWeakeningSpec).at F).post enc Tryd.prog Tryd.f6 false true false false) := by
  obtain ⟨places, hx⟩ := reads os enc
  refine returnsInHanded_of_row (C := Tryd.checked) (s := Rows.OpenSpec.upto Rows.typesWeakeningSpec) own started (by kernel_rfl) Tryd.func6
    (witness_row_atRef (enc := enc) (C := Tryd.checked) false (laidWorld os) #[(.slice none 0 0), zeroFm, (.agg #[.string ⟨#[]⟩, .int .i64 0])] rfl (laid_vars os _) (laid_rest os _) (by kernel_rfl)
      (OpenSpec.preRow_of_cond 8 hx (by kernel_rfl) (fun k hk => by cases hk; kernel_rfl) (by kernel_rfl) (laid_met os _))) ?_
  intro W base args ds gs before hval hW _ hcond _ hL _ _
  exact contract H enc W base args ds gs before hval hW (hcond _ rfl) hL

theorem saidUpto : Rows.TypesWeakeningUptoSaid :=
  OpenClaim.holds_of_cond 6 Tryd.f6 rfl rfl rfl rfl rfl rfl rfl ⟨rfl, rfl, rfl, rfl, rfl⟩ rfl rfl rfl rfl rfl (by kernel_rfl) Tryd.func6 (by kernel_rfl)
    (of_decide_eq_true (by kernel_rfl)) (by unfold Func.isWrapper; first | (rw [if_pos (by decide +kernel)]; kernel_rfl) | (rw [if_neg (by decide +kernel)]; exact ⟨rfl, rfl⟩))
    (fun os started H enc _ F => by rw [OpenClaim.pre_eq_preRow]; exact liftedUpto os started H enc F)

theorem plain (f : FuncId) (fn : Func) (hf : Tryd.pinned.checked.prog.funcNamed "chalkline/chalklinelaw08.TypesWeakening" = some f) (hfn : Tryd.pinned.checked.prog.funcs[f]? = some fn) :
    false = Tryd.pinned.checked.prog.looks [] ∧ ∀ (j : Nat) t, fn.params[j]? = some t → Tryd.pinned.checked.prog.wantsStandIn t = false := by
  obtain rfl : f = 6 := Option.some.inj ((show Tryd.prog.funcNamed "chalkline/chalklinelaw08.TypesWeakening" = some 6 by kernel_rfl).symm.trans hf) |>.symm
  obtain rfl : fn = Tryd.f6 := (Option.some.inj (Tryd.func6.symm.trans hfn)).symm
  refine ⟨by kernel_rfl, fun j t ht => ?_⟩
  rw [Tryd.params6] at ht
  have ht1 := Array.mem_of_getElem? ht
  have ht2 : t = 22 ∨ t = 33 ∨ t = 43 := by simpa [or_comm, or_left_comm, or_assoc] using ht1
  rcases ht2 with rfl | rfl | rfl
  · exact (show Tryd.prog.wantsStandIn 22 = false by kernel_rfl)
  · exact (show Tryd.prog.wantsStandIn 33 = false by kernel_rfl)
  · exact (show Tryd.prog.wantsStandIn 43 = false by kernel_rfl)

theorem cardUpto : Rows.TypesWeakeningUptoCardSaid :=
  Claim7.holds_tied_plain_at .later [] _ _ _ _ saidUpto (fun _ h => by cases h) (by kernel_rfl) (fun _ h => by cases h) typesWeakeningUpto_row_tie rfl ⟨rfl, rfl⟩ (by kernel_rfl) rfl plain (by kernel_rfl)
end Go.Proofs.YtnnkldnhlebmmaaDoor.typesWeakening
#print axioms Go.Proofs.YtnnkldnhlebmmaaDoor.typesWeakening.cardUpto
