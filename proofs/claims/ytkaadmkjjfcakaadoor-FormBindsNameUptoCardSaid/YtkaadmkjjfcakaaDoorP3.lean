/- Joined texts: the walk by computed conditions, the contracts of the functions, the plain laws. -/
import Derived.Test.YtkaadmkjjfcakaaDoorP2
import Derived.Shelf.Strings.SlTrimAscii
import Derived.Test.YtkaadmkjjfcakaaDoorProg
import Derived.Lib.SlTrimSet
set_option linter.unusedVariables false
set_option linter.unusedSimpArgs false
/- The reference's check. -/
namespace Go.Fo
open Go Go.Sx Go.Proofs
set_option maxRecDepth 100000

def tmAt (ts : List Tm) (i : Nat) : Tm := (ts[i]?).getD ⟨0, [], 0⟩
theorem agg_tmAt (ts : List Tm) (i : Nat) : aggAt [.int .i64, .str, .int .i64] (ts.map Tm.d) i = (tmAt ts i).d := by
  cases h : ts[i]? with
  | some t => rw [agg_tm h]; simp [tmAt, h]
  | none => simp [tmAt, h, cellAt, Tm.d, aggAt, Sx.rowAt]; exact ⟨rfl, rfl, rfl⟩
theorem kind_tmAt (ts : List Tm) (i : Nat) : D.toInt (Option.getD (cellAt (ts.map Tm.d) i 0) default) = (tmAt ts i).kind := by
  cases h : ts[i]? with
  | some t => rw [cell_tm0 h]; simp [tmAt, h, D.toInt]
  | none => simp [tmAt, h, cellAt]; rfl
theorem tmAt_len {ts : List Tm} {n : Nat} (h : ∀ t ∈ ts, t.name.length < n) (hn : 0 < n) (i : Nat) : (tmAt ts i).name.length < n := by
  unfold tmAt
  cases hi : ts[i]? with
  | some t => exact h t (List.mem_of_getElem? hi)
  | none => exact hn
theorem sumT_mem {ts : List Tm} {t : Tm} (h : t ∈ ts) : t.name.length ≤ sumT ts := by
  unfold sumT
  induction ts with
  | nil => cases h
  | cons y r ih =>
    simp only [List.map_cons, List.sum_cons]
    rcases List.mem_cons.1 h with rfl | h
    · omega
    · have := ih h; omega
theorem sumB_mem {bs : List Bd} {t : Bd} (h : t ∈ bs) : t.name.length ≤ sumB bs := by
  unfold sumB
  induction bs with
  | nil => cases h
  | cons y r ih =>
    simp only [List.map_cons, List.sum_cons]
    rcases List.mem_cons.1 h with rfl | h
    · omega
    · have := ih h; omega
theorem Fm.ts_len {f : Fm} (hf : f.wt < 4611686018427387904) : ∀ t ∈ f.ts, t.name.length < 4611686018427387904 := fun t ht => by
  have := sumT_mem ht; have := f.wt_eq; omega
theorem Fm.bs_len {f : Fm} (hf : f.wt < 4611686018427387904) : ∀ t ∈ f.bs, t.name.length < 4611686018427387904 := fun t ht => by
  have := sumB_mem ht; have := f.wt_eq; omega

def termsB (f : Fm) : Bool :=
  if atomB f.kind then
    decide (f.ts.length = 2) && termB (tmAt f.ts 0) && termB (tmAt f.ts 1) && (if f.kind = 9 then signB f.name else f.name == [] && (tmAt f.ts 0).kind == 2 && (tmAt f.ts 1).kind == 2)
  else f.ts.isEmpty && f.name == []
def bindB (b : Bd) : Bool := nameB b.name && decide (1 ≤ b.sort) && decide (b.sort ≤ 7)
def bindsB (f : Fm) : Bool :=
  if quantB f.kind then f.bs.all bindB && decide (1 ≤ f.bs.length) && decide (f.bs.length ≤ 6) && (f.n == 0 || (countB f.kind && decide (0 < f.n) && decide (f.n ≤ 1099511627776)))
  else f.bs.isEmpty && f.n == 0

section
variable {G : Nat → Option (List D)}
theorem fn53 (f : Fm) (hf : f.wt < 4611686018427387904) : PFn Tryd.prog G 53 [f.d] (· = [.bool (termsB f)]) := by
  have hts := Fm.ts_len hf
  rw [f.d_eq]
  refine PFn.walk (fn := Tryd.f53) (code := bodyOf Tryd.f53) mixed L0 Tryd.func53 (by kernel_rfl) ⟨_, rfl⟩ (ok0 (by kernel_rfl)) ?_
  apply @of_vc _ (
    PFn Tryd.prog G (59 : Nat) [D.int IntKind.i64 (Fm.kind f)] fun (rs : List D) => ∃ (b : Bool), rs = [D.bool b] ∧ ((!b) = true → [D.bool (bif (↑(List.length (List.map Tm.d (Fm.ts f))) :
    Int) == (0 : Int) then Fm.name f == Array.toList (ByteArray.data (ByteArray.mk #[])) else false)] = [D.bool (termsB f)]) ∧ ((!b) = false → (((↑(List.length (List.map Tm.d (Fm.ts f))) :
    Int) != (2 : Int)) = false → (0 : Int) ≤ (0 : Int) ∧ (List.map Tm.d (Fm.ts f))[Int.toNat (0 : Int)]? = some (aggAt [Sh.int IntKind.i64, Sh.str, Sh.int IntKind.i64] (List.map Tm.d (Fm.ts
    f)) (Int.toNat (0 : Int)))) ∧ PFn Tryd.prog G (66 : Nat) [aggAt [Sh.int IntKind.i64, Sh.str, Sh.int IntKind.i64] (List.map Tm.d (Fm.ts f)) (Int.toNat (0 : Int))] fun (rs : List D) => ∃
    (b : Bool), rs = [D.bool b] ∧ ((bif (↑(List.length (List.map Tm.d (Fm.ts f))) : Int) != (2 : Int) then true else !b) = false → (0 : Int) ≤ (1 : Int) ∧ (List.map Tm.d (Fm.ts f))[Int.toNat
    (1 : Int)]? = some (aggAt [Sh.int IntKind.i64, Sh.str, Sh.int IntKind.i64] (List.map Tm.d (Fm.ts f)) (Int.toNat (1 : Int)))) ∧ PFn Tryd.prog G (66 : Nat) [aggAt [Sh.int IntKind.i64,
    Sh.str, Sh.int IntKind.i64] (List.map Tm.d (Fm.ts f)) (Int.toNat (1 : Int))] fun (rs : List D) => ∃ (b_1 : Bool), rs = [D.bool b_1] ∧ ((bif bif (↑(List.length (List.map Tm.d (Fm.ts f)))
    : Int) != (2 : Int) then true else !b then true else !b_1) = true → [D.bool false] = [D.bool (termsB f)]) ∧ ((bif bif (↑(List.length (List.map Tm.d (Fm.ts f))) : Int) != (2 : Int) then
    true else !b then true else !b_1) = false → ((Fm.kind f == (9 : Int)) = true → PFn Tryd.prog G (67 : Nat) [D.str (Fm.name f)] fun (rs : List D) => ∃ (b : Bool), rs = [D.bool b] ∧ [D.bool
    b] = [D.bool (termsB f)]) ∧ ((Fm.kind f == (9 : Int)) = false → ((Fm.name f == Array.toList (ByteArray.data (ByteArray.mk #[]))) = true → (0 : Int) ≤ (0 : Int) ∧ (List.map Tm.d (Fm.ts
    f))[Int.toNat (0 : Int)]? = some (aggAt [Sh.int IntKind.i64, Sh.str, Sh.int IntKind.i64] (List.map Tm.d (Fm.ts f)) (Int.toNat (0 : Int)))) ∧ ((bif Fm.name f == Array.toList
    (ByteArray.data (ByteArray.mk #[])) then D.toInt (Option.getD (cellAt (List.map Tm.d (Fm.ts f)) (Int.toNat (0 : Int)) (0 : Nat)) default) == (2 : Int) else false) = true → (0 : Int) ≤ (1
    : Int) ∧ (List.map Tm.d (Fm.ts f))[Int.toNat (1 : Int)]? = some (aggAt [Sh.int IntKind.i64, Sh.str, Sh.int IntKind.i64] (List.map Tm.d (Fm.ts f)) (Int.toNat (1 : Int)))) ∧ [D.bool (bif
    bif Fm.name f == Array.toList (ByteArray.data (ByteArray.mk #[])) then D.toInt (Option.getD (cellAt (List.map Tm.d (Fm.ts f)) (Int.toNat (0 : Int)) (0 : Nat)) default) == (2 : Int) else
    false then D.toInt (Option.getD (cellAt (List.map Tm.d (Fm.ts f)) (Int.toNat (1 : Int)) (0 : Nat)) default) == (2 : Int) else false)] = [D.bool (termsB f)]))))
  · kernel_rfl
  refine (fn59 f.kind).mono ?_
  rintro rs rfl
  refine ⟨_, rfl, ?_⟩
  simp only [Int.toNat_zero, Int.toNat_one, agg_tmAt, List.length_map, bif_or, bif_and]
  simp only [kind_tmAt]
  have at_ : ∀ i, f.ts.length = 2 → i < 2 → (List.map Tm.d f.ts)[i]? = some (tmAt f.ts i).d := fun i h hi => by
    have hlt : i < f.ts.length := by omega
    simp [tmAt, hlt]
  refine ⟨fun h => ?_, fun h => ⟨fun h2 => ?_, ?_⟩⟩
  · simp only [Bool.not_eq_true'] at h
    have e : ((f.ts.length : Int) == 0) = f.ts.isEmpty := by
      cases f.ts with
      | nil => rfl
      | cons x r => rw [Bool.eq_iff_iff]; simp; omega
    simp only [termsB, h, Bool.false_eq_true, if_false, e]
  · simp only [bne_eq_false_iff_eq] at h2
    exact ⟨by omega, at_ 0 (by omega) (by omega)⟩
  · simp only [Bool.not_eq_false'] at h
    refine (fn66 (tmAt f.ts 0) (tmAt_len hts (by omega) 0)).mono ?_
    rintro rs rfl
    refine ⟨_, rfl, fun h2 => ?_, ?_⟩
    · simp only [Bool.or_eq_false_iff, bne_eq_false_iff_eq] at h2
      exact ⟨by omega, at_ 1 (by omega) (by omega)⟩
    · refine (fn66 (tmAt f.ts 1) (tmAt_len hts (by omega) 1)).mono ?_
      rintro rs rfl
      have e : ((f.ts.length : Int) != 2) = !decide (f.ts.length = 2) := by
        rw [Bool.eq_iff_iff]; simp; omega
      rw [e]
      refine ⟨_, rfl, fun h2 => ?_, fun h2 => ?_⟩
      · have : termsB f = false := by
          simp only [termsB, h, if_true]
          rcases Bool.eq_false_or_eq_true (decide (f.ts.length = 2)) with h3 | h3 <;> rcases Bool.eq_false_or_eq_true (termB (tmAt f.ts 0)) with h4 | h4 <;> rcases Bool.eq_false_or_eq_true (termB (tmAt f.ts 1)) with h5 | h5 <;> simp_all
        rw [this]
      · simp only [Bool.or_eq_false_iff, Bool.not_eq_false'] at h2
        obtain ⟨⟨h3, h4⟩, h5⟩ := h2
        have h6 : f.ts.length = 2 := by simpa using h3
        refine ⟨fun h9 => ?_, fun h9 => ⟨fun _ => ⟨by omega, at_ 0 h6 (by omega)⟩, fun _ => ⟨by omega, at_ 1 h6 (by omega)⟩, ?_⟩⟩
        · refine (fn67 f.name).mono ?_
          rintro rs rfl
          simp only [beq_iff_eq] at h9
          exact ⟨_, rfl, by simp [termsB, h9, atomB, h6, h4, h5]⟩
        · simp only [beq_eq_false_iff_ne, ne_eq] at h9
          simp only [termsB, h, if_true, h3, h4, h5, h9, if_false, Bool.true_and]

theorem fn54 (f : Fm) (hf : f.wt < 4611686018427387904) : PFn Tryd.prog G 54 [f.d] (· = [.bool (bindsB f)]) := by
  have hbs := Fm.bs_len hf
  rw [f.d_eq]
  refine PFn.walk (fn := Tryd.f54) (code := bodyOf Tryd.f54) mixed
    (LL [(4, loopW (α := Nat) Tryd.prog G L0 0 (loopN (bodyOf Tryd.f54) 0) [1] (fun x => x ≤ f.bs.length ∧ (f.bs.take x).all bindB = true) (fun x => f.bs.length - x)
      (fun x => [(3, .d (.int .i64 x))]) (fun H _ => H))])
    Tryd.func54 (by kernel_rfl) ⟨_, rfl⟩ (LoopsOk.one (b1 := loopN (bodyOf Tryd.f54) 0) (by kernel_rfl) (by kernel_rfl) (loopW_sound mixed (ok0 (by kernel_rfl)))) ?_
  apply @of_vc _ (
    PFn Tryd.prog G (68 : Nat) [D.int IntKind.i64 (Fm.kind f)] fun (rs : List D) => ∃ (b : Bool), rs = [D.bool b] ∧ ((!b) = true → [D.bool (bif (↑(List.length (List.map Bd.d (Fm.bs f))) :
    Int) == (0 : Int) then Fm.n f == (0 : Int) else false)] = [D.bool (bindsB f)]) ∧ ((!b) = false → ∃ (x0 : Nat), (x0 ≤ List.length (Fm.bs f) ∧ List.all (List.take x0 (Fm.bs f)) bindB =
    true) ∧ ((AV.ptr (0 : Nat) (0 : Nat) = AV.ptr (0 : Nat) (0 : Nat) ∧ (0 : Int) = (↑x0 : Int) ∧ True) ∧ (Fm.kind f = Fm.kind f ∧ Fm.name f = Fm.name f ∧ Fm.n f = Fm.n f ∧ List.map Tm.d
    (Fm.ts f) = List.map Tm.d (Fm.ts f) ∧ List.map Bd.d (Fm.bs f) = List.map Bd.d (Fm.bs f) ∧ List.map Fm.d (Fm.l f) = List.map Fm.d (Fm.l f) ∧ True) ∧ True) ∧ ∀ (x : Nat), x ≤ List.length
    (Fm.bs f) ∧ List.all (List.take x (Fm.bs f)) bindB = true → (decide ((↑x : Int) < (↑(List.length (List.map Bd.d (Fm.bs f))) : Int)) = true → ((0 : Int) ≤ (↑x : Int) ∧ (List.map Bd.d
    (Fm.bs f))[Int.toNat (↑x : Int)]? = some (aggAt [Sh.str, Sh.int IntKind.i64] (List.map Bd.d (Fm.bs f)) (Int.toNat (↑x : Int)))) ∧ PFn Tryd.prog G (69 : Nat) [D.str (D.toStr (Option.getD
    (cellAt (List.map Bd.d (Fm.bs f)) (Int.toNat (↑x : Int)) (0 : Nat)) default))] fun (rs : List D) => ∃ (b : Bool), rs = [D.bool b] ∧ ((!b) = false → (0 : Int) ≤ (↑x : Int) ∧ (List.map
    Bd.d (Fm.bs f))[Int.toNat (↑x : Int)]? = some (aggAt [Sh.str, Sh.int IntKind.i64] (List.map Bd.d (Fm.bs f)) (Int.toNat (↑x : Int)))) ∧ ((bif !b then true else decide (D.toInt
    (Option.getD (cellAt (List.map Bd.d (Fm.bs f)) (Int.toNat (↑x : Int)) ((0 : Nat) + (1 : Nat))) default) < (1 : Int))) = false → (0 : Int) ≤ (↑x : Int) ∧ (List.map Bd.d (Fm.bs
    f))[Int.toNat (↑x : Int)]? = some (aggAt [Sh.str, Sh.int IntKind.i64] (List.map Bd.d (Fm.bs f)) (Int.toNat (↑x : Int)))) ∧ ((bif bif !b then true else decide (D.toInt (Option.getD
    (cellAt (List.map Bd.d (Fm.bs f)) (Int.toNat (↑x : Int)) ((0 : Nat) + (1 : Nat))) default) < (1 : Int)) then true else decide (D.toInt (Option.getD (cellAt (List.map Bd.d (Fm.bs f))
    (Int.toNat (↑x : Int)) ((0 : Nat) + (1 : Nat))) default) > (7 : Int))) = true → [D.bool false] = [D.bool (bindsB f)]) ∧ ((bif bif !b then true else decide (D.toInt (Option.getD (cellAt
    (List.map Bd.d (Fm.bs f)) (Int.toNat (↑x : Int)) ((0 : Nat) + (1 : Nat))) default) < (1 : Int)) then true else decide (D.toInt (Option.getD (cellAt (List.map Bd.d (Fm.bs f)) (Int.toNat
    (↑x : Int)) ((0 : Nat) + (1 : Nat))) default) > (7 : Int))) = false → ∃ (y : Nat), (y ≤ List.length (Fm.bs f) ∧ List.all (List.take y (Fm.bs f)) bindB = true) ∧ List.length (Fm.bs f) - y
    < List.length (Fm.bs f) - x ∧ (AV.ptr (0 : Nat) (0 : Nat) = AV.ptr (0 : Nat) (0 : Nat) ∧ IntKind.wrap IntKind.i64 ((↑x : Int) + (1 : Int)) = (↑y : Int) ∧ True) ∧ (Fm.kind f = Fm.kind f ∧
    Fm.name f = Fm.name f ∧ Fm.n f = Fm.n f ∧ List.map Tm.d (Fm.ts f) = List.map Tm.d (Fm.ts f) ∧ List.map Bd.d (Fm.bs f) = List.map Bd.d (Fm.bs f) ∧ List.map Fm.d (Fm.l f) = List.map Fm.d
    (Fm.l f) ∧ True) ∧ True)) ∧ (decide ((↑x : Int) < (↑(List.length (List.map Bd.d (Fm.bs f))) : Int)) = false → [D.bool (bif bif decide ((↑(List.length (List.map Bd.d (Fm.bs f))) : Int) ≥
    (1 : Int)) then decide ((↑(List.length (List.map Bd.d (Fm.bs f))) : Int) ≤ (6 : Int)) else false then bif Fm.n f == (0 : Int) then true else bif bif bif Fm.kind f == (16 : Int) then true
    else Fm.kind f == (17 : Int) then decide (Fm.n f > (0 : Int)) else false then decide (Fm.n f ≤ (1099511627776 : Int)) else false else false)] = [D.bool (bindsB f)])))
  · kernel_rfl
  refine (fn68 f.kind).mono ?_
  rintro rs rfl
  refine ⟨_, rfl, ?_⟩
  simp only [List.length_map, bif_or, bif_and]
  refine ⟨fun h => ?_, fun h => ⟨0, ⟨by omega, by simp⟩, by simp, fun x hx => ⟨fun hlt => ?_, fun hge => ?_⟩⟩⟩
  · simp only [Bool.not_eq_true'] at h
    have e : ((f.bs.length : Int) == 0) = f.bs.isEmpty := by
      cases f.bs with
      | nil => rfl
      | cons x r => rw [Bool.eq_iff_iff]; simp; omega
    simp only [bindsB, h, Bool.false_eq_true, if_false, e]
  · simp only [decide_eq_true_eq] at hlt
    simp only [Bool.not_eq_false'] at h
    obtain ⟨z, hz, hm⟩ := get_nat (l := f.bs) (x := x) (by omega)
    simp only [Int.toNat_natCast]
    rw [agg_bd hz]
    simp only [cell_bd0 hz, cell_bd1 hz, Option.getD_some, D.toStr, D.toInt]
    have hat : (List.map Bd.d f.bs)[x]? = some z.d := by simp [hz]
    refine ⟨⟨by omega, hat⟩, ?_⟩
    refine (fn69 z.name (hbs z hm)).mono ?_
    rintro rs rfl
    have e : (!nameB z.name || decide (z.sort < 1) || decide (z.sort > 7)) = !bindB z := by
      simp only [bindB]
      cases nameB z.name
      · simp
      · rw [Bool.eq_iff_iff]; simp
    refine ⟨nameB z.name, rfl, ?_⟩
    rw [e]
    refine ⟨fun _ => ⟨by omega, hat⟩, fun _ => ⟨by omega, hat⟩, fun h2 => ?_, fun h2 => ?_⟩
    · have : f.bs.all bindB = false := by
        rw [List.all_eq_false]
        exact ⟨z, hm, by simpa using h2⟩
      simp only [bindsB, h, if_true, this, Bool.false_and]
    · refine ⟨x + 1, ⟨by omega, ?_⟩, by omega, ?_⟩
      · rw [List.take_add_one, hz, List.all_append, hx.2]
        simpa using h2
      · have := f.wt_eq
        rw [wrap64 (by omega) (by omega)]
        simp
  · simp only [decide_eq_false_iff_not] at hge
    simp only [Bool.not_eq_false'] at h
    have h2 := hx.2
    rw [List.take_of_length_le (by omega)] at h2
    have e1 : decide ((f.bs.length : Int) ≥ 1) = decide (1 ≤ f.bs.length) := by rw [Bool.eq_iff_iff]; simp; omega
    have e2 : decide ((f.bs.length : Int) ≤ 6) = decide (f.bs.length ≤ 6) := by rw [Bool.eq_iff_iff]; simp; omega
    simp only [bindsB, h, if_true, h2, Bool.true_and, e1, e2, countB, gt_iff_lt]
    rfl
end
end Go.Fo
/- The reference's check, whole. -/
namespace Go.Fo
open Go Go.Sx Go.Proofs
set_option maxRecDepth 100000

/-- One node, apart from its parts. -/
def nodeB (f : Fm) : Bool := ((f.l.length : Int) == partsI f.kind) && termsB f && bindsB f
mutual
def Fm.formB : Fm → Bool
  | .mk k s n ts bs l => nodeB (.mk k s n ts bs l) && Fm.formsB l
def Fm.formsB : List Fm → Bool
  | [] => true
  | x :: r => x.formB && Fm.formsB r
end
theorem Fm.formB_eq (f : Fm) : f.formB = (nodeB f && Fm.formsB f.l) := by cases f; rw [Fm.formB]; rfl
theorem formsB_all (l : List Fm) : Fm.formsB l = l.all Fm.formB := by
  induction l with
  | nil => rw [Fm.formsB]; rfl
  | cons x r ih => rw [Fm.formsB, ih]; rfl
def Fm.checkI (f : Fm) : Int := if f.formB then (if 256 < f.rank ∨ 24 < f.depth then 2 else 0) else 1

section
variable {G : Nat → Option (List D)}
theorem fn32 (f : Fm) (hf : f.wt < 4611686018427387904) : PFn Tryd.prog G 32 [f.d] (· = [.bool f.formB]) := by
  induction f using Fm.induct with
  | h f ih =>
  have h53 := fn53 (G := G) f hf
  have h54 := fn54 (G := G) f hf
  have hw := f.wt_eq
  have hl := wts_len f.l
  rw [f.d_eq] at h53 h54 ⊢
  refine PFn.walk (fn := Tryd.f32) (code := bodyOf Tryd.f32) mixed
    (LL [(4, loopW (α := Nat) Tryd.prog G L0 0 (loopN (bodyOf Tryd.f32) 0) [1] (fun x => x ≤ f.l.length ∧ nodeB f = true ∧ (f.l.take x).all Fm.formB = true) (fun x => f.l.length - x)
      (fun x => [(3, .d (.int .i64 x))]) (fun H _ => H))])
    Tryd.func32 (by kernel_rfl) ⟨_, rfl⟩ (LoopsOk.one (b1 := loopN (bodyOf Tryd.f32) 0) (by kernel_rfl) (by kernel_rfl) (loopW_sound mixed (ok0 (by kernel_rfl)))) ?_
  apply @of_vc _ (
    PFn Tryd.prog G (52 : Nat) [D.int IntKind.i64 (Fm.kind f)] fun (rs : List D) => ∃ (n : Int), rs = [D.int IntKind.i64 n] ∧ PFn Tryd.prog G (53 : Nat) [D.agg [D.int IntKind.i64 (Fm.kind
    f), D.str (Fm.name f), D.int IntKind.i64 (Fm.n f), D.sl (List.map Tm.d (Fm.ts f)), D.sl (List.map Bd.d (Fm.bs f)), D.sl (List.map Fm.d (Fm.l f))]] fun (rs : List D) => ∃ (b : Bool), rs =
    [D.bool b] ∧ PFn Tryd.prog G (54 : Nat) [D.agg [D.int IntKind.i64 (Fm.kind f), D.str (Fm.name f), D.int IntKind.i64 (Fm.n f), D.sl (List.map Tm.d (Fm.ts f)), D.sl (List.map Bd.d (Fm.bs
    f)), D.sl (List.map Fm.d (Fm.l f))]] fun (rs : List D) => ∃ (b_1 : Bool), rs = [D.bool b_1] ∧ ((bif bif (↑(List.length (List.map Fm.d (Fm.l f))) : Int) != n then true else !b then true
    else !b_1) = true → [D.bool false] = [D.bool (Fm.formB f)]) ∧ ((bif bif (↑(List.length (List.map Fm.d (Fm.l f))) : Int) != n then true else !b then true else !b_1) = false → ∃ (x0 :
    Nat), (x0 ≤ List.length (Fm.l f) ∧ nodeB f = true ∧ List.all (List.take x0 (Fm.l f)) Fm.formB = true) ∧ ((AV.ptr (0 : Nat) (0 : Nat) = AV.ptr (0 : Nat) (0 : Nat) ∧ (0 : Int) = (↑x0 :
    Int) ∧ True) ∧ (Fm.kind f = Fm.kind f ∧ Fm.name f = Fm.name f ∧ Fm.n f = Fm.n f ∧ List.map Tm.d (Fm.ts f) = List.map Tm.d (Fm.ts f) ∧ List.map Bd.d (Fm.bs f) = List.map Bd.d (Fm.bs f) ∧
    List.map Fm.d (Fm.l f) = List.map Fm.d (Fm.l f) ∧ True) ∧ True) ∧ ∀ (x : Nat), x ≤ List.length (Fm.l f) ∧ nodeB f = true ∧ List.all (List.take x (Fm.l f)) Fm.formB = true → (decide ((↑x
    : Int) < (↑(List.length (List.map Fm.d (Fm.l f))) : Int)) = true → ((0 : Int) ≤ (↑x : Int) ∧ (List.map Fm.d (Fm.l f))[Int.toNat (↑x : Int)]? = some (aggAt [Sh.int IntKind.i64, Sh.str,
    Sh.int IntKind.i64, Sh.sl, Sh.sl, Sh.sl] (List.map Fm.d (Fm.l f)) (Int.toNat (↑x : Int)))) ∧ PFn Tryd.prog G (32 : Nat) [aggAt [Sh.int IntKind.i64, Sh.str, Sh.int IntKind.i64, Sh.sl,
    Sh.sl, Sh.sl] (List.map Fm.d (Fm.l f)) (Int.toNat (↑x : Int))] fun (rs : List D) => ∃ (b : Bool), rs = [D.bool b] ∧ ((!b) = true → [D.bool false] = [D.bool (Fm.formB f)]) ∧ ((!b) = false
    → ∃ (y : Nat), (y ≤ List.length (Fm.l f) ∧ nodeB f = true ∧ List.all (List.take y (Fm.l f)) Fm.formB = true) ∧ List.length (Fm.l f) - y < List.length (Fm.l f) - x ∧ (AV.ptr (0 : Nat) (0
    : Nat) = AV.ptr (0 : Nat) (0 : Nat) ∧ IntKind.wrap IntKind.i64 ((↑x : Int) + (1 : Int)) = (↑y : Int) ∧ True) ∧ (Fm.kind f = Fm.kind f ∧ Fm.name f = Fm.name f ∧ Fm.n f = Fm.n f ∧ List.map
    Tm.d (Fm.ts f) = List.map Tm.d (Fm.ts f) ∧ List.map Bd.d (Fm.bs f) = List.map Bd.d (Fm.bs f) ∧ List.map Fm.d (Fm.l f) = List.map Fm.d (Fm.l f) ∧ True) ∧ True)) ∧ (decide ((↑x : Int) <
    (↑(List.length (List.map Fm.d (Fm.l f))) : Int)) = false → [D.bool true] = [D.bool (Fm.formB f)])))
  · kernel_rfl
  refine (fn52 f.kind).mono ?_
  rintro rs rfl
  refine ⟨_, rfl, ?_⟩
  refine h53.mono ?_
  rintro rs rfl
  refine ⟨_, rfl, ?_⟩
  refine h54.mono ?_
  rintro rs rfl
  refine ⟨_, rfl, ?_⟩
  have e : (bif bif (f.l.length : Int) != partsI f.kind then true else !termsB f then true else !bindsB f) = !nodeB f := by
    simp only [nodeB, bif_or, bne]
    cases ((f.l.length : Int) == partsI f.kind) <;> cases termsB f <;> cases bindsB f <;> rfl
  simp only [List.length_map]
  rw [e]
  refine ⟨fun h => ?_, fun h => ⟨0, ⟨by omega, by simpa using h, by simp⟩, by simp, fun x hx => ⟨fun hlt => ?_, fun hge => ?_⟩⟩⟩
  · rw [f.formB_eq]
    simp only [Bool.not_eq_true'] at h
    rw [h, Bool.false_and]
  · simp only [decide_eq_true_eq] at hlt
    obtain ⟨z, hz, hm⟩ := get_nat (l := f.l) (x := x) (by omega)
    simp only [Int.toNat_natCast]
    rw [agg_fm hz]
    refine ⟨⟨by omega, by simp [hz]⟩, ?_⟩
    refine (ih z hm (by have := Fm.wt_lt hm; omega)).mono ?_
    rintro rs rfl
    refine ⟨_, rfl, fun h2 => ?_, fun h2 => ?_⟩
    · have : f.l.all Fm.formB = false := by
        rw [List.all_eq_false]
        exact ⟨z, hm, by simpa using h2⟩
      rw [f.formB_eq, formsB_all, this, Bool.and_false]
    · refine ⟨x + 1, ⟨by omega, hx.2.1, ?_⟩, by omega, ?_⟩
      · rw [List.take_add_one, hz, List.all_append, hx.2.2]
        simpa using h2
      · rw [wrap64 (by omega) (by omega)]
        simp
  · simp only [decide_eq_false_iff_not] at hge
    have h2 := hx.2.2
    rw [List.take_of_length_le (by omega)] at h2
    rw [f.formB_eq, formsB_all, h2, hx.2.1]
    rfl

theorem fn14 (f : Fm) (hf : f.wt < 4611686018427387904) : PFn Tryd.prog G 14 [f.d] (· = [.int .i64 f.checkI]) := by
  have h32 := fn32 (G := G) f hf
  have hr := f.rank_le_wt
  have h16 := fn16 (G := G) f (by omega)
  have h18 := fn18 (G := G) f (by omega)
  rw [f.d_eq] at h32 h16 h18 ⊢
  refine PFn.walk (fn := Tryd.f14) (code := bodyOf Tryd.f14) mixed L0 Tryd.func14 (by kernel_rfl) ⟨_, rfl⟩ (ok0 (by kernel_rfl)) ?_
  apply @of_vc _ (
    PFn Tryd.prog G (32 : Nat) [D.agg [D.int IntKind.i64 (Fm.kind f), D.str (Fm.name f), D.int IntKind.i64 (Fm.n f), D.sl (List.map Tm.d (Fm.ts f)), D.sl (List.map Bd.d (Fm.bs f)), D.sl
    (List.map Fm.d (Fm.l f))]] fun (rs : List D) => ∃ (b : Bool), rs = [D.bool b] ∧ ((!b) = true → [D.int IntKind.i64 (1 : Int)] = [D.int IntKind.i64 (Fm.checkI f)]) ∧ ((!b) = false → PFn
    Tryd.prog G (16 : Nat) [D.agg [D.int IntKind.i64 (Fm.kind f), D.str (Fm.name f), D.int IntKind.i64 (Fm.n f), D.sl (List.map Tm.d (Fm.ts f)), D.sl (List.map Bd.d (Fm.bs f)), D.sl
    (List.map Fm.d (Fm.l f))]] fun (rs : List D) => ∃ (n : Int), rs = [D.int IntKind.i64 n] ∧ PFn Tryd.prog G (18 : Nat) [D.agg [D.int IntKind.i64 (Fm.kind f), D.str (Fm.name f), D.int
    IntKind.i64 (Fm.n f), D.sl (List.map Tm.d (Fm.ts f)), D.sl (List.map Bd.d (Fm.bs f)), D.sl (List.map Fm.d (Fm.l f))]] fun (rs : List D) => ∃ (n_1 : Int), rs = [D.int IntKind.i64 n_1] ∧
    ((bif decide (n > (256 : Int)) then true else decide (n_1 > (24 : Int))) = true → [D.int IntKind.i64 (2 : Int)] = [D.int IntKind.i64 (Fm.checkI f)]) ∧ ((bif decide (n > (256 : Int)) then
    true else decide (n_1 > (24 : Int))) = false → [D.int IntKind.i64 (0 : Int)] = [D.int IntKind.i64 (Fm.checkI f)])))
  · kernel_rfl
  refine h32.mono ?_
  rintro rs rfl
  refine ⟨_, rfl, fun h => ?_, fun h => ?_⟩
  · simp only [Bool.not_eq_true'] at h
    simp [Fm.checkI, h]
  · simp only [Bool.not_eq_false'] at h
    refine h16.mono ?_
    rintro rs rfl
    refine ⟨_, rfl, ?_⟩
    refine h18.mono ?_
    rintro rs rfl
    have e : (bif decide ((f.rank : Int) > 256) then true else decide ((f.depth : Int) > 24)) = decide (256 < f.rank ∨ 24 < f.depth) := by
      rw [Bool.eq_iff_iff, bif_or]; simp; omega
    refine ⟨_, rfl, ?_⟩
    rw [e]
    refine ⟨fun h2 => ?_, fun h2 => ?_⟩
    · simp only [decide_eq_true_eq] at h2
      simp [Fm.checkI, h, h2]
    · simp only [decide_eq_false_iff_not] at h2
      simp only [Fm.checkI, h, if_true, if_neg h2]
end
end Go.Fo
/- The normal form in plain terms; the shapes of well-formed formulas. -/
namespace Go.Fo
open Go Go.Sx

def dualI (k : Int) : Int := if k = 11 then 12 else if k = 12 then 11 else if k = 14 then 15 else if k = 15 then 14 else if k = 16 then 17 else if k = 17 then 16 else if k = 1 then 2 else if k = 2 then 1 else 0
def nil0 : Fm := .mk 0 [] 0 [] [] []
mutual
def Fm.right : Fm → Bool → Fm
  | .mk k s n ts bs l, t =>
    if (alwaysB (.mk k s n ts bs l) && t || k == 2 && !t) = true then .mk 2 [] 0 [] [] []
    else if (alwaysB (.mk k s n ts bs l) || k == 2) = true then .mk 1 [] 0 [] [] []
    else if k = 10 then (Fm.rights l (!t)).getD 0 nil0
    else if k = 13 then .mk (if t then 11 else 12) [] 0 [] [] [(Fm.rights l (!t)).getD 0 nil0, (Fm.rights l t).getD 1 nil0]
    else if (atomB k && t && k != 9) = true then .mk 10 [] 0 [] [] [.mk k s n ts bs l]
    else .mk (if t && k != 9 then dualI k else k) (if t && k == 9 then turnS s else s) (if t && k == 16 then n - 1 else if t && k == 17 then n + 1 else n) ts bs (Fm.rights l (t && !countB k))
def Fm.rights : List Fm → Bool → List Fm
  | [], _ => []
  | x :: r, t => x.right t :: Fm.rights r t
end
theorem rights_eq (l : List Fm) (t : Bool) : Fm.rights l t = l.map (·.right t) := by
  induction l with
  | nil => rw [Fm.rights]; rfl
  | cons x r ih => rw [Fm.rights, ih]; rfl

/-- The shapes of a well-formed formula. -/
inductive Shape : Fm → Prop
  | const (k : Int) (hk : k = 1 ∨ k = 2) : Shape (.mk k [] 0 [] [] [])
  | atom (k : Int) (a b : Tm) (hk : k = 3 ∨ k = 4 ∨ k = 5 ∨ k = 6 ∨ k = 7 ∨ k = 8) (ha : termB a = true) (hb : termB b = true) (ha2 : a.kind = 2) (hb2 : b.kind = 2) : Shape (.mk k [] 0 [a, b] [] [])
  | cmp (s : List UInt8) (a b : Tm) (hs : signB s = true) (ha : termB a = true) (hb : termB b = true) : Shape (.mk 9 s 0 [a, b] [] [])
  | not (x : Fm) (hx : x.formB = true) : Shape (.mk 10 [] 0 [] [] [x])
  | two (k : Int) (x y : Fm) (hk : k = 11 ∨ k = 12 ∨ k = 13) (hx : x.formB = true) (hy : y.formB = true) : Shape (.mk k [] 0 [] [] [x, y])
  | quant (k : Int) (bs : List Bd) (x : Fm) (hk : k = 14 ∨ k = 15) (hb : bs.all bindB = true) (h1 : 1 ≤ bs.length) (h6 : bs.length ≤ 6) (hx : x.formB = true) : Shape (.mk k [] 0 [] bs [x])
  | count (k n : Int) (bs : List Bd) (x : Fm) (hk : k = 16 ∨ k = 17) (h0 : 0 ≤ n) (hn : n ≤ 1099511627776) (hb : bs.all bindB = true) (h1 : 1 ≤ bs.length) (h6 : bs.length ≤ 6) (hx : x.formB = true) : Shape (.mk k [] n [] bs [x])

theorem len1 {α : Type} {l : List α} (h : l.length = 1) : ∃ x, l = [x] := by
  match l, h with
  | [x], _ => exact ⟨x, rfl⟩
theorem len2 {α : Type} {l : List α} (h : l.length = 2) : ∃ x y, l = [x, y] := by
  match l, h with
  | [x, y], _ => exact ⟨x, y, rfl⟩

theorem formB_shape {f : Fm} (h : f.formB = true) : Shape f := by
  cases f with
  | mk k s n ts bs l =>
  rw [Fm.formB, formsB_all] at h
  simp only [nodeB, Bool.and_eq_true, beq_iff_eq, Fm.l, Fm.kind] at h
  obtain ⟨⟨⟨hl, ht⟩, hb⟩, hall⟩ := h
  simp only [termsB, Fm.kind, Fm.ts, Fm.name] at ht
  simp only [bindsB, Fm.kind, Fm.bs, Fm.n] at hb
  have hc : k = 1 ∨ k = 2 ∨ (k = 3 ∨ k = 4 ∨ k = 5 ∨ k = 6 ∨ k = 7 ∨ k = 8) ∨ k = 9 ∨ k = 10 ∨ (k = 11 ∨ k = 12 ∨ k = 13) ∨ (k = 14 ∨ k = 15) ∨ (k = 16 ∨ k = 17) := by
    unfold partsI at hl
    simp only [atomB, Bool.and_eq_true, decide_eq_true_eq] at hl
    split at hl
    · omega
    · split at hl
      · omega
      · split at hl <;> omega
  rcases hc with hk | hk | hk | hk | hk | hk | hk | hk
  · subst hk
    simp [partsI, atomB, quantB] at hl ht hb
    obtain ⟨rfl, rfl⟩ := ht; obtain ⟨rfl, rfl⟩ := hb; subst hl
    exact .const 1 (.inl rfl)
  · subst hk
    simp [partsI, atomB, quantB] at hl ht hb
    obtain ⟨rfl, rfl⟩ := ht; obtain ⟨rfl, rfl⟩ := hb; subst hl
    exact .const 2 (.inr rfl)
  · have h1 : atomB k = true := by simp only [atomB, Bool.and_eq_true, decide_eq_true_eq]; omega
    have h2 : quantB k = false := by simp only [quantB, Bool.and_eq_false_iff, decide_eq_false_iff_not]; omega
    have h3 : partsI k = 0 := by unfold partsI; rw [if_neg (by omega), if_neg (by omega), if_pos (.inr (.inr h1))]
    have h9 : k ≠ 9 := by omega
    rw [h3] at hl
    simp [h1, h2, h9] at hl ht hb
    obtain ⟨rfl, rfl⟩ := hb; subst hl
    obtain ⟨⟨⟨h5, h6⟩, h7⟩, ⟨rfl, h8⟩, h10⟩ := ht
    obtain ⟨a, b, rfl⟩ := len2 (of_decide_eq_true h5)
    exact .atom k a b hk h6 h7 h8 h10
  · subst hk
    simp [partsI, atomB, quantB] at hl ht hb
    obtain ⟨rfl, rfl⟩ := hb; subst hl
    obtain ⟨⟨⟨h5, h6⟩, h7⟩, h8⟩ := ht
    obtain ⟨a, b, rfl⟩ := len2 (of_decide_eq_true h5)
    exact .cmp s a b h8 h6 h7
  · subst hk
    simp [partsI, atomB, quantB] at ht hb
    have hl' : l.length = 1 := by simp [partsI] at hl; omega
    obtain ⟨rfl, rfl⟩ := hb; obtain ⟨rfl, rfl⟩ := ht
    obtain ⟨x, rfl⟩ := len1 hl'
    simp at hall
    exact .not x hall
  · have h1 : atomB k = false := by simp only [atomB, Bool.and_eq_false_iff, decide_eq_false_iff_not]; omega
    have h2 : quantB k = false := by simp only [quantB, Bool.and_eq_false_iff, decide_eq_false_iff_not]; omega
    have h3 : partsI k = 2 := by unfold partsI; rw [if_neg (by omega), if_pos hk]
    rw [h3] at hl
    simp [h1, h2] at ht hb
    obtain ⟨rfl, rfl⟩ := hb; obtain ⟨rfl, rfl⟩ := ht
    obtain ⟨x, y, rfl⟩ := len2 (by omega : l.length = 2)
    simp at hall
    exact .two k x y hk hall.1 hall.2
  · have h1 : atomB k = false := by simp only [atomB, Bool.and_eq_false_iff, decide_eq_false_iff_not]; omega
    have h2 : quantB k = true := by simp only [quantB, Bool.and_eq_true, decide_eq_true_eq]; omega
    have h4 : countB k = false := by simp only [countB, Bool.or_eq_false_iff, decide_eq_false_iff_not]; omega
    have h3 : partsI k = 1 := by unfold partsI; rw [if_pos (by omega)]
    rw [h3] at hl
    simp only [h1, h2, h4, if_true, if_false, Bool.and_eq_true, decide_eq_true_eq, Bool.false_and, Bool.or_false, beq_iff_eq, List.isEmpty_iff, reduceCtorEq, Bool.false_eq_true] at ht hb
    obtain ⟨⟨⟨h5, h6⟩, h7⟩, rfl⟩ := hb; obtain ⟨rfl, rfl⟩ := ht
    obtain ⟨x, rfl⟩ := len1 (by omega : l.length = 1)
    simp at hall
    exact .quant k bs x hk h5 (of_decide_eq_true h6) (of_decide_eq_true h7) hall
  · have h1 : atomB k = false := by simp only [atomB, Bool.and_eq_false_iff, decide_eq_false_iff_not]; omega
    have h2 : quantB k = true := by simp only [quantB, Bool.and_eq_true, decide_eq_true_eq]; omega
    have h3 : partsI k = 1 := by unfold partsI; rw [if_pos (by omega)]
    rw [h3] at hl
    simp only [h1, h2, if_true, if_false, Bool.and_eq_true, Bool.or_eq_true, decide_eq_true_eq, beq_iff_eq, List.isEmpty_iff, reduceCtorEq, Bool.false_eq_true] at ht hb
    obtain ⟨⟨⟨h5, h6⟩, h7⟩, h8⟩ := hb; obtain ⟨rfl, rfl⟩ := ht
    obtain ⟨x, rfl⟩ := len1 (by omega : l.length = 1)
    simp at hall
    have h9 : 0 ≤ n ∧ n ≤ 1099511627776 := by
      rcases h8 with h8 | ⟨⟨_, h8⟩, h9⟩
      · omega
      · have := of_decide_eq_true h8; have := of_decide_eq_true h9; omega
    exact .count k n bs x hk h9.1 h9.2 h5 (of_decide_eq_true h6) (of_decide_eq_true h7) hall

/-! The normal form, shape by shape. -/
theorem right_const1 (t : Bool) : (Fm.mk 1 [] 0 [] [] []).right t = .mk (if t then 2 else 1) [] 0 [] [] [] := by
  cases t <;> rw [Fm.right] <;> simp [alwaysB, Fm.kind, Fm.n]
theorem right_const2 (t : Bool) : (Fm.mk 2 [] 0 [] [] []).right t = .mk (if t then 1 else 2) [] 0 [] [] [] := by
  cases t <;> rw [Fm.right] <;> simp [alwaysB, Fm.kind, Fm.n]
theorem right_atom {k : Int} (a b : Tm) (hk : k = 3 ∨ k = 4 ∨ k = 5 ∨ k = 6 ∨ k = 7 ∨ k = 8) (t : Bool) :
    (Fm.mk k [] 0 [a, b] [] []).right t = if t then .mk 10 [] 0 [] [] [.mk k [] 0 [a, b] [] []] else .mk k [] 0 [a, b] [] [] := by
  rcases hk with rfl | rfl | rfl | rfl | rfl | rfl <;> cases t <;> rw [Fm.right] <;> simp [alwaysB, Fm.kind, Fm.n, atomB, Fm.rights]
theorem right_cmp (s : List UInt8) (a b : Tm) (t : Bool) : (Fm.mk 9 s 0 [a, b] [] []).right t = .mk 9 (if t then turnS s else s) 0 [a, b] [] [] := by
  cases t <;> rw [Fm.right] <;> simp [alwaysB, Fm.kind, Fm.n, atomB, Fm.rights]
theorem right_not (x : Fm) (t : Bool) : (Fm.mk 10 [] 0 [] [] [x]).right t = x.right (!t) := by
  rw [Fm.right]; simp [alwaysB, Fm.kind, Fm.n, Fm.rights]
theorem right_and (x y : Fm) (t : Bool) : (Fm.mk 11 [] 0 [] [] [x, y]).right t = .mk (if t then 12 else 11) [] 0 [] [] [x.right t, y.right t] := by
  cases t <;> rw [Fm.right] <;> simp [alwaysB, Fm.kind, Fm.n, atomB, Fm.rights, dualI, countB]
theorem right_or (x y : Fm) (t : Bool) : (Fm.mk 12 [] 0 [] [] [x, y]).right t = .mk (if t then 11 else 12) [] 0 [] [] [x.right t, y.right t] := by
  cases t <;> rw [Fm.right] <;> simp [alwaysB, Fm.kind, Fm.n, atomB, Fm.rights, dualI, countB]
theorem right_imp (x y : Fm) (t : Bool) : (Fm.mk 13 [] 0 [] [] [x, y]).right t = .mk (if t then 11 else 12) [] 0 [] [] [x.right (!t), y.right t] := by
  cases t <;> rw [Fm.right] <;> simp [alwaysB, Fm.kind, Fm.n, Fm.rights]
theorem right_all (bs : List Bd) (x : Fm) (t : Bool) : (Fm.mk 14 [] 0 [] bs [x]).right t = .mk (if t then 15 else 14) [] 0 [] bs [x.right t] := by
  cases t <;> rw [Fm.right] <;> simp [alwaysB, Fm.kind, Fm.n, atomB, Fm.rights, dualI, countB]
theorem right_some (bs : List Bd) (x : Fm) (t : Bool) : (Fm.mk 15 [] 0 [] bs [x]).right t = .mk (if t then 14 else 15) [] 0 [] bs [x.right t] := by
  cases t <;> rw [Fm.right] <;> simp [alwaysB, Fm.kind, Fm.n, atomB, Fm.rights, dualI, countB]
theorem right_least (n : Int) (bs : List Bd) (x : Fm) (t : Bool) : (Fm.mk 16 [] n [] bs [x]).right t =
    if n = 0 then .mk (if t then 2 else 1) [] 0 [] [] [] else .mk (if t then 17 else 16) [] (if t then n - 1 else n) [] bs [x.right false] := by
  by_cases hn : n = 0 <;> cases t <;> rw [Fm.right] <;> simp [alwaysB, Fm.kind, Fm.n, atomB, Fm.rights, dualI, countB, hn]
theorem right_most (n : Int) (bs : List Bd) (x : Fm) (t : Bool) : (Fm.mk 17 [] n [] bs [x]).right t =
    if n = 1099511627776 then .mk (if t then 2 else 1) [] 0 [] [] [] else .mk (if t then 16 else 17) [] (if t then n + 1 else n) [] bs [x.right false] := by
  by_cases hn : n = 1099511627776 <;> cases t <;> rw [Fm.right] <;> simp [alwaysB, Fm.kind, Fm.n, atomB, Fm.rights, dualI, countB, hn]
end Go.Fo
/- The reference's normal form. -/
namespace Go.Fo
open Go Go.Sx Go.Proofs
set_option maxRecDepth 100000
set_option maxHeartbeats 0

theorem agg0 (x : Fm) (r : List Fm) : aggAt [.int .i64, .str, .int .i64, .sl, .sl, .sl] (List.map Fm.d (x :: r)) (Int.toNat 0) = x.d := agg_fm rfl
theorem agg1 (x y : Fm) (r : List Fm) : aggAt [.int .i64, .str, .int .i64, .sl, .sl, .sl] (List.map Fm.d (x :: y :: r)) (Int.toNat 1) = y.d := agg_fm rfl
theorem agg0' (x : Fm) (r : List Fm) : aggAt [.int .i64, .str, .int .i64, .sl, .sl, .sl] (List.map Fm.d (x :: r)) 0 = x.d := agg_fm rfl
theorem agg1' (x y : Fm) (r : List Fm) : aggAt [.int .i64, .str, .int .i64, .sl, .sl, .sl] (List.map Fm.d (x :: y :: r)) 1 = y.d := agg_fm rfl
theorem one_fm {Q : List D → Prop} (z : Fm) (h : Q [z.d]) : ∀ rs, rs = [z.d] → Q rs := fun _ e => e ▸ h

section
variable {G : Nat → Option (List D)}
theorem fn39 (f : Fm) (hb : f.formB = true) (t : Bool) : PFn Tryd.prog G 39 [f.d, .bool t] (· = [(f.right t).d]) := by
  induction f using Fm.induct generalizing t with
  | h f ih =>
  have hs := formB_shape hb
  generalize hr : (f.right t).d = r
  rw [Fm.d_eq]
  refine PFn.walk (fn := Tryd.f39) (code := bodyOf Tryd.f39) mixed L0 Tryd.func39 (by kernel_rfl) ⟨_, rfl⟩ (ok0 (by kernel_rfl)) ?_
  apply @of_vc _ (
    PFn Tryd.prog G (59 : Nat) [D.int IntKind.i64 (Fm.kind f)] fun (rs : List D) => ∃ (b : Bool), rs = [D.bool b] ∧ ((bif bif b then t else false then Fm.kind f != (9 : Int) else false) =
    true → [D.agg [D.int IntKind.i64 (10 : Int), D.str (Array.toList (ByteArray.data (ByteArray.mk #[]))), D.int IntKind.i64 (0 : Int), D.sl [], D.sl [], D.sl [D.agg [D.int IntKind.i64
    (Fm.kind f), D.str (Fm.name f), D.int IntKind.i64 (Fm.n f), D.sl (List.map Tm.d (Fm.ts f)), D.sl (List.map Bd.d (Fm.bs f)), D.sl (List.map Fm.d (Fm.l f))]]]] = [r]) ∧ ((bif bif b then t
    else false then Fm.kind f != (9 : Int) else false) = false → ((bif Fm.kind f == (9 : Int) then t else false) = true → PFn Tryd.prog G (60 : Nat) [D.str (Fm.name f)] fun (rs : List D) =>
    ∃ (s : List UInt8), rs = [D.str s] ∧ [D.agg [D.int IntKind.i64 (9 : Int), D.str s, D.int IntKind.i64 (0 : Int), D.sl (List.map Tm.d (Fm.ts f)), D.sl [], D.sl []]] = [r]) ∧ ((bif Fm.kind
    f == (9 : Int) then t else false) = false → ((bif bif bif bif Fm.kind f == (1 : Int) then true else bif Fm.kind f == (16 : Int) then Fm.n f == (0 : Int) else false then true else bif
    Fm.kind f == (17 : Int) then Fm.n f == (1099511627776 : Int) else false then t else false then true else bif Fm.kind f == (2 : Int) then !t else false) = true → [D.agg [D.int IntKind.i64
    (2 : Int), D.str (Array.toList (ByteArray.data (ByteArray.mk #[]))), D.int IntKind.i64 (0 : Int), D.sl [], D.sl [], D.sl []]] = [r]) ∧ ((bif bif bif bif Fm.kind f == (1 : Int) then true
    else bif Fm.kind f == (16 : Int) then Fm.n f == (0 : Int) else false then true else bif Fm.kind f == (17 : Int) then Fm.n f == (1099511627776 : Int) else false then t else false then
    true else bif Fm.kind f == (2 : Int) then !t else false) = false → ((bif bif bif Fm.kind f == (1 : Int) then true else bif Fm.kind f == (16 : Int) then Fm.n f == (0 : Int) else false
    then true else bif Fm.kind f == (17 : Int) then Fm.n f == (1099511627776 : Int) else false then true else Fm.kind f == (2 : Int)) = true → [D.agg [D.int IntKind.i64 (1 : Int), D.str
    (Array.toList (ByteArray.data (ByteArray.mk #[]))), D.int IntKind.i64 (0 : Int), D.sl [], D.sl [], D.sl []]] = [r]) ∧ ((bif bif bif Fm.kind f == (1 : Int) then true else bif Fm.kind f ==
    (16 : Int) then Fm.n f == (0 : Int) else false then true else bif Fm.kind f == (17 : Int) then Fm.n f == (1099511627776 : Int) else false then true else Fm.kind f == (2 : Int)) = false →
    PFn Tryd.prog G (59 : Nat) [D.int IntKind.i64 (Fm.kind f)] fun (rs : List D) => ∃ (b : Bool), rs = [D.bool b] ∧ (b = true → [D.agg [D.int IntKind.i64 (Fm.kind f), D.str (Fm.name f),
    D.int IntKind.i64 (Fm.n f), D.sl (List.map Tm.d (Fm.ts f)), D.sl (List.map Bd.d (Fm.bs f)), D.sl (List.map Fm.d (Fm.l f))]] = [r]) ∧ (b = false → ((Fm.kind f == (10 : Int)) = true → ((0
    : Int) ≤ (0 : Int) ∧ (List.map Fm.d (Fm.l f))[Int.toNat (0 : Int)]? = some (aggAt [Sh.int IntKind.i64, Sh.str, Sh.int IntKind.i64, Sh.sl, Sh.sl, Sh.sl] (List.map Fm.d (Fm.l f))
    (Int.toNat (0 : Int)))) ∧ PFn Tryd.prog G (39 : Nat) [aggAt [Sh.int IntKind.i64, Sh.str, Sh.int IntKind.i64, Sh.sl, Sh.sl, Sh.sl] (List.map Fm.d (Fm.l f)) (Int.toNat (0 : Int)), D.bool
    !t] fun (rs : List D) => ∃ (n : Int), ∃ (s : List UInt8), ∃ (n_1 : Int), ∃ (l : List D), ∃ (l_1 : List D), ∃ (l_2 : List D), rs = [D.agg [D.int IntKind.i64 n, D.str s, D.int IntKind.i64
    n_1, D.sl l, D.sl l_1, D.sl l_2]] ∧ [D.agg [D.int IntKind.i64 n, D.str s, D.int IntKind.i64 n_1, D.sl l, D.sl l_1, D.sl l_2]] = [r]) ∧ ((Fm.kind f == (10 : Int)) = false → ((Fm.kind f ==
    (13 : Int)) = true → (t = true → ((0 : Int) ≤ (0 : Int) ∧ (List.map Fm.d (Fm.l f))[Int.toNat (0 : Int)]? = some (aggAt [Sh.int IntKind.i64, Sh.str, Sh.int IntKind.i64, Sh.sl, Sh.sl,
    Sh.sl] (List.map Fm.d (Fm.l f)) (Int.toNat (0 : Int)))) ∧ ((0 : Int) ≤ (1 : Int) ∧ (List.map Fm.d (Fm.l f))[Int.toNat (1 : Int)]? = some (aggAt [Sh.int IntKind.i64, Sh.str, Sh.int
    IntKind.i64, Sh.sl, Sh.sl, Sh.sl] (List.map Fm.d (Fm.l f)) (Int.toNat (1 : Int)))) ∧ PFn Tryd.prog G (39 : Nat) [aggAt [Sh.int IntKind.i64, Sh.str, Sh.int IntKind.i64, Sh.sl, Sh.sl,
    Sh.sl] (List.map Fm.d (Fm.l f)) (Int.toNat (0 : Int)), D.bool false] fun (rs : List D) => ∃ (n : Int), ∃ (s : List UInt8), ∃ (n_1 : Int), ∃ (l : List D), ∃ (l_1 : List D), ∃ (l_2 : List
    D), rs = [D.agg [D.int IntKind.i64 n, D.str s, D.int IntKind.i64 n_1, D.sl l, D.sl l_1, D.sl l_2]] ∧ PFn Tryd.prog G (39 : Nat) [aggAt [Sh.int IntKind.i64, Sh.str, Sh.int IntKind.i64,
    Sh.sl, Sh.sl, Sh.sl] (List.map Fm.d (Fm.l f)) (Int.toNat (1 : Int)), D.bool true] fun (rs : List D) => ∃ (n_2 : Int), ∃ (s_1 : List UInt8), ∃ (n_3 : Int), ∃ (l_3 : List D), ∃ (l_4 : List
    D), ∃ (l_5 : List D), rs = [D.agg [D.int IntKind.i64 n_2, D.str s_1, D.int IntKind.i64 n_3, D.sl l_3, D.sl l_4, D.sl l_5]] ∧ PFn Tryd.prog G (61 : Nat) [D.int IntKind.i64 (11 : Int),
    D.agg [D.int IntKind.i64 n, D.str s, D.int IntKind.i64 n_1, D.sl l, D.sl l_1, D.sl l_2], D.agg [D.int IntKind.i64 n_2, D.str s_1, D.int IntKind.i64 n_3, D.sl l_3, D.sl l_4, D.sl l_5]]
    fun (rs : List D) => ∃ (n : Int), ∃ (s : List UInt8), ∃ (n_4 : Int), ∃ (l : List D), ∃ (l_6 : List D), ∃ (l_7 : List D), rs = [D.agg [D.int IntKind.i64 n, D.str s, D.int IntKind.i64 n_4,
    D.sl l, D.sl l_6, D.sl l_7]] ∧ [D.agg [D.int IntKind.i64 n, D.str s, D.int IntKind.i64 n_4, D.sl l, D.sl l_6, D.sl l_7]] = [r]) ∧ (t = false → ((0 : Int) ≤ (0 : Int) ∧ (List.map Fm.d
    (Fm.l f))[Int.toNat (0 : Int)]? = some (aggAt [Sh.int IntKind.i64, Sh.str, Sh.int IntKind.i64, Sh.sl, Sh.sl, Sh.sl] (List.map Fm.d (Fm.l f)) (Int.toNat (0 : Int)))) ∧ ((0 : Int) ≤ (1 :
    Int) ∧ (List.map Fm.d (Fm.l f))[Int.toNat (1 : Int)]? = some (aggAt [Sh.int IntKind.i64, Sh.str, Sh.int IntKind.i64, Sh.sl, Sh.sl, Sh.sl] (List.map Fm.d (Fm.l f)) (Int.toNat (1 : Int))))
    ∧ PFn Tryd.prog G (39 : Nat) [aggAt [Sh.int IntKind.i64, Sh.str, Sh.int IntKind.i64, Sh.sl, Sh.sl, Sh.sl] (List.map Fm.d (Fm.l f)) (Int.toNat (0 : Int)), D.bool true] fun (rs : List D)
    => ∃ (n : Int), ∃ (s : List UInt8), ∃ (n_1 : Int), ∃ (l : List D), ∃ (l_1 : List D), ∃ (l_2 : List D), rs = [D.agg [D.int IntKind.i64 n, D.str s, D.int IntKind.i64 n_1, D.sl l, D.sl l_1,
    D.sl l_2]] ∧ PFn Tryd.prog G (39 : Nat) [aggAt [Sh.int IntKind.i64, Sh.str, Sh.int IntKind.i64, Sh.sl, Sh.sl, Sh.sl] (List.map Fm.d (Fm.l f)) (Int.toNat (1 : Int)), D.bool false] fun (rs
    : List D) => ∃ (n_2 : Int), ∃ (s_1 : List UInt8), ∃ (n_3 : Int), ∃ (l_3 : List D), ∃ (l_4 : List D), ∃ (l_5 : List D), rs = [D.agg [D.int IntKind.i64 n_2, D.str s_1, D.int IntKind.i64
    n_3, D.sl l_3, D.sl l_4, D.sl l_5]] ∧ PFn Tryd.prog G (61 : Nat) [D.int IntKind.i64 (12 : Int), D.agg [D.int IntKind.i64 n, D.str s, D.int IntKind.i64 n_1, D.sl l, D.sl l_1, D.sl l_2],
    D.agg [D.int IntKind.i64 n_2, D.str s_1, D.int IntKind.i64 n_3, D.sl l_3, D.sl l_4, D.sl l_5]] fun (rs : List D) => ∃ (n : Int), ∃ (s : List UInt8), ∃ (n_4 : Int), ∃ (l : List D), ∃ (l_6
    : List D), ∃ (l_7 : List D), rs = [D.agg [D.int IntKind.i64 n, D.str s, D.int IntKind.i64 n_4, D.sl l, D.sl l_6, D.sl l_7]] ∧ [D.agg [D.int IntKind.i64 n, D.str s, D.int IntKind.i64 n_4,
    D.sl l, D.sl l_6, D.sl l_7]] = [r])) ∧ ((Fm.kind f == (13 : Int)) = false → ((Fm.kind f == (11 : Int)) = true → ((Fm.kind f == (11 : Int)) = true → (t = true → ((0 : Int) ≤ (0 : Int) ∧
    (List.map Fm.d (Fm.l f))[Int.toNat (0 : Int)]? = some (aggAt [Sh.int IntKind.i64, Sh.str, Sh.int IntKind.i64, Sh.sl, Sh.sl, Sh.sl] (List.map Fm.d (Fm.l f)) (Int.toNat (0 : Int)))) ∧ ((0
    : Int) ≤ (1 : Int) ∧ (List.map Fm.d (Fm.l f))[Int.toNat (1 : Int)]? = some (aggAt [Sh.int IntKind.i64, Sh.str, Sh.int IntKind.i64, Sh.sl, Sh.sl, Sh.sl] (List.map Fm.d (Fm.l f))
    (Int.toNat (1 : Int)))) ∧ PFn Tryd.prog G (39 : Nat) [aggAt [Sh.int IntKind.i64, Sh.str, Sh.int IntKind.i64, Sh.sl, Sh.sl, Sh.sl] (List.map Fm.d (Fm.l f)) (Int.toNat (0 : Int)), D.bool
    t] fun (rs : List D) => ∃ (n : Int), ∃ (s : List UInt8), ∃ (n_1 : Int), ∃ (l : List D), ∃ (l_1 : List D), ∃ (l_2 : List D), rs = [D.agg [D.int IntKind.i64 n, D.str s, D.int IntKind.i64
    n_1, D.sl l, D.sl l_1, D.sl l_2]] ∧ PFn Tryd.prog G (39 : Nat) [aggAt [Sh.int IntKind.i64, Sh.str, Sh.int IntKind.i64, Sh.sl, Sh.sl, Sh.sl] (List.map Fm.d (Fm.l f)) (Int.toNat (1 :
    Int)), D.bool t] fun (rs : List D) => ∃ (n_2 : Int), ∃ (s_1 : List UInt8), ∃ (n_3 : Int), ∃ (l_3 : List D), ∃ (l_4 : List D), ∃ (l_5 : List D), rs = [D.agg [D.int IntKind.i64 n_2, D.str
    s_1, D.int IntKind.i64 n_3, D.sl l_3, D.sl l_4, D.sl l_5]] ∧ PFn Tryd.prog G (61 : Nat) [D.int IntKind.i64 (IntKind.wrap IntKind.i64 ((23 : Int) - Fm.kind f)), D.agg [D.int IntKind.i64
    n, D.str s, D.int IntKind.i64 n_1, D.sl l, D.sl l_1, D.sl l_2], D.agg [D.int IntKind.i64 n_2, D.str s_1, D.int IntKind.i64 n_3, D.sl l_3, D.sl l_4, D.sl l_5]] fun (rs : List D) => ∃ (n :
    Int), ∃ (s : List UInt8), ∃ (n_4 : Int), ∃ (l : List D), ∃ (l_6 : List D), ∃ (l_7 : List D), rs = [D.agg [D.int IntKind.i64 n, D.str s, D.int IntKind.i64 n_4, D.sl l, D.sl l_6, D.sl
    l_7]] ∧ [D.agg [D.int IntKind.i64 n, D.str s, D.int IntKind.i64 n_4, D.sl l, D.sl l_6, D.sl l_7]] = [r]) ∧ (t = false → ((0 : Int) ≤ (0 : Int) ∧ (List.map Fm.d (Fm.l f))[Int.toNat (0 :
    Int)]? = some (aggAt [Sh.int IntKind.i64, Sh.str, Sh.int IntKind.i64, Sh.sl, Sh.sl, Sh.sl] (List.map Fm.d (Fm.l f)) (Int.toNat (0 : Int)))) ∧ ((0 : Int) ≤ (1 : Int) ∧ (List.map Fm.d
    (Fm.l f))[Int.toNat (1 : Int)]? = some (aggAt [Sh.int IntKind.i64, Sh.str, Sh.int IntKind.i64, Sh.sl, Sh.sl, Sh.sl] (List.map Fm.d (Fm.l f)) (Int.toNat (1 : Int)))) ∧ PFn Tryd.prog G (39
    : Nat) [aggAt [Sh.int IntKind.i64, Sh.str, Sh.int IntKind.i64, Sh.sl, Sh.sl, Sh.sl] (List.map Fm.d (Fm.l f)) (Int.toNat (0 : Int)), D.bool t] fun (rs : List D) => ∃ (n : Int), ∃ (s :
    List UInt8), ∃ (n_1 : Int), ∃ (l : List D), ∃ (l_1 : List D), ∃ (l_2 : List D), rs = [D.agg [D.int IntKind.i64 n, D.str s, D.int IntKind.i64 n_1, D.sl l, D.sl l_1, D.sl l_2]] ∧ PFn
    Tryd.prog G (39 : Nat) [aggAt [Sh.int IntKind.i64, Sh.str, Sh.int IntKind.i64, Sh.sl, Sh.sl, Sh.sl] (List.map Fm.d (Fm.l f)) (Int.toNat (1 : Int)), D.bool t] fun (rs : List D) => ∃ (n_2
    : Int), ∃ (s_1 : List UInt8), ∃ (n_3 : Int), ∃ (l_3 : List D), ∃ (l_4 : List D), ∃ (l_5 : List D), rs = [D.agg [D.int IntKind.i64 n_2, D.str s_1, D.int IntKind.i64 n_3, D.sl l_3, D.sl
    l_4, D.sl l_5]] ∧ PFn Tryd.prog G (61 : Nat) [D.int IntKind.i64 (Fm.kind f), D.agg [D.int IntKind.i64 n, D.str s, D.int IntKind.i64 n_1, D.sl l, D.sl l_1, D.sl l_2], D.agg [D.int
    IntKind.i64 n_2, D.str s_1, D.int IntKind.i64 n_3, D.sl l_3, D.sl l_4, D.sl l_5]] fun (rs : List D) => ∃ (n : Int), ∃ (s : List UInt8), ∃ (n_4 : Int), ∃ (l : List D), ∃ (l_6 : List D), ∃
    (l_7 : List D), rs = [D.agg [D.int IntKind.i64 n, D.str s, D.int IntKind.i64 n_4, D.sl l, D.sl l_6, D.sl l_7]] ∧ [D.agg [D.int IntKind.i64 n, D.str s, D.int IntKind.i64 n_4, D.sl l, D.sl
    l_6, D.sl l_7]] = [r])) ∧ ((Fm.kind f == (11 : Int)) = false → ((Fm.kind f == (14 : Int)) = true → ((Fm.kind f == (14 : Int)) = true → (t = true → ((0 : Int) ≤ (0 : Int) ∧ (List.map Fm.d
    (Fm.l f))[Int.toNat (0 : Int)]? = some (aggAt [Sh.int IntKind.i64, Sh.str, Sh.int IntKind.i64, Sh.sl, Sh.sl, Sh.sl] (List.map Fm.d (Fm.l f)) (Int.toNat (0 : Int)))) ∧ PFn Tryd.prog G (39
    : Nat) [aggAt [Sh.int IntKind.i64, Sh.str, Sh.int IntKind.i64, Sh.sl, Sh.sl, Sh.sl] (List.map Fm.d (Fm.l f)) (Int.toNat (0 : Int)), D.bool t] fun (rs : List D) => ∃ (n : Int), ∃ (s :
    List UInt8), ∃ (n_1 : Int), ∃ (l : List D), ∃ (l_1 : List D), ∃ (l_2 : List D), rs = [D.agg [D.int IntKind.i64 n, D.str s, D.int IntKind.i64 n_1, D.sl l, D.sl l_1, D.sl l_2]] ∧ PFn
    Tryd.prog G (62 : Nat) [D.int IntKind.i64 (IntKind.wrap IntKind.i64 ((29 : Int) - Fm.kind f)), D.agg [D.int IntKind.i64 (Fm.kind f), D.str (Fm.name f), D.int IntKind.i64 (Fm.n f), D.sl
    (List.map Tm.d (Fm.ts f)), D.sl (List.map Bd.d (Fm.bs f)), D.sl (List.map Fm.d (Fm.l f))], D.int IntKind.i64 (0 : Int), D.agg [D.int IntKind.i64 n, D.str s, D.int IntKind.i64 n_1, D.sl
    l, D.sl l_1, D.sl l_2]] fun (rs : List D) => ∃ (n : Int), ∃ (s : List UInt8), ∃ (n_2 : Int), ∃ (l : List D), ∃ (l_3 : List D), ∃ (l_4 : List D), rs = [D.agg [D.int IntKind.i64 n, D.str
    s, D.int IntKind.i64 n_2, D.sl l, D.sl l_3, D.sl l_4]] ∧ [D.agg [D.int IntKind.i64 n, D.str s, D.int IntKind.i64 n_2, D.sl l, D.sl l_3, D.sl l_4]] = [r]) ∧ (t = false → ((0 : Int) ≤ (0 :
    Int) ∧ (List.map Fm.d (Fm.l f))[Int.toNat (0 : Int)]? = some (aggAt [Sh.int IntKind.i64, Sh.str, Sh.int IntKind.i64, Sh.sl, Sh.sl, Sh.sl] (List.map Fm.d (Fm.l f)) (Int.toNat (0 : Int))))
    ∧ PFn Tryd.prog G (39 : Nat) [aggAt [Sh.int IntKind.i64, Sh.str, Sh.int IntKind.i64, Sh.sl, Sh.sl, Sh.sl] (List.map Fm.d (Fm.l f)) (Int.toNat (0 : Int)), D.bool t] fun (rs : List D) => ∃
    (n : Int), ∃ (s : List UInt8), ∃ (n_1 : Int), ∃ (l : List D), ∃ (l_1 : List D), ∃ (l_2 : List D), rs = [D.agg [D.int IntKind.i64 n, D.str s, D.int IntKind.i64 n_1, D.sl l, D.sl l_1, D.sl
    l_2]] ∧ PFn Tryd.prog G (62 : Nat) [D.int IntKind.i64 (Fm.kind f), D.agg [D.int IntKind.i64 (Fm.kind f), D.str (Fm.name f), D.int IntKind.i64 (Fm.n f), D.sl (List.map Tm.d (Fm.ts f)),
    D.sl (List.map Bd.d (Fm.bs f)), D.sl (List.map Fm.d (Fm.l f))], D.int IntKind.i64 (0 : Int), D.agg [D.int IntKind.i64 n, D.str s, D.int IntKind.i64 n_1, D.sl l, D.sl l_1, D.sl l_2]] fun
    (rs : List D) => ∃ (n : Int), ∃ (s : List UInt8), ∃ (n_2 : Int), ∃ (l : List D), ∃ (l_3 : List D), ∃ (l_4 : List D), rs = [D.agg [D.int IntKind.i64 n, D.str s, D.int IntKind.i64 n_2,
    D.sl l, D.sl l_3, D.sl l_4]] ∧ [D.agg [D.int IntKind.i64 n, D.str s, D.int IntKind.i64 n_2, D.sl l, D.sl l_3, D.sl l_4]] = [r])) ∧ ((Fm.kind f == (14 : Int)) = false → ((0 : Int) ≤ (0 :
    Int) ∧ (List.map Fm.d (Fm.l f))[Int.toNat (0 : Int)]? = some (aggAt [Sh.int IntKind.i64, Sh.str, Sh.int IntKind.i64, Sh.sl, Sh.sl, Sh.sl] (List.map Fm.d (Fm.l f)) (Int.toNat (0 : Int))))
    ∧ PFn Tryd.prog G (39 : Nat) [aggAt [Sh.int IntKind.i64, Sh.str, Sh.int IntKind.i64, Sh.sl, Sh.sl, Sh.sl] (List.map Fm.d (Fm.l f)) (Int.toNat (0 : Int)), D.bool false] fun (rs : List D)
    => ∃ (n : Int), ∃ (s : List UInt8), ∃ (n_1 : Int), ∃ (l : List D), ∃ (l_1 : List D), ∃ (l_2 : List D), rs = [D.agg [D.int IntKind.i64 n, D.str s, D.int IntKind.i64 n_1, D.sl l, D.sl l_1,
    D.sl l_2]] ∧ ((bif t then Fm.kind f == (16 : Int) else false) = true → PFn Tryd.prog G (62 : Nat) [D.int IntKind.i64 (17 : Int), D.agg [D.int IntKind.i64 (Fm.kind f), D.str (Fm.name f),
    D.int IntKind.i64 (Fm.n f), D.sl (List.map Tm.d (Fm.ts f)), D.sl (List.map Bd.d (Fm.bs f)), D.sl (List.map Fm.d (Fm.l f))], D.int IntKind.i64 (IntKind.wrap IntKind.i64 (Fm.n f - (1 :
    Int))), D.agg [D.int IntKind.i64 n, D.str s, D.int IntKind.i64 n_1, D.sl l, D.sl l_1, D.sl l_2]] fun (rs : List D) => ∃ (n : Int), ∃ (s : List UInt8), ∃ (n_2 : Int), ∃ (l : List D), ∃
    (l_3 : List D), ∃ (l_4 : List D), rs = [D.agg [D.int IntKind.i64 n, D.str s, D.int IntKind.i64 n_2, D.sl l, D.sl l_3, D.sl l_4]] ∧ [D.agg [D.int IntKind.i64 n, D.str s, D.int IntKind.i64
    n_2, D.sl l, D.sl l_3, D.sl l_4]] = [r]) ∧ ((bif t then Fm.kind f == (16 : Int) else false) = false → (t = true → PFn Tryd.prog G (62 : Nat) [D.int IntKind.i64 (16 : Int), D.agg [D.int
    IntKind.i64 (Fm.kind f), D.str (Fm.name f), D.int IntKind.i64 (Fm.n f), D.sl (List.map Tm.d (Fm.ts f)), D.sl (List.map Bd.d (Fm.bs f)), D.sl (List.map Fm.d (Fm.l f))], D.int IntKind.i64
    (IntKind.wrap IntKind.i64 (Fm.n f + (1 : Int))), D.agg [D.int IntKind.i64 n, D.str s, D.int IntKind.i64 n_1, D.sl l, D.sl l_1, D.sl l_2]] fun (rs : List D) => ∃ (n : Int), ∃ (s : List
    UInt8), ∃ (n_2 : Int), ∃ (l : List D), ∃ (l_3 : List D), ∃ (l_4 : List D), rs = [D.agg [D.int IntKind.i64 n, D.str s, D.int IntKind.i64 n_2, D.sl l, D.sl l_3, D.sl l_4]] ∧ [D.agg [D.int
    IntKind.i64 n, D.str s, D.int IntKind.i64 n_2, D.sl l, D.sl l_3, D.sl l_4]] = [r]) ∧ (t = false → PFn Tryd.prog G (62 : Nat) [D.int IntKind.i64 (Fm.kind f), D.agg [D.int IntKind.i64
    (Fm.kind f), D.str (Fm.name f), D.int IntKind.i64 (Fm.n f), D.sl (List.map Tm.d (Fm.ts f)), D.sl (List.map Bd.d (Fm.bs f)), D.sl (List.map Fm.d (Fm.l f))], D.int IntKind.i64 (Fm.n f),
    D.agg [D.int IntKind.i64 n, D.str s, D.int IntKind.i64 n_1, D.sl l, D.sl l_1, D.sl l_2]] fun (rs : List D) => ∃ (n : Int), ∃ (s : List UInt8), ∃ (n_2 : Int), ∃ (l : List D), ∃ (l_3 :
    List D), ∃ (l_4 : List D), rs = [D.agg [D.int IntKind.i64 n, D.str s, D.int IntKind.i64 n_2, D.sl l, D.sl l_3, D.sl l_4]] ∧ [D.agg [D.int IntKind.i64 n, D.str s, D.int IntKind.i64 n_2,
    D.sl l, D.sl l_3, D.sl l_4]] = [r])))) ∧ ((Fm.kind f == (14 : Int)) = false → ((Fm.kind f == (15 : Int)) = true → (t = true → ((0 : Int) ≤ (0 : Int) ∧ (List.map Fm.d (Fm.l f))[Int.toNat
    (0 : Int)]? = some (aggAt [Sh.int IntKind.i64, Sh.str, Sh.int IntKind.i64, Sh.sl, Sh.sl, Sh.sl] (List.map Fm.d (Fm.l f)) (Int.toNat (0 : Int)))) ∧ PFn Tryd.prog G (39 : Nat) [aggAt
    [Sh.int IntKind.i64, Sh.str, Sh.int IntKind.i64, Sh.sl, Sh.sl, Sh.sl] (List.map Fm.d (Fm.l f)) (Int.toNat (0 : Int)), D.bool t] fun (rs : List D) => ∃ (n : Int), ∃ (s : List UInt8), ∃
    (n_1 : Int), ∃ (l : List D), ∃ (l_1 : List D), ∃ (l_2 : List D), rs = [D.agg [D.int IntKind.i64 n, D.str s, D.int IntKind.i64 n_1, D.sl l, D.sl l_1, D.sl l_2]] ∧ PFn Tryd.prog G (62 :
    Nat) [D.int IntKind.i64 (IntKind.wrap IntKind.i64 ((29 : Int) - Fm.kind f)), D.agg [D.int IntKind.i64 (Fm.kind f), D.str (Fm.name f), D.int IntKind.i64 (Fm.n f), D.sl (List.map Tm.d
    (Fm.ts f)), D.sl (List.map Bd.d (Fm.bs f)), D.sl (List.map Fm.d (Fm.l f))], D.int IntKind.i64 (0 : Int), D.agg [D.int IntKind.i64 n, D.str s, D.int IntKind.i64 n_1, D.sl l, D.sl l_1,
    D.sl l_2]] fun (rs : List D) => ∃ (n : Int), ∃ (s : List UInt8), ∃ (n_2 : Int), ∃ (l : List D), ∃ (l_3 : List D), ∃ (l_4 : List D), rs = [D.agg [D.int IntKind.i64 n, D.str s, D.int
    IntKind.i64 n_2, D.sl l, D.sl l_3, D.sl l_4]] ∧ [D.agg [D.int IntKind.i64 n, D.str s, D.int IntKind.i64 n_2, D.sl l, D.sl l_3, D.sl l_4]] = [r]) ∧ (t = false → ((0 : Int) ≤ (0 : Int) ∧
    (List.map Fm.d (Fm.l f))[Int.toNat (0 : Int)]? = some (aggAt [Sh.int IntKind.i64, Sh.str, Sh.int IntKind.i64, Sh.sl, Sh.sl, Sh.sl] (List.map Fm.d (Fm.l f)) (Int.toNat (0 : Int)))) ∧ PFn
    Tryd.prog G (39 : Nat) [aggAt [Sh.int IntKind.i64, Sh.str, Sh.int IntKind.i64, Sh.sl, Sh.sl, Sh.sl] (List.map Fm.d (Fm.l f)) (Int.toNat (0 : Int)), D.bool t] fun (rs : List D) => ∃ (n :
    Int), ∃ (s : List UInt8), ∃ (n_1 : Int), ∃ (l : List D), ∃ (l_1 : List D), ∃ (l_2 : List D), rs = [D.agg [D.int IntKind.i64 n, D.str s, D.int IntKind.i64 n_1, D.sl l, D.sl l_1, D.sl
    l_2]] ∧ PFn Tryd.prog G (62 : Nat) [D.int IntKind.i64 (Fm.kind f), D.agg [D.int IntKind.i64 (Fm.kind f), D.str (Fm.name f), D.int IntKind.i64 (Fm.n f), D.sl (List.map Tm.d (Fm.ts f)),
    D.sl (List.map Bd.d (Fm.bs f)), D.sl (List.map Fm.d (Fm.l f))], D.int IntKind.i64 (0 : Int), D.agg [D.int IntKind.i64 n, D.str s, D.int IntKind.i64 n_1, D.sl l, D.sl l_1, D.sl l_2]] fun
    (rs : List D) => ∃ (n : Int), ∃ (s : List UInt8), ∃ (n_2 : Int), ∃ (l : List D), ∃ (l_3 : List D), ∃ (l_4 : List D), rs = [D.agg [D.int IntKind.i64 n, D.str s, D.int IntKind.i64 n_2,
    D.sl l, D.sl l_3, D.sl l_4]] ∧ [D.agg [D.int IntKind.i64 n, D.str s, D.int IntKind.i64 n_2, D.sl l, D.sl l_3, D.sl l_4]] = [r])) ∧ ((Fm.kind f == (15 : Int)) = false → ((0 : Int) ≤ (0 :
    Int) ∧ (List.map Fm.d (Fm.l f))[Int.toNat (0 : Int)]? = some (aggAt [Sh.int IntKind.i64, Sh.str, Sh.int IntKind.i64, Sh.sl, Sh.sl, Sh.sl] (List.map Fm.d (Fm.l f)) (Int.toNat (0 : Int))))
    ∧ PFn Tryd.prog G (39 : Nat) [aggAt [Sh.int IntKind.i64, Sh.str, Sh.int IntKind.i64, Sh.sl, Sh.sl, Sh.sl] (List.map Fm.d (Fm.l f)) (Int.toNat (0 : Int)), D.bool false] fun (rs : List D)
    => ∃ (n : Int), ∃ (s : List UInt8), ∃ (n_1 : Int), ∃ (l : List D), ∃ (l_1 : List D), ∃ (l_2 : List D), rs = [D.agg [D.int IntKind.i64 n, D.str s, D.int IntKind.i64 n_1, D.sl l, D.sl l_1,
    D.sl l_2]] ∧ ((bif t then Fm.kind f == (16 : Int) else false) = true → PFn Tryd.prog G (62 : Nat) [D.int IntKind.i64 (17 : Int), D.agg [D.int IntKind.i64 (Fm.kind f), D.str (Fm.name f),
    D.int IntKind.i64 (Fm.n f), D.sl (List.map Tm.d (Fm.ts f)), D.sl (List.map Bd.d (Fm.bs f)), D.sl (List.map Fm.d (Fm.l f))], D.int IntKind.i64 (IntKind.wrap IntKind.i64 (Fm.n f - (1 :
    Int))), D.agg [D.int IntKind.i64 n, D.str s, D.int IntKind.i64 n_1, D.sl l, D.sl l_1, D.sl l_2]] fun (rs : List D) => ∃ (n : Int), ∃ (s : List UInt8), ∃ (n_2 : Int), ∃ (l : List D), ∃
    (l_3 : List D), ∃ (l_4 : List D), rs = [D.agg [D.int IntKind.i64 n, D.str s, D.int IntKind.i64 n_2, D.sl l, D.sl l_3, D.sl l_4]] ∧ [D.agg [D.int IntKind.i64 n, D.str s, D.int IntKind.i64
    n_2, D.sl l, D.sl l_3, D.sl l_4]] = [r]) ∧ ((bif t then Fm.kind f == (16 : Int) else false) = false → (t = true → PFn Tryd.prog G (62 : Nat) [D.int IntKind.i64 (16 : Int), D.agg [D.int
    IntKind.i64 (Fm.kind f), D.str (Fm.name f), D.int IntKind.i64 (Fm.n f), D.sl (List.map Tm.d (Fm.ts f)), D.sl (List.map Bd.d (Fm.bs f)), D.sl (List.map Fm.d (Fm.l f))], D.int IntKind.i64
    (IntKind.wrap IntKind.i64 (Fm.n f + (1 : Int))), D.agg [D.int IntKind.i64 n, D.str s, D.int IntKind.i64 n_1, D.sl l, D.sl l_1, D.sl l_2]] fun (rs : List D) => ∃ (n : Int), ∃ (s : List
    UInt8), ∃ (n_2 : Int), ∃ (l : List D), ∃ (l_3 : List D), ∃ (l_4 : List D), rs = [D.agg [D.int IntKind.i64 n, D.str s, D.int IntKind.i64 n_2, D.sl l, D.sl l_3, D.sl l_4]] ∧ [D.agg [D.int
    IntKind.i64 n, D.str s, D.int IntKind.i64 n_2, D.sl l, D.sl l_3, D.sl l_4]] = [r]) ∧ (t = false → PFn Tryd.prog G (62 : Nat) [D.int IntKind.i64 (Fm.kind f), D.agg [D.int IntKind.i64
    (Fm.kind f), D.str (Fm.name f), D.int IntKind.i64 (Fm.n f), D.sl (List.map Tm.d (Fm.ts f)), D.sl (List.map Bd.d (Fm.bs f)), D.sl (List.map Fm.d (Fm.l f))], D.int IntKind.i64 (Fm.n f),
    D.agg [D.int IntKind.i64 n, D.str s, D.int IntKind.i64 n_1, D.sl l, D.sl l_1, D.sl l_2]] fun (rs : List D) => ∃ (n : Int), ∃ (s : List UInt8), ∃ (n_2 : Int), ∃ (l : List D), ∃ (l_3 :
    List D), ∃ (l_4 : List D), rs = [D.agg [D.int IntKind.i64 n, D.str s, D.int IntKind.i64 n_2, D.sl l, D.sl l_3, D.sl l_4]] ∧ [D.agg [D.int IntKind.i64 n, D.str s, D.int IntKind.i64 n_2,
    D.sl l, D.sl l_3, D.sl l_4]] = [r])))))) ∧ ((Fm.kind f == (11 : Int)) = false → ((Fm.kind f == (12 : Int)) = true → (t = true → ((0 : Int) ≤ (0 : Int) ∧ (List.map Fm.d (Fm.l
    f))[Int.toNat (0 : Int)]? = some (aggAt [Sh.int IntKind.i64, Sh.str, Sh.int IntKind.i64, Sh.sl, Sh.sl, Sh.sl] (List.map Fm.d (Fm.l f)) (Int.toNat (0 : Int)))) ∧ ((0 : Int) ≤ (1 : Int) ∧
    (List.map Fm.d (Fm.l f))[Int.toNat (1 : Int)]? = some (aggAt [Sh.int IntKind.i64, Sh.str, Sh.int IntKind.i64, Sh.sl, Sh.sl, Sh.sl] (List.map Fm.d (Fm.l f)) (Int.toNat (1 : Int)))) ∧ PFn
    Tryd.prog G (39 : Nat) [aggAt [Sh.int IntKind.i64, Sh.str, Sh.int IntKind.i64, Sh.sl, Sh.sl, Sh.sl] (List.map Fm.d (Fm.l f)) (Int.toNat (0 : Int)), D.bool t] fun (rs : List D) => ∃ (n :
    Int), ∃ (s : List UInt8), ∃ (n_1 : Int), ∃ (l : List D), ∃ (l_1 : List D), ∃ (l_2 : List D), rs = [D.agg [D.int IntKind.i64 n, D.str s, D.int IntKind.i64 n_1, D.sl l, D.sl l_1, D.sl
    l_2]] ∧ PFn Tryd.prog G (39 : Nat) [aggAt [Sh.int IntKind.i64, Sh.str, Sh.int IntKind.i64, Sh.sl, Sh.sl, Sh.sl] (List.map Fm.d (Fm.l f)) (Int.toNat (1 : Int)), D.bool t] fun (rs : List
    D) => ∃ (n_2 : Int), ∃ (s_1 : List UInt8), ∃ (n_3 : Int), ∃ (l_3 : List D), ∃ (l_4 : List D), ∃ (l_5 : List D), rs = [D.agg [D.int IntKind.i64 n_2, D.str s_1, D.int IntKind.i64 n_3, D.sl
    l_3, D.sl l_4, D.sl l_5]] ∧ PFn Tryd.prog G (61 : Nat) [D.int IntKind.i64 (IntKind.wrap IntKind.i64 ((23 : Int) - Fm.kind f)), D.agg [D.int IntKind.i64 n, D.str s, D.int IntKind.i64 n_1,
    D.sl l, D.sl l_1, D.sl l_2], D.agg [D.int IntKind.i64 n_2, D.str s_1, D.int IntKind.i64 n_3, D.sl l_3, D.sl l_4, D.sl l_5]] fun (rs : List D) => ∃ (n : Int), ∃ (s : List UInt8), ∃ (n_4 :
    Int), ∃ (l : List D), ∃ (l_6 : List D), ∃ (l_7 : List D), rs = [D.agg [D.int IntKind.i64 n, D.str s, D.int IntKind.i64 n_4, D.sl l, D.sl l_6, D.sl l_7]] ∧ [D.agg [D.int IntKind.i64 n,
    D.str s, D.int IntKind.i64 n_4, D.sl l, D.sl l_6, D.sl l_7]] = [r]) ∧ (t = false → ((0 : Int) ≤ (0 : Int) ∧ (List.map Fm.d (Fm.l f))[Int.toNat (0 : Int)]? = some (aggAt [Sh.int
    IntKind.i64, Sh.str, Sh.int IntKind.i64, Sh.sl, Sh.sl, Sh.sl] (List.map Fm.d (Fm.l f)) (Int.toNat (0 : Int)))) ∧ ((0 : Int) ≤ (1 : Int) ∧ (List.map Fm.d (Fm.l f))[Int.toNat (1 : Int)]? =
    some (aggAt [Sh.int IntKind.i64, Sh.str, Sh.int IntKind.i64, Sh.sl, Sh.sl, Sh.sl] (List.map Fm.d (Fm.l f)) (Int.toNat (1 : Int)))) ∧ PFn Tryd.prog G (39 : Nat) [aggAt [Sh.int
    IntKind.i64, Sh.str, Sh.int IntKind.i64, Sh.sl, Sh.sl, Sh.sl] (List.map Fm.d (Fm.l f)) (Int.toNat (0 : Int)), D.bool t] fun (rs : List D) => ∃ (n : Int), ∃ (s : List UInt8), ∃ (n_1 :
    Int), ∃ (l : List D), ∃ (l_1 : List D), ∃ (l_2 : List D), rs = [D.agg [D.int IntKind.i64 n, D.str s, D.int IntKind.i64 n_1, D.sl l, D.sl l_1, D.sl l_2]] ∧ PFn Tryd.prog G (39 : Nat)
    [aggAt [Sh.int IntKind.i64, Sh.str, Sh.int IntKind.i64, Sh.sl, Sh.sl, Sh.sl] (List.map Fm.d (Fm.l f)) (Int.toNat (1 : Int)), D.bool t] fun (rs : List D) => ∃ (n_2 : Int), ∃ (s_1 : List
    UInt8), ∃ (n_3 : Int), ∃ (l_3 : List D), ∃ (l_4 : List D), ∃ (l_5 : List D), rs = [D.agg [D.int IntKind.i64 n_2, D.str s_1, D.int IntKind.i64 n_3, D.sl l_3, D.sl l_4, D.sl l_5]] ∧ PFn
    Tryd.prog G (61 : Nat) [D.int IntKind.i64 (Fm.kind f), D.agg [D.int IntKind.i64 n, D.str s, D.int IntKind.i64 n_1, D.sl l, D.sl l_1, D.sl l_2], D.agg [D.int IntKind.i64 n_2, D.str s_1,
    D.int IntKind.i64 n_3, D.sl l_3, D.sl l_4, D.sl l_5]] fun (rs : List D) => ∃ (n : Int), ∃ (s : List UInt8), ∃ (n_4 : Int), ∃ (l : List D), ∃ (l_6 : List D), ∃ (l_7 : List D), rs = [D.agg
    [D.int IntKind.i64 n, D.str s, D.int IntKind.i64 n_4, D.sl l, D.sl l_6, D.sl l_7]] ∧ [D.agg [D.int IntKind.i64 n, D.str s, D.int IntKind.i64 n_4, D.sl l, D.sl l_6, D.sl l_7]] = [r])) ∧
    ((Fm.kind f == (12 : Int)) = false → ((Fm.kind f == (14 : Int)) = true → ((Fm.kind f == (14 : Int)) = true → (t = true → ((0 : Int) ≤ (0 : Int) ∧ (List.map Fm.d (Fm.l f))[Int.toNat (0 :
    Int)]? = some (aggAt [Sh.int IntKind.i64, Sh.str, Sh.int IntKind.i64, Sh.sl, Sh.sl, Sh.sl] (List.map Fm.d (Fm.l f)) (Int.toNat (0 : Int)))) ∧ PFn Tryd.prog G (39 : Nat) [aggAt [Sh.int
    IntKind.i64, Sh.str, Sh.int IntKind.i64, Sh.sl, Sh.sl, Sh.sl] (List.map Fm.d (Fm.l f)) (Int.toNat (0 : Int)), D.bool t] fun (rs : List D) => ∃ (n : Int), ∃ (s : List UInt8), ∃ (n_1 :
    Int), ∃ (l : List D), ∃ (l_1 : List D), ∃ (l_2 : List D), rs = [D.agg [D.int IntKind.i64 n, D.str s, D.int IntKind.i64 n_1, D.sl l, D.sl l_1, D.sl l_2]] ∧ PFn Tryd.prog G (62 : Nat)
    [D.int IntKind.i64 (IntKind.wrap IntKind.i64 ((29 : Int) - Fm.kind f)), D.agg [D.int IntKind.i64 (Fm.kind f), D.str (Fm.name f), D.int IntKind.i64 (Fm.n f), D.sl (List.map Tm.d (Fm.ts
    f)), D.sl (List.map Bd.d (Fm.bs f)), D.sl (List.map Fm.d (Fm.l f))], D.int IntKind.i64 (0 : Int), D.agg [D.int IntKind.i64 n, D.str s, D.int IntKind.i64 n_1, D.sl l, D.sl l_1, D.sl l_2]]
    fun (rs : List D) => ∃ (n : Int), ∃ (s : List UInt8), ∃ (n_2 : Int), ∃ (l : List D), ∃ (l_3 : List D), ∃ (l_4 : List D), rs = [D.agg [D.int IntKind.i64 n, D.str s, D.int IntKind.i64 n_2,
    D.sl l, D.sl l_3, D.sl l_4]] ∧ [D.agg [D.int IntKind.i64 n, D.str s, D.int IntKind.i64 n_2, D.sl l, D.sl l_3, D.sl l_4]] = [r]) ∧ (t = false → ((0 : Int) ≤ (0 : Int) ∧ (List.map Fm.d
    (Fm.l f))[Int.toNat (0 : Int)]? = some (aggAt [Sh.int IntKind.i64, Sh.str, Sh.int IntKind.i64, Sh.sl, Sh.sl, Sh.sl] (List.map Fm.d (Fm.l f)) (Int.toNat (0 : Int)))) ∧ PFn Tryd.prog G (39
    : Nat) [aggAt [Sh.int IntKind.i64, Sh.str, Sh.int IntKind.i64, Sh.sl, Sh.sl, Sh.sl] (List.map Fm.d (Fm.l f)) (Int.toNat (0 : Int)), D.bool t] fun (rs : List D) => ∃ (n : Int), ∃ (s :
    List UInt8), ∃ (n_1 : Int), ∃ (l : List D), ∃ (l_1 : List D), ∃ (l_2 : List D), rs = [D.agg [D.int IntKind.i64 n, D.str s, D.int IntKind.i64 n_1, D.sl l, D.sl l_1, D.sl l_2]] ∧ PFn
    Tryd.prog G (62 : Nat) [D.int IntKind.i64 (Fm.kind f), D.agg [D.int IntKind.i64 (Fm.kind f), D.str (Fm.name f), D.int IntKind.i64 (Fm.n f), D.sl (List.map Tm.d (Fm.ts f)), D.sl (List.map
    Bd.d (Fm.bs f)), D.sl (List.map Fm.d (Fm.l f))], D.int IntKind.i64 (0 : Int), D.agg [D.int IntKind.i64 n, D.str s, D.int IntKind.i64 n_1, D.sl l, D.sl l_1, D.sl l_2]] fun (rs : List D)
    => ∃ (n : Int), ∃ (s : List UInt8), ∃ (n_2 : Int), ∃ (l : List D), ∃ (l_3 : List D), ∃ (l_4 : List D), rs = [D.agg [D.int IntKind.i64 n, D.str s, D.int IntKind.i64 n_2, D.sl l, D.sl l_3,
    D.sl l_4]] ∧ [D.agg [D.int IntKind.i64 n, D.str s, D.int IntKind.i64 n_2, D.sl l, D.sl l_3, D.sl l_4]] = [r])) ∧ ((Fm.kind f == (14 : Int)) = false → ((0 : Int) ≤ (0 : Int) ∧ (List.map
    Fm.d (Fm.l f))[Int.toNat (0 : Int)]? = some (aggAt [Sh.int IntKind.i64, Sh.str, Sh.int IntKind.i64, Sh.sl, Sh.sl, Sh.sl] (List.map Fm.d (Fm.l f)) (Int.toNat (0 : Int)))) ∧ PFn Tryd.prog
    G (39 : Nat) [aggAt [Sh.int IntKind.i64, Sh.str, Sh.int IntKind.i64, Sh.sl, Sh.sl, Sh.sl] (List.map Fm.d (Fm.l f)) (Int.toNat (0 : Int)), D.bool false] fun (rs : List D) => ∃ (n : Int),
    ∃ (s : List UInt8), ∃ (n_1 : Int), ∃ (l : List D), ∃ (l_1 : List D), ∃ (l_2 : List D), rs = [D.agg [D.int IntKind.i64 n, D.str s, D.int IntKind.i64 n_1, D.sl l, D.sl l_1, D.sl l_2]] ∧
    ((bif t then Fm.kind f == (16 : Int) else false) = true → PFn Tryd.prog G (62 : Nat) [D.int IntKind.i64 (17 : Int), D.agg [D.int IntKind.i64 (Fm.kind f), D.str (Fm.name f), D.int
    IntKind.i64 (Fm.n f), D.sl (List.map Tm.d (Fm.ts f)), D.sl (List.map Bd.d (Fm.bs f)), D.sl (List.map Fm.d (Fm.l f))], D.int IntKind.i64 (IntKind.wrap IntKind.i64 (Fm.n f - (1 : Int))),
    D.agg [D.int IntKind.i64 n, D.str s, D.int IntKind.i64 n_1, D.sl l, D.sl l_1, D.sl l_2]] fun (rs : List D) => ∃ (n : Int), ∃ (s : List UInt8), ∃ (n_2 : Int), ∃ (l : List D), ∃ (l_3 :
    List D), ∃ (l_4 : List D), rs = [D.agg [D.int IntKind.i64 n, D.str s, D.int IntKind.i64 n_2, D.sl l, D.sl l_3, D.sl l_4]] ∧ [D.agg [D.int IntKind.i64 n, D.str s, D.int IntKind.i64 n_2,
    D.sl l, D.sl l_3, D.sl l_4]] = [r]) ∧ ((bif t then Fm.kind f == (16 : Int) else false) = false → (t = true → PFn Tryd.prog G (62 : Nat) [D.int IntKind.i64 (16 : Int), D.agg [D.int
    IntKind.i64 (Fm.kind f), D.str (Fm.name f), D.int IntKind.i64 (Fm.n f), D.sl (List.map Tm.d (Fm.ts f)), D.sl (List.map Bd.d (Fm.bs f)), D.sl (List.map Fm.d (Fm.l f))], D.int IntKind.i64
    (IntKind.wrap IntKind.i64 (Fm.n f + (1 : Int))), D.agg [D.int IntKind.i64 n, D.str s, D.int IntKind.i64 n_1, D.sl l, D.sl l_1, D.sl l_2]] fun (rs : List D) => ∃ (n : Int), ∃ (s : List
    UInt8), ∃ (n_2 : Int), ∃ (l : List D), ∃ (l_3 : List D), ∃ (l_4 : List D), rs = [D.agg [D.int IntKind.i64 n, D.str s, D.int IntKind.i64 n_2, D.sl l, D.sl l_3, D.sl l_4]] ∧ [D.agg [D.int
    IntKind.i64 n, D.str s, D.int IntKind.i64 n_2, D.sl l, D.sl l_3, D.sl l_4]] = [r]) ∧ (t = false → PFn Tryd.prog G (62 : Nat) [D.int IntKind.i64 (Fm.kind f), D.agg [D.int IntKind.i64
    (Fm.kind f), D.str (Fm.name f), D.int IntKind.i64 (Fm.n f), D.sl (List.map Tm.d (Fm.ts f)), D.sl (List.map Bd.d (Fm.bs f)), D.sl (List.map Fm.d (Fm.l f))], D.int IntKind.i64 (Fm.n f),
    D.agg [D.int IntKind.i64 n, D.str s, D.int IntKind.i64 n_1, D.sl l, D.sl l_1, D.sl l_2]] fun (rs : List D) => ∃ (n : Int), ∃ (s : List UInt8), ∃ (n_2 : Int), ∃ (l : List D), ∃ (l_3 :
    List D), ∃ (l_4 : List D), rs = [D.agg [D.int IntKind.i64 n, D.str s, D.int IntKind.i64 n_2, D.sl l, D.sl l_3, D.sl l_4]] ∧ [D.agg [D.int IntKind.i64 n, D.str s, D.int IntKind.i64 n_2,
    D.sl l, D.sl l_3, D.sl l_4]] = [r])))) ∧ ((Fm.kind f == (14 : Int)) = false → ((Fm.kind f == (15 : Int)) = true → (t = true → ((0 : Int) ≤ (0 : Int) ∧ (List.map Fm.d (Fm.l f))[Int.toNat
    (0 : Int)]? = some (aggAt [Sh.int IntKind.i64, Sh.str, Sh.int IntKind.i64, Sh.sl, Sh.sl, Sh.sl] (List.map Fm.d (Fm.l f)) (Int.toNat (0 : Int)))) ∧ PFn Tryd.prog G (39 : Nat) [aggAt
    [Sh.int IntKind.i64, Sh.str, Sh.int IntKind.i64, Sh.sl, Sh.sl, Sh.sl] (List.map Fm.d (Fm.l f)) (Int.toNat (0 : Int)), D.bool t] fun (rs : List D) => ∃ (n : Int), ∃ (s : List UInt8), ∃
    (n_1 : Int), ∃ (l : List D), ∃ (l_1 : List D), ∃ (l_2 : List D), rs = [D.agg [D.int IntKind.i64 n, D.str s, D.int IntKind.i64 n_1, D.sl l, D.sl l_1, D.sl l_2]] ∧ PFn Tryd.prog G (62 :
    Nat) [D.int IntKind.i64 (IntKind.wrap IntKind.i64 ((29 : Int) - Fm.kind f)), D.agg [D.int IntKind.i64 (Fm.kind f), D.str (Fm.name f), D.int IntKind.i64 (Fm.n f), D.sl (List.map Tm.d
    (Fm.ts f)), D.sl (List.map Bd.d (Fm.bs f)), D.sl (List.map Fm.d (Fm.l f))], D.int IntKind.i64 (0 : Int), D.agg [D.int IntKind.i64 n, D.str s, D.int IntKind.i64 n_1, D.sl l, D.sl l_1,
    D.sl l_2]] fun (rs : List D) => ∃ (n : Int), ∃ (s : List UInt8), ∃ (n_2 : Int), ∃ (l : List D), ∃ (l_3 : List D), ∃ (l_4 : List D), rs = [D.agg [D.int IntKind.i64 n, D.str s, D.int
    IntKind.i64 n_2, D.sl l, D.sl l_3, D.sl l_4]] ∧ [D.agg [D.int IntKind.i64 n, D.str s, D.int IntKind.i64 n_2, D.sl l, D.sl l_3, D.sl l_4]] = [r]) ∧ (t = false → ((0 : Int) ≤ (0 : Int) ∧
    (List.map Fm.d (Fm.l f))[Int.toNat (0 : Int)]? = some (aggAt [Sh.int IntKind.i64, Sh.str, Sh.int IntKind.i64, Sh.sl, Sh.sl, Sh.sl] (List.map Fm.d (Fm.l f)) (Int.toNat (0 : Int)))) ∧ PFn
    Tryd.prog G (39 : Nat) [aggAt [Sh.int IntKind.i64, Sh.str, Sh.int IntKind.i64, Sh.sl, Sh.sl, Sh.sl] (List.map Fm.d (Fm.l f)) (Int.toNat (0 : Int)), D.bool t] fun (rs : List D) => ∃ (n :
    Int), ∃ (s : List UInt8), ∃ (n_1 : Int), ∃ (l : List D), ∃ (l_1 : List D), ∃ (l_2 : List D), rs = [D.agg [D.int IntKind.i64 n, D.str s, D.int IntKind.i64 n_1, D.sl l, D.sl l_1, D.sl
    l_2]] ∧ PFn Tryd.prog G (62 : Nat) [D.int IntKind.i64 (Fm.kind f), D.agg [D.int IntKind.i64 (Fm.kind f), D.str (Fm.name f), D.int IntKind.i64 (Fm.n f), D.sl (List.map Tm.d (Fm.ts f)),
    D.sl (List.map Bd.d (Fm.bs f)), D.sl (List.map Fm.d (Fm.l f))], D.int IntKind.i64 (0 : Int), D.agg [D.int IntKind.i64 n, D.str s, D.int IntKind.i64 n_1, D.sl l, D.sl l_1, D.sl l_2]] fun
    (rs : List D) => ∃ (n : Int), ∃ (s : List UInt8), ∃ (n_2 : Int), ∃ (l : List D), ∃ (l_3 : List D), ∃ (l_4 : List D), rs = [D.agg [D.int IntKind.i64 n, D.str s, D.int IntKind.i64 n_2,
    D.sl l, D.sl l_3, D.sl l_4]] ∧ [D.agg [D.int IntKind.i64 n, D.str s, D.int IntKind.i64 n_2, D.sl l, D.sl l_3, D.sl l_4]] = [r])) ∧ ((Fm.kind f == (15 : Int)) = false → ((0 : Int) ≤ (0 :
    Int) ∧ (List.map Fm.d (Fm.l f))[Int.toNat (0 : Int)]? = some (aggAt [Sh.int IntKind.i64, Sh.str, Sh.int IntKind.i64, Sh.sl, Sh.sl, Sh.sl] (List.map Fm.d (Fm.l f)) (Int.toNat (0 : Int))))
    ∧ PFn Tryd.prog G (39 : Nat) [aggAt [Sh.int IntKind.i64, Sh.str, Sh.int IntKind.i64, Sh.sl, Sh.sl, Sh.sl] (List.map Fm.d (Fm.l f)) (Int.toNat (0 : Int)), D.bool false] fun (rs : List D)
    => ∃ (n : Int), ∃ (s : List UInt8), ∃ (n_1 : Int), ∃ (l : List D), ∃ (l_1 : List D), ∃ (l_2 : List D), rs = [D.agg [D.int IntKind.i64 n, D.str s, D.int IntKind.i64 n_1, D.sl l, D.sl l_1,
    D.sl l_2]] ∧ ((bif t then Fm.kind f == (16 : Int) else false) = true → PFn Tryd.prog G (62 : Nat) [D.int IntKind.i64 (17 : Int), D.agg [D.int IntKind.i64 (Fm.kind f), D.str (Fm.name f),
    D.int IntKind.i64 (Fm.n f), D.sl (List.map Tm.d (Fm.ts f)), D.sl (List.map Bd.d (Fm.bs f)), D.sl (List.map Fm.d (Fm.l f))], D.int IntKind.i64 (IntKind.wrap IntKind.i64 (Fm.n f - (1 :
    Int))), D.agg [D.int IntKind.i64 n, D.str s, D.int IntKind.i64 n_1, D.sl l, D.sl l_1, D.sl l_2]] fun (rs : List D) => ∃ (n : Int), ∃ (s : List UInt8), ∃ (n_2 : Int), ∃ (l : List D), ∃
    (l_3 : List D), ∃ (l_4 : List D), rs = [D.agg [D.int IntKind.i64 n, D.str s, D.int IntKind.i64 n_2, D.sl l, D.sl l_3, D.sl l_4]] ∧ [D.agg [D.int IntKind.i64 n, D.str s, D.int IntKind.i64
    n_2, D.sl l, D.sl l_3, D.sl l_4]] = [r]) ∧ ((bif t then Fm.kind f == (16 : Int) else false) = false → (t = true → PFn Tryd.prog G (62 : Nat) [D.int IntKind.i64 (16 : Int), D.agg [D.int
    IntKind.i64 (Fm.kind f), D.str (Fm.name f), D.int IntKind.i64 (Fm.n f), D.sl (List.map Tm.d (Fm.ts f)), D.sl (List.map Bd.d (Fm.bs f)), D.sl (List.map Fm.d (Fm.l f))], D.int IntKind.i64
    (IntKind.wrap IntKind.i64 (Fm.n f + (1 : Int))), D.agg [D.int IntKind.i64 n, D.str s, D.int IntKind.i64 n_1, D.sl l, D.sl l_1, D.sl l_2]] fun (rs : List D) => ∃ (n : Int), ∃ (s : List
    UInt8), ∃ (n_2 : Int), ∃ (l : List D), ∃ (l_3 : List D), ∃ (l_4 : List D), rs = [D.agg [D.int IntKind.i64 n, D.str s, D.int IntKind.i64 n_2, D.sl l, D.sl l_3, D.sl l_4]] ∧ [D.agg [D.int
    IntKind.i64 n, D.str s, D.int IntKind.i64 n_2, D.sl l, D.sl l_3, D.sl l_4]] = [r]) ∧ (t = false → PFn Tryd.prog G (62 : Nat) [D.int IntKind.i64 (Fm.kind f), D.agg [D.int IntKind.i64
    (Fm.kind f), D.str (Fm.name f), D.int IntKind.i64 (Fm.n f), D.sl (List.map Tm.d (Fm.ts f)), D.sl (List.map Bd.d (Fm.bs f)), D.sl (List.map Fm.d (Fm.l f))], D.int IntKind.i64 (Fm.n f),
    D.agg [D.int IntKind.i64 n, D.str s, D.int IntKind.i64 n_1, D.sl l, D.sl l_1, D.sl l_2]] fun (rs : List D) => ∃ (n : Int), ∃ (s : List UInt8), ∃ (n_2 : Int), ∃ (l : List D), ∃ (l_3 :
    List D), ∃ (l_4 : List D), rs = [D.agg [D.int IntKind.i64 n, D.str s, D.int IntKind.i64 n_2, D.sl l, D.sl l_3, D.sl l_4]] ∧ [D.agg [D.int IntKind.i64 n, D.str s, D.int IntKind.i64 n_2,
    D.sl l, D.sl l_3, D.sl l_4]] = [r]))))))))))))))
  · kernel_rfl
  have h59 := fn59 (G := G) f.kind
  have h60 := fn60 (G := G) f.name
  have h61 : ∀ (k : Int) (a b : Fm), PFn Tryd.prog G 61 [.int .i64 k, .agg [.int .i64 a.kind, .str a.name, .int .i64 a.n, .sl (a.ts.map Tm.d), .sl (a.bs.map Bd.d), .sl (a.l.map Fm.d)], .agg [.int .i64 b.kind, .str b.name, .int .i64 b.n, .sl (b.ts.map Tm.d), .sl (b.bs.map Bd.d), .sl (b.l.map Fm.d)]] (· = [(Fm.two k a b).d]) := fun k a b => by
    have h := fn61 (G := G) k a b
    rw [a.d_eq, b.d_eq] at h
    exact h
  have h62 : ∀ (k : Int) (a : Fm) (n : Int) (b : Fm), PFn Tryd.prog G 62 [.int .i64 k, .agg [.int .i64 a.kind, .str a.name, .int .i64 a.n, .sl (a.ts.map Tm.d), .sl (a.bs.map Bd.d), .sl (a.l.map Fm.d)], .int .i64 n, .agg [.int .i64 b.kind, .str b.name, .int .i64 b.n, .sl (b.ts.map Tm.d), .sl (b.bs.map Bd.d), .sl (b.l.map Fm.d)]] (· = [(Fm.one k a n b).d]) := fun k a n b => by
    have h := fn62 (G := G) k a n b
    rw [a.d_eq, b.d_eq] at h
    exact h
  cases hs with
  | const k hk =>
    refine h59.mono ?_
    rintro rs rfl
    refine ⟨_, rfl, ?_⟩
    rcases hk with rfl | rfl <;> cases t <;> simp [Fm.kind, atomB, ← hr, right_const1, right_const2, Fm.d_mk]
  | atom k a b hk ha hb ha2 hb2 =>
    have e1 : atomB k = true := by simp only [atomB, Bool.and_eq_true, decide_eq_true_eq]; omega
    have e9 : (k == 9) = false := by simp; omega
    have e16 : (k == 16) = false := by simp; omega
    have e17 : (k == 17) = false := by simp; omega
    have e2 : (k == 2) = false := by simp; omega
    have e3 : (k == 1) = false := by simp; omega
    refine h59.mono ?_
    rintro rs rfl
    refine ⟨_, rfl, ?_⟩
    have h59' := h59
    simp only [Fm.kind, e1] at h59'
    cases t
    · simp only [Fm.kind, e1, e9, e16, e17, e2, e3, cond_true, cond_false, reduceCtorEq, false_imp_iff, true_imp_iff, true_and, bne, Bool.not_false, Bool.not_true]
      refine h59'.mono ?_
      rintro rs rfl
      refine ⟨_, rfl, ?_⟩
      simp [← hr, right_atom a b hk, Fm.d_mk, Fm.n, Fm.name, Fm.ts, Fm.bs, Fm.l]
    · simp [Fm.kind, e1, e9, ← hr, right_atom a b hk, Fm.d_mk, Fm.n, Fm.name, Fm.ts, Fm.bs, Fm.l, bne]
  | cmp s a b hs ha hb =>
    have hx := h59
    have hy := h59
    cases t <;> (repeat' (first
      | exact fun h => absurd h Bool.false_ne_true
      | exact fun h => absurd h.symm Bool.false_ne_true
      | exact True.intro
      | exact Int.le_refl _
      | exact (by decide : (0 : Int) ≤ 1)
      | refine And.intro ?_ ?_
      | intro _
      | (refine h59.mono ?_; rintro rs rfl; refine ⟨_, rfl, ?_⟩)
      | (refine h60.mono ?_; rintro rs rfl; refine ⟨_, rfl, ?_⟩)
      | (refine (h61 _ _ _).mono ?_; rintro rs rfl; refine ⟨_, _, _, _, _, _, congrArg (fun z => [z]) (Fm.d_eq _), ?_⟩)
      | (refine (h62 _ _ _ _).mono ?_; rintro rs rfl; refine ⟨_, _, _, _, _, _, congrArg (fun z => [z]) (Fm.d_eq _), ?_⟩)
      | (refine (hx _).mono ?_; rintro rs rfl; refine ⟨_, _, _, _, _, _, congrArg (fun z => [z]) (Fm.d_eq _), ?_⟩)
      | (refine (hy _).mono ?_; rintro rs rfl; refine ⟨_, _, _, _, _, _, congrArg (fun z => [z]) (Fm.d_eq _), ?_⟩)
      | rfl)) <;> (rw [← hr, right_cmp, Fm.d_mk]; rfl)
  | not x hx' =>
    have hx := ih x (by simp [Fm.l]) hx'
    have hy := hx
    simp only [Fm.l, agg0, agg1]
    cases t <;> (repeat' (first
      | exact fun h => absurd h Bool.false_ne_true
      | exact fun h => absurd h.symm Bool.false_ne_true
      | exact True.intro
      | exact Int.le_refl _
      | exact (by decide : (0 : Int) ≤ 1)
      | refine And.intro ?_ ?_
      | intro _
      | (refine h59.mono ?_; rintro rs rfl; refine ⟨_, rfl, ?_⟩)
      | (refine h60.mono ?_; rintro rs rfl; refine ⟨_, rfl, ?_⟩)
      | (refine (h61 _ _ _).mono ?_; rintro rs rfl; refine ⟨_, _, _, _, _, _, congrArg (fun z => [z]) (Fm.d_eq _), ?_⟩)
      | (refine (h62 _ _ _ _).mono ?_; rintro rs rfl; refine ⟨_, _, _, _, _, _, congrArg (fun z => [z]) (Fm.d_eq _), ?_⟩)
      | (refine (hx _).mono ?_; rintro rs rfl; refine ⟨_, _, _, _, _, _, congrArg (fun z => [z]) (Fm.d_eq _), ?_⟩)
      | (refine (hy _).mono ?_; rintro rs rfl; refine ⟨_, _, _, _, _, _, congrArg (fun z => [z]) (Fm.d_eq _), ?_⟩)
      | rfl)) <;> (rw [← Fm.d_eq, ← hr, right_not])
  | two k x y hk hx' hy' =>
    have hx := ih x (by simp [Fm.l]) hx'
    have hy := ih y (by simp [Fm.l]) hy'
    simp only [Fm.l, agg0, agg1]
    rcases hk with rfl | rfl | rfl <;> cases t <;> (repeat' (first
      | exact fun h => absurd h Bool.false_ne_true
      | exact fun h => absurd h.symm Bool.false_ne_true
      | exact True.intro
      | exact Int.le_refl _
      | exact (by decide : (0 : Int) ≤ 1)
      | refine And.intro ?_ ?_
      | intro _
      | (refine h59.mono ?_; rintro rs rfl; refine ⟨_, rfl, ?_⟩)
      | (refine h60.mono ?_; rintro rs rfl; refine ⟨_, rfl, ?_⟩)
      | (refine (h61 _ _ _).mono ?_; rintro rs rfl; refine ⟨_, _, _, _, _, _, congrArg (fun z => [z]) (Fm.d_eq _), ?_⟩)
      | (refine (h62 _ _ _ _).mono ?_; rintro rs rfl; refine ⟨_, _, _, _, _, _, congrArg (fun z => [z]) (Fm.d_eq _), ?_⟩)
      | (refine (hx _).mono ?_; rintro rs rfl; refine ⟨_, _, _, _, _, _, congrArg (fun z => [z]) (Fm.d_eq _), ?_⟩)
      | (refine (hy _).mono ?_; rintro rs rfl; refine ⟨_, _, _, _, _, _, congrArg (fun z => [z]) (Fm.d_eq _), ?_⟩)
      | rfl)) <;> (rw [← Fm.d_eq, ← hr]; first | (rw [right_and]; rfl) | (rw [right_or]; rfl) | (rw [right_imp]; rfl))
  | quant k bs x hk hb h1 h6 hx' =>
    have hx := ih x (by simp [Fm.l]) hx'
    have hy := hx
    simp only [Fm.l, agg0, agg1]
    rcases hk with rfl | rfl <;> cases t <;> (repeat' (first
      | exact fun h => absurd h Bool.false_ne_true
      | exact fun h => absurd h.symm Bool.false_ne_true
      | exact True.intro
      | exact Int.le_refl _
      | exact (by decide : (0 : Int) ≤ 1)
      | refine And.intro ?_ ?_
      | intro _
      | (refine h59.mono ?_; rintro rs rfl; refine ⟨_, rfl, ?_⟩)
      | (refine h60.mono ?_; rintro rs rfl; refine ⟨_, rfl, ?_⟩)
      | (refine (h61 _ _ _).mono ?_; rintro rs rfl; refine ⟨_, _, _, _, _, _, congrArg (fun z => [z]) (Fm.d_eq _), ?_⟩)
      | (refine (h62 _ _ _ _).mono ?_; rintro rs rfl; refine ⟨_, _, _, _, _, _, congrArg (fun z => [z]) (Fm.d_eq _), ?_⟩)
      | (refine (hx _).mono ?_; rintro rs rfl; refine ⟨_, _, _, _, _, _, congrArg (fun z => [z]) (Fm.d_eq _), ?_⟩)
      | (refine (hy _).mono ?_; rintro rs rfl; refine ⟨_, _, _, _, _, _, congrArg (fun z => [z]) (Fm.d_eq _), ?_⟩)
      | rfl)) <;> (rw [← Fm.d_eq, ← hr]; first | (rw [right_all]; rfl) | (rw [right_some]; rfl))
  | count k n bs x hk h0 hn hb h1 h6 hx' =>
    have hx := ih x (by simp [Fm.l]) hx'
    have hy := hx
    have w1 : n ≠ 0 → IntKind.wrap IntKind.i64 (n - 1) = n - 1 := fun _ => wrap64 (by omega) (by omega)
    have w2 : IntKind.wrap IntKind.i64 (n + 1) = n + 1 := wrap64 (by omega) (by omega)
    rcases hk with rfl | rfl
    · by_cases h : n = 0
      · subst h
        cases t <;> (repeat' (first
      | exact fun h => absurd h Bool.false_ne_true
      | exact fun h => absurd h.symm Bool.false_ne_true
      | exact True.intro
      | exact Int.le_refl _
      | exact (by decide : (0 : Int) ≤ 1)
      | refine And.intro ?_ ?_
      | intro _
      | (refine h59.mono ?_; rintro rs rfl; refine ⟨_, rfl, ?_⟩)
      | (refine h60.mono ?_; rintro rs rfl; refine ⟨_, rfl, ?_⟩)
      | (refine (h61 _ _ _).mono ?_; rintro rs rfl; refine ⟨_, _, _, _, _, _, congrArg (fun z => [z]) (Fm.d_eq _), ?_⟩)
      | (refine (h62 _ _ _ _).mono ?_; rintro rs rfl; refine ⟨_, _, _, _, _, _, congrArg (fun z => [z]) (Fm.d_eq _), ?_⟩)
      | (refine (hx _).mono ?_; rintro rs rfl; refine ⟨_, _, _, _, _, _, congrArg (fun z => [z]) (Fm.d_eq _), ?_⟩)
      | (refine (hy _).mono ?_; rintro rs rfl; refine ⟨_, _, _, _, _, _, congrArg (fun z => [z]) (Fm.d_eq _), ?_⟩)
      | rfl)) <;> (rw [← hr, right_least]; rfl)
      · have en : (n == 0) = false := by simpa using h
        simp only [Fm.l, Fm.n, agg0, en, w1 h, w2]
        cases t <;> (repeat' (first
      | exact fun h => absurd h Bool.false_ne_true
      | exact fun h => absurd h.symm Bool.false_ne_true
      | exact True.intro
      | exact Int.le_refl _
      | exact (by decide : (0 : Int) ≤ 1)
      | refine And.intro ?_ ?_
      | intro _
      | (refine h59.mono ?_; rintro rs rfl; refine ⟨_, rfl, ?_⟩)
      | (refine h60.mono ?_; rintro rs rfl; refine ⟨_, rfl, ?_⟩)
      | (refine (h61 _ _ _).mono ?_; rintro rs rfl; refine ⟨_, _, _, _, _, _, congrArg (fun z => [z]) (Fm.d_eq _), ?_⟩)
      | (refine (h62 _ _ _ _).mono ?_; rintro rs rfl; refine ⟨_, _, _, _, _, _, congrArg (fun z => [z]) (Fm.d_eq _), ?_⟩)
      | (refine (hx _).mono ?_; rintro rs rfl; refine ⟨_, _, _, _, _, _, congrArg (fun z => [z]) (Fm.d_eq _), ?_⟩)
      | (refine (hy _).mono ?_; rintro rs rfl; refine ⟨_, _, _, _, _, _, congrArg (fun z => [z]) (Fm.d_eq _), ?_⟩)
      | rfl)) <;> (rw [← Fm.d_eq, ← hr, right_least, if_neg h]; rfl)
    · by_cases h : n = 1099511627776
      · subst h
        cases t <;> (repeat' (first
      | exact fun h => absurd h Bool.false_ne_true
      | exact fun h => absurd h.symm Bool.false_ne_true
      | exact True.intro
      | exact Int.le_refl _
      | exact (by decide : (0 : Int) ≤ 1)
      | refine And.intro ?_ ?_
      | intro _
      | (refine h59.mono ?_; rintro rs rfl; refine ⟨_, rfl, ?_⟩)
      | (refine h60.mono ?_; rintro rs rfl; refine ⟨_, rfl, ?_⟩)
      | (refine (h61 _ _ _).mono ?_; rintro rs rfl; refine ⟨_, _, _, _, _, _, congrArg (fun z => [z]) (Fm.d_eq _), ?_⟩)
      | (refine (h62 _ _ _ _).mono ?_; rintro rs rfl; refine ⟨_, _, _, _, _, _, congrArg (fun z => [z]) (Fm.d_eq _), ?_⟩)
      | (refine (hx _).mono ?_; rintro rs rfl; refine ⟨_, _, _, _, _, _, congrArg (fun z => [z]) (Fm.d_eq _), ?_⟩)
      | (refine (hy _).mono ?_; rintro rs rfl; refine ⟨_, _, _, _, _, _, congrArg (fun z => [z]) (Fm.d_eq _), ?_⟩)
      | rfl)) <;> (rw [← hr, right_most]; rfl)
      · have en : (n == 1099511627776) = false := by simpa using h
        simp only [Fm.l, Fm.n, agg0, en, w2]
        cases t <;> (repeat' (first
      | exact fun h => absurd h Bool.false_ne_true
      | exact fun h => absurd h.symm Bool.false_ne_true
      | exact True.intro
      | exact Int.le_refl _
      | exact (by decide : (0 : Int) ≤ 1)
      | refine And.intro ?_ ?_
      | intro _
      | (refine h59.mono ?_; rintro rs rfl; refine ⟨_, rfl, ?_⟩)
      | (refine h60.mono ?_; rintro rs rfl; refine ⟨_, rfl, ?_⟩)
      | (refine (h61 _ _ _).mono ?_; rintro rs rfl; refine ⟨_, _, _, _, _, _, congrArg (fun z => [z]) (Fm.d_eq _), ?_⟩)
      | (refine (h62 _ _ _ _).mono ?_; rintro rs rfl; refine ⟨_, _, _, _, _, _, congrArg (fun z => [z]) (Fm.d_eq _), ?_⟩)
      | (refine (hx _).mono ?_; rintro rs rfl; refine ⟨_, _, _, _, _, _, congrArg (fun z => [z]) (Fm.d_eq _), ?_⟩)
      | (refine (hy _).mono ?_; rintro rs rfl; refine ⟨_, _, _, _, _, _, congrArg (fun z => [z]) (Fm.d_eq _), ?_⟩)
      | rfl)) <;> (rw [← Fm.d_eq, ← hr, right_most, if_neg h]; rfl)
end
end Go.Fo
/- Size: the range over all subformulas. -/
namespace Go.Fo
open Go Go.Sx Go.Proofs
set_option maxRecDepth 100000

def fmCells (f : Fm) : List D := [.int .i64 f.kind, .str f.name, .int .i64 f.n, .sl (f.ts.map Tm.d), .sl (f.bs.map Bd.d), .sl (f.l.map Fm.d)]
theorem d_cells (f : Fm) : f.d = .agg (fmCells f) := f.d_eq
def fmAVs (f : Fm) : List AV := [.d (.int .i64 f.kind), .d (.str f.name), .d (.int .i64 f.n), .d (.sl (f.ts.map Tm.d)), .d (.sl (f.bs.map Bd.d)), .d (.sl (f.l.map Fm.d))]
def itAll (ds : List D) : AV := .clo 40 [] [.iptr (ds.getD 0 default).cells]

section
variable {G : Nat → Option (List D)}

theorem fn30 (f : Fm) : PFnA Tryd.prog G 30 [.agg (fmCells f)] (· = .clo 40 [] [.iptr (fmCells f)]) := by
  refine PFnA.walk (fn := Tryd.f30) (code := bodyOf Tryd.f30) mixed L0 Tryd.func30 (by kernel_rfl) (ok0 (by kernel_rfl)) ?_
  apply @of_vc _ (
    AV.clo (40 : Nat) [] [AV.iptr [D.int IntKind.i64 (Fm.kind f), D.str (Fm.name f), D.int IntKind.i64 (Fm.n f), D.sl (List.map Tm.d (Fm.ts f)), D.sl (List.map Bd.d (Fm.bs f)), D.sl
    (List.map Fm.d (Fm.l f))]] = AV.clo (40 : Nat) [] [AV.iptr [D.int IntKind.i64 (Fm.kind f), D.str (Fm.name f), D.int IntKind.i64 (Fm.n f), D.sl (List.map Tm.d (Fm.ts f)), D.sl (List.map
    Bd.d (Fm.bs f)), D.sl (List.map Fm.d (Fm.l f))]])
  · kernel_rfl
  rfl

noncomputable def c15 : Code := unScope (loopN (bodyOf Tryd.f15) 0)
def tm15 : List AV := [.any, .any, .any, .ptr 1 0, .any, .any, .any, .any, .any, .any]
noncomputable def h15 (f0 : Fm) (k : Int) : List Box := [.cells 26 (fmAVs f0), .cells 3 [.d (.int .i64 k)], .loop tm15 (rpPs c15) (rpAsn c15) (rpBd c15) none .ready]

theorem yld15 (f0 x : Fm) (k : Int) : PYield Tryd.prog G 2 [.d (.agg (fmCells x))] (h15 f0 k) (fun rs H' => rs = [.bool true] ∧ H' = h15 f0 (IntKind.wrap .i64 (k + 1))) := by
  refine PYield.walk (tm := tm15) (ps := rpPs c15) (asn := rpAsn c15) (bd := rpBd c15) mixed L0 rfl (by kernel_rfl) rfl rfl ⟨_, _, rfl, rfl⟩ (fun _ => ok0 (by kernel_rfl)) (fun _ => ok0 (by kernel_rfl)) ?_
  apply @of_vc _ (
    [D.bool true] = [D.bool true] ∧ [Box.cells (26 : Nat) [AV.d (D.int IntKind.i64 (Fm.kind f0)), AV.d (D.str (Fm.name f0)), AV.d (D.int IntKind.i64 (Fm.n f0)), AV.d (D.sl (List.map Tm.d
    (Fm.ts f0))), AV.d (D.sl (List.map Bd.d (Fm.bs f0))), AV.d (D.sl (List.map Fm.d (Fm.l f0)))], Box.cells (3 : Nat) [AV.d (D.int IntKind.i64 (IntKind.wrap IntKind.i64 (k + (1 : Int))))],
    Box.loop [AV.any, AV.any, AV.any, AV.ptr (1 : Nat) (0 : Nat), AV.any, AV.any, AV.any, AV.any, AV.any, AV.any] (rpPs c15) (rpAsn c15) (rpBd c15) none LoopState.ready] = [Box.cells (26 :
    Nat) [AV.d (D.int IntKind.i64 (Fm.kind f0)), AV.d (D.str (Fm.name f0)), AV.d (D.int IntKind.i64 (Fm.n f0)), AV.d (D.sl (List.map Tm.d (Fm.ts f0))), AV.d (D.sl (List.map Bd.d (Fm.bs
    f0))), AV.d (D.sl (List.map Fm.d (Fm.l f0)))], Box.cells (3 : Nat) [AV.d (D.int IntKind.i64 (IntKind.wrap IntKind.i64 (k + (1 : Int))))], Box.loop [AV.any, AV.any, AV.any, AV.ptr (1 :
    Nat) (0 : Nat), AV.any, AV.any, AV.any, AV.any, AV.any, AV.any] (rpPs c15) (rpAsn c15) (rpBd c15) none LoopState.ready])
  · kernel_rfl
  exact ⟨rfl, rfl⟩

theorem fn41s (f0 x : Fm) (k : Int) (h0 : 0 ≤ k) (hk : k + x.rank < 4611686018427387904) : PCall Tryd.prog G 41 [.d x.d, .yld 2] (h15 f0 k) (fun rs H' => rs = [.bool true] ∧ H' = h15 f0 (k + x.rank)) := by
  induction x using Fm.induct generalizing k with
  | h x ih =>
  have hr := x.rank_eq
  rw [d_cells]
  refine PCall.walk (fn := Tryd.f41) (code := bodyOf Tryd.f41) mixed
    (LL [(4, loopW (α := Nat) Tryd.prog G L0 3 (loopN (bodyOf Tryd.f41) 0) [1, 2, 12, 13] (fun i => i ≤ x.l.length) (fun i => x.l.length - i)
      (fun i => [(14, .d (.int .i64 i))]) (fun H i => h15 f0 (k + 1 + (Fm.ranks (x.l.take i) : Int)) ++ H.drop 3))])
    Tryd.func41 (by kernel_rfl) rfl ⟨_, _, rfl, rfl⟩ (LoopsOk.one (b1 := loopN (bodyOf Tryd.f41) 0) (by kernel_rfl) (by kernel_rfl) (loopW_sound mixed (ok0 (by kernel_rfl)))) ?_
  apply @of_vc _ (
    PYield Tryd.prog G (2 : Nat) [AV.d (D.agg [D.int IntKind.i64 (Fm.kind x), D.str (Fm.name x), D.int IntKind.i64 (Fm.n x), D.sl (List.map Tm.d (Fm.ts x)), D.sl (List.map Bd.d (Fm.bs x)),
    D.sl (List.map Fm.d (Fm.l x))])] [Box.cells (26 : Nat) [AV.d (D.int IntKind.i64 (Fm.kind f0)), AV.d (D.str (Fm.name f0)), AV.d (D.int IntKind.i64 (Fm.n f0)), AV.d (D.sl (List.map Tm.d
    (Fm.ts f0))), AV.d (D.sl (List.map Bd.d (Fm.bs f0))), AV.d (D.sl (List.map Fm.d (Fm.l f0)))], Box.cells (3 : Nat) [AV.d (D.int IntKind.i64 k)], Box.loop [AV.any, AV.any, AV.any, AV.ptr
    (1 : Nat) (0 : Nat), AV.any, AV.any, AV.any, AV.any, AV.any, AV.any] (rpPs c15) (rpAsn c15) (rpBd c15) none LoopState.ready] fun (rs : List D) (H' : List Box) => ∃ (b : Bool), rs =
    [D.bool b] ∧ ∃ (n : Int), ∃ (s : List UInt8), ∃ (n_1 : Int), ∃ (l : List D), ∃ (l_1 : List D), ∃ (l_2 : List D), ∃ (n_2 : Int), ∃ (pend : Option Code), ∃ (st : LoopState), H' =
    [Box.cells (26 : Nat) [AV.d (D.int IntKind.i64 n), AV.d (D.str s), AV.d (D.int IntKind.i64 n_1), AV.d (D.sl l), AV.d (D.sl l_1), AV.d (D.sl l_2)], Box.cells (3 : Nat) [AV.d (D.int
    IntKind.i64 n_2)], Box.loop [AV.any, AV.any, AV.any, AV.ptr (1 : Nat) (0 : Nat), AV.any, AV.any, AV.any, AV.any, AV.any, AV.any] (rpPs c15) (rpAsn c15) (rpBd c15) pend st] ∧ ((!b) = true
    → [D.bool false] = [D.bool true] ∧ [Box.cells (26 : Nat) [AV.d (D.int IntKind.i64 n), AV.d (D.str s), AV.d (D.int IntKind.i64 n_1), AV.d (D.sl l), AV.d (D.sl l_1), AV.d (D.sl l_2)],
    Box.cells (3 : Nat) [AV.d (D.int IntKind.i64 n_2)], Box.loop [AV.any, AV.any, AV.any, AV.ptr (1 : Nat) (0 : Nat), AV.any, AV.any, AV.any, AV.any, AV.any, AV.any] (rpPs c15) (rpAsn c15)
    (rpBd c15) pend st] = [Box.cells (26 : Nat) [AV.d (D.int IntKind.i64 (Fm.kind f0)), AV.d (D.str (Fm.name f0)), AV.d (D.int IntKind.i64 (Fm.n f0)), AV.d (D.sl (List.map Tm.d (Fm.ts f0))),
    AV.d (D.sl (List.map Bd.d (Fm.bs f0))), AV.d (D.sl (List.map Fm.d (Fm.l f0)))], Box.cells (3 : Nat) [AV.d (D.int IntKind.i64 (k + (↑(Fm.rank x) : Int)))], Box.loop [AV.any, AV.any,
    AV.any, AV.ptr (1 : Nat) (0 : Nat), AV.any, AV.any, AV.any, AV.any, AV.any, AV.any] (rpPs c15) (rpAsn c15) (rpBd c15) none LoopState.ready]) ∧ ((!b) = false → ∃ (x0 : Nat), x0 ≤
    List.length (Fm.l x) ∧ ((AV.yld (2 : Nat) = AV.yld (2 : Nat) ∧ AV.ptr (3 : Nat) (0 : Nat) = AV.ptr (3 : Nat) (0 : Nat) ∧ List.map Fm.d (Fm.l x) = List.map Fm.d (Fm.l x) ∧ (↑(List.length
    (List.map Fm.d (Fm.l x))) : Int) = (↑(List.length (List.map Fm.d (Fm.l x))) : Int) ∧ (0 : Int) = (↑x0 : Int) ∧ True) ∧ (n = Fm.kind f0 ∧ s = Fm.name f0 ∧ n_1 = Fm.n f0 ∧ l = List.map
    Tm.d (Fm.ts f0) ∧ l_1 = List.map Bd.d (Fm.bs f0) ∧ l_2 = List.map Fm.d (Fm.l f0) ∧ True) ∧ (n_2 = k + (1 : Int) + (↑(Fm.ranks (List.take x0 (Fm.l x))) : Int) ∧ True) ∧ Box.loop [AV.any,
    AV.any, AV.any, AV.ptr (1 : Nat) (0 : Nat), AV.any, AV.any, AV.any, AV.any, AV.any, AV.any] (rpPs c15) (rpAsn c15) (rpBd c15) pend st = Box.loop [AV.any, AV.any, AV.any, AV.ptr (1 : Nat)
    (0 : Nat), AV.any, AV.any, AV.any, AV.any, AV.any, AV.any] (rpPs c15) (rpAsn c15) (rpBd c15) none LoopState.ready ∧ (Fm.kind x = Fm.kind x ∧ Fm.name x = Fm.name x ∧ Fm.n x = Fm.n x ∧
    List.map Tm.d (Fm.ts x) = List.map Tm.d (Fm.ts x) ∧ List.map Bd.d (Fm.bs x) = List.map Bd.d (Fm.bs x) ∧ List.map Fm.d (Fm.l x) = List.map Fm.d (Fm.l x) ∧ True) ∧ True) ∧ ∀ (x_1 : Nat),
    x_1 ≤ List.length (Fm.l x) → (decide ((↑x_1 : Int) < (↑(List.length (List.map Fm.d (Fm.l x))) : Int)) = true → ((0 : Int) ≤ (↑x_1 : Int) ∧ (List.map Fm.d (Fm.l x))[Int.toNat (↑x_1 :
    Int)]? = some (aggAt [Sh.int IntKind.i64, Sh.str, Sh.int IntKind.i64, Sh.sl, Sh.sl, Sh.sl] (List.map Fm.d (Fm.l x)) (Int.toNat (↑x_1 : Int)))) ∧ PCall Tryd.prog G (41 : Nat) [AV.d (aggAt
    [Sh.int IntKind.i64, Sh.str, Sh.int IntKind.i64, Sh.sl, Sh.sl, Sh.sl] (List.map Fm.d (Fm.l x)) (Int.toNat (↑x_1 : Int))), AV.yld (2 : Nat)] [Box.cells (26 : Nat) [AV.d (D.int IntKind.i64
    (Fm.kind f0)), AV.d (D.str (Fm.name f0)), AV.d (D.int IntKind.i64 (Fm.n f0)), AV.d (D.sl (List.map Tm.d (Fm.ts f0))), AV.d (D.sl (List.map Bd.d (Fm.bs f0))), AV.d (D.sl (List.map Fm.d
    (Fm.l f0)))], Box.cells (3 : Nat) [AV.d (D.int IntKind.i64 (k + (1 : Int) + (↑(Fm.ranks (List.take x_1 (Fm.l x))) : Int)))], Box.loop [AV.any, AV.any, AV.any, AV.ptr (1 : Nat) (0 : Nat),
    AV.any, AV.any, AV.any, AV.any, AV.any, AV.any] (rpPs c15) (rpAsn c15) (rpBd c15) none LoopState.ready] fun (rs : List D) (H' : List Box) => ∃ (b : Bool), rs = [D.bool b] ∧ ∃ (n : Int),
    ∃ (s : List UInt8), ∃ (n_3 : Int), ∃ (l : List D), ∃ (l_3 : List D), ∃ (l_4 : List D), ∃ (n_4 : Int), ∃ (pend : Option Code), ∃ (st : LoopState), H' = [Box.cells (26 : Nat) [AV.d (D.int
    IntKind.i64 n), AV.d (D.str s), AV.d (D.int IntKind.i64 n_3), AV.d (D.sl l), AV.d (D.sl l_3), AV.d (D.sl l_4)], Box.cells (3 : Nat) [AV.d (D.int IntKind.i64 n_4)], Box.loop [AV.any,
    AV.any, AV.any, AV.ptr (1 : Nat) (0 : Nat), AV.any, AV.any, AV.any, AV.any, AV.any, AV.any] (rpPs c15) (rpAsn c15) (rpBd c15) pend st] ∧ ((!b) = true → [D.bool false] = [D.bool true] ∧
    [Box.cells (26 : Nat) [AV.d (D.int IntKind.i64 n), AV.d (D.str s), AV.d (D.int IntKind.i64 n_3), AV.d (D.sl l), AV.d (D.sl l_3), AV.d (D.sl l_4)], Box.cells (3 : Nat) [AV.d (D.int
    IntKind.i64 n_4)], Box.loop [AV.any, AV.any, AV.any, AV.ptr (1 : Nat) (0 : Nat), AV.any, AV.any, AV.any, AV.any, AV.any, AV.any] (rpPs c15) (rpAsn c15) (rpBd c15) pend st] = [Box.cells
    (26 : Nat) [AV.d (D.int IntKind.i64 (Fm.kind f0)), AV.d (D.str (Fm.name f0)), AV.d (D.int IntKind.i64 (Fm.n f0)), AV.d (D.sl (List.map Tm.d (Fm.ts f0))), AV.d (D.sl (List.map Bd.d (Fm.bs
    f0))), AV.d (D.sl (List.map Fm.d (Fm.l f0)))], Box.cells (3 : Nat) [AV.d (D.int IntKind.i64 (k + (↑(Fm.rank x) : Int)))], Box.loop [AV.any, AV.any, AV.any, AV.ptr (1 : Nat) (0 : Nat),
    AV.any, AV.any, AV.any, AV.any, AV.any, AV.any] (rpPs c15) (rpAsn c15) (rpBd c15) none LoopState.ready]) ∧ ((!b) = false → ∃ (y : Nat), y ≤ List.length (Fm.l x) ∧ List.length (Fm.l x) -
    y < List.length (Fm.l x) - x_1 ∧ (AV.yld (2 : Nat) = AV.yld (2 : Nat) ∧ AV.ptr (3 : Nat) (0 : Nat) = AV.ptr (3 : Nat) (0 : Nat) ∧ List.map Fm.d (Fm.l x) = List.map Fm.d (Fm.l x) ∧
    (↑(List.length (List.map Fm.d (Fm.l x))) : Int) = (↑(List.length (List.map Fm.d (Fm.l x))) : Int) ∧ IntKind.wrap IntKind.i64 ((↑x_1 : Int) + (1 : Int)) = (↑y : Int) ∧ True) ∧ (n =
    Fm.kind f0 ∧ s = Fm.name f0 ∧ n_3 = Fm.n f0 ∧ l = List.map Tm.d (Fm.ts f0) ∧ l_3 = List.map Bd.d (Fm.bs f0) ∧ l_4 = List.map Fm.d (Fm.l f0) ∧ True) ∧ (n_4 = k + (1 : Int) + (↑(Fm.ranks
    (List.take y (Fm.l x))) : Int) ∧ True) ∧ Box.loop [AV.any, AV.any, AV.any, AV.ptr (1 : Nat) (0 : Nat), AV.any, AV.any, AV.any, AV.any, AV.any, AV.any] (rpPs c15) (rpAsn c15) (rpBd c15)
    pend st = Box.loop [AV.any, AV.any, AV.any, AV.ptr (1 : Nat) (0 : Nat), AV.any, AV.any, AV.any, AV.any, AV.any, AV.any] (rpPs c15) (rpAsn c15) (rpBd c15) none LoopState.ready ∧ (Fm.kind
    x = Fm.kind x ∧ Fm.name x = Fm.name x ∧ Fm.n x = Fm.n x ∧ List.map Tm.d (Fm.ts x) = List.map Tm.d (Fm.ts x) ∧ List.map Bd.d (Fm.bs x) = List.map Bd.d (Fm.bs x) ∧ List.map Fm.d (Fm.l x) =
    List.map Fm.d (Fm.l x) ∧ True) ∧ True)) ∧ (decide ((↑x_1 : Int) < (↑(List.length (List.map Fm.d (Fm.l x))) : Int)) = false → [D.bool true] = [D.bool true] ∧ [Box.cells (26 : Nat) [AV.d
    (D.int IntKind.i64 (Fm.kind f0)), AV.d (D.str (Fm.name f0)), AV.d (D.int IntKind.i64 (Fm.n f0)), AV.d (D.sl (List.map Tm.d (Fm.ts f0))), AV.d (D.sl (List.map Bd.d (Fm.bs f0))), AV.d
    (D.sl (List.map Fm.d (Fm.l f0)))], Box.cells (3 : Nat) [AV.d (D.int IntKind.i64 (k + (1 : Int) + (↑(Fm.ranks (List.take x_1 (Fm.l x))) : Int)))], Box.loop [AV.any, AV.any, AV.any, AV.ptr
    (1 : Nat) (0 : Nat), AV.any, AV.any, AV.any, AV.any, AV.any, AV.any] (rpPs c15) (rpAsn c15) (rpBd c15) none LoopState.ready] = [Box.cells (26 : Nat) [AV.d (D.int IntKind.i64 (Fm.kind
    f0)), AV.d (D.str (Fm.name f0)), AV.d (D.int IntKind.i64 (Fm.n f0)), AV.d (D.sl (List.map Tm.d (Fm.ts f0))), AV.d (D.sl (List.map Bd.d (Fm.bs f0))), AV.d (D.sl (List.map Fm.d (Fm.l
    f0)))], Box.cells (3 : Nat) [AV.d (D.int IntKind.i64 (k + (↑(Fm.rank x) : Int)))], Box.loop [AV.any, AV.any, AV.any, AV.ptr (1 : Nat) (0 : Nat), AV.any, AV.any, AV.any, AV.any, AV.any,
    AV.any] (rpPs c15) (rpAsn c15) (rpBd c15) none LoopState.ready])))
  · kernel_rfl
  refine (yld15 f0 x k).mono ?_
  rintro rs H' ⟨rfl, rfl⟩
  refine ⟨true, rfl, _, _, _, _, _, _, _, _, _, rfl, fun h => absurd h (by decide), fun _ => ⟨0, by omega, ⟨⟨rfl, rfl, rfl, rfl, rfl, trivial⟩, ⟨rfl, rfl, rfl, rfl, rfl, rfl, trivial⟩, ⟨?_, trivial⟩, rfl, ⟨rfl, rfl, rfl, rfl, rfl, rfl, trivial⟩, trivial⟩, fun i hi => ⟨fun hlt => ?_, fun hge => ?_⟩⟩⟩
  · rw [wrap64 (by omega) (by omega)]; simp [Fm.ranks]
  · simp only [List.length_map, decide_eq_true_eq] at hlt
    obtain ⟨z, hz, hm⟩ := get_nat (l := x.l) (x := i) (by omega)
    rw [Int.toNat_natCast, agg_fm hz]
    refine ⟨⟨by omega, by simp [hz]⟩, ?_⟩
    have h1 := ranks_take_succ hz
    have h2 := ranks_take_le x.l (i + 1)
    have h3 := ranks_len x.l
    refine (ih z hm _ (by omega) (by omega)).mono ?_
    rintro rs H' ⟨rfl, rfl⟩
    refine ⟨true, rfl, _, _, _, _, _, _, _, _, _, rfl, fun h => absurd h (by decide), fun _ => ⟨i + 1, by omega, by omega, ⟨rfl, rfl, rfl, rfl, ?_, trivial⟩, ⟨rfl, rfl, rfl, rfl, rfl, rfl, trivial⟩, ⟨?_, trivial⟩, rfl, ⟨rfl, rfl, rfl, rfl, rfl, rfl, trivial⟩, trivial⟩⟩
    · rw [wrap64 (by omega) (by omega)]; simp
    · rw [h1]; omega
  · simp only [List.length_map, decide_eq_false_iff_not] at hge
    rw [List.take_of_length_le (by omega)]
    have e : k + 1 + (Fm.ranks x.l : Int) = k + x.rank := by omega
    rw [e]
    exact ⟨rfl, rfl⟩

theorem fn40s (f0 x : Fm) (k : Int) (h0 : 0 ≤ k) (hk : k + x.rank < 4611686018427387904) : PCall Tryd.prog G 40 [.yld 2, .iptr (fmCells x)] (h15 f0 k) (fun _ H' => H' = h15 f0 (k + x.rank)) := by
  refine PCall.walk (fn := Tryd.f40) (code := bodyOf Tryd.f40) mixed L0 Tryd.func40 (by kernel_rfl) rfl ⟨[], _, rfl⟩ (ok0 (by kernel_rfl)) ?_
  apply @of_vc _ (
    PCall Tryd.prog G (41 : Nat) [AV.d (D.agg [D.int IntKind.i64 (Fm.kind x), D.str (Fm.name x), D.int IntKind.i64 (Fm.n x), D.sl (List.map Tm.d (Fm.ts x)), D.sl (List.map Bd.d (Fm.bs x)),
    D.sl (List.map Fm.d (Fm.l x))]), AV.yld (2 : Nat)] [Box.cells (26 : Nat) [AV.d (D.int IntKind.i64 (Fm.kind f0)), AV.d (D.str (Fm.name f0)), AV.d (D.int IntKind.i64 (Fm.n f0)), AV.d (D.sl
    (List.map Tm.d (Fm.ts f0))), AV.d (D.sl (List.map Bd.d (Fm.bs f0))), AV.d (D.sl (List.map Fm.d (Fm.l f0)))], Box.cells (3 : Nat) [AV.d (D.int IntKind.i64 k)], Box.loop [AV.any, AV.any,
    AV.any, AV.ptr (1 : Nat) (0 : Nat), AV.any, AV.any, AV.any, AV.any, AV.any, AV.any] (rpPs c15) (rpAsn c15) (rpBd c15) none LoopState.ready] fun (rs : List D) (H' : List Box) => ∃ (b :
    Bool), rs = [D.bool b] ∧ ∃ (n : Int), ∃ (s : List UInt8), ∃ (n_1 : Int), ∃ (l : List D), ∃ (l_1 : List D), ∃ (l_2 : List D), ∃ (n_2 : Int), ∃ (pend : Option Code), ∃ (st : LoopState), H'
    = [Box.cells (26 : Nat) [AV.d (D.int IntKind.i64 n), AV.d (D.str s), AV.d (D.int IntKind.i64 n_1), AV.d (D.sl l), AV.d (D.sl l_1), AV.d (D.sl l_2)], Box.cells (3 : Nat) [AV.d (D.int
    IntKind.i64 n_2)], Box.loop [AV.any, AV.any, AV.any, AV.ptr (1 : Nat) (0 : Nat), AV.any, AV.any, AV.any, AV.any, AV.any, AV.any] (rpPs c15) (rpAsn c15) (rpBd c15) pend st] ∧ [Box.cells
    (26 : Nat) [AV.d (D.int IntKind.i64 n), AV.d (D.str s), AV.d (D.int IntKind.i64 n_1), AV.d (D.sl l), AV.d (D.sl l_1), AV.d (D.sl l_2)], Box.cells (3 : Nat) [AV.d (D.int IntKind.i64
    n_2)], Box.loop [AV.any, AV.any, AV.any, AV.ptr (1 : Nat) (0 : Nat), AV.any, AV.any, AV.any, AV.any, AV.any, AV.any] (rpPs c15) (rpAsn c15) (rpBd c15) pend st] = [Box.cells (26 : Nat)
    [AV.d (D.int IntKind.i64 (Fm.kind f0)), AV.d (D.str (Fm.name f0)), AV.d (D.int IntKind.i64 (Fm.n f0)), AV.d (D.sl (List.map Tm.d (Fm.ts f0))), AV.d (D.sl (List.map Bd.d (Fm.bs f0))),
    AV.d (D.sl (List.map Fm.d (Fm.l f0)))], Box.cells (3 : Nat) [AV.d (D.int IntKind.i64 (k + (↑(Fm.rank x) : Int)))], Box.loop [AV.any, AV.any, AV.any, AV.ptr (1 : Nat) (0 : Nat), AV.any,
    AV.any, AV.any, AV.any, AV.any, AV.any] (rpPs c15) (rpAsn c15) (rpBd c15) none LoopState.ready])
  · kernel_rfl
  have h := fn41s (G := G) f0 x k h0 hk
  rw [d_cells] at h
  refine h.mono ?_
  rintro rs H' ⟨rfl, rfl⟩
  exact ⟨true, rfl, _, _, _, _, _, _, _, _, _, rfl, rfl⟩

theorem fn15 (f : Fm) (hf : f.rank < 4611686018427387904) : PFn Tryd.prog G 15 [f.d] (· = [.int .i64 f.rank]) := by
  rw [f.d_eq]
  refine PFn.walk (fn := Tryd.f15) (code := bodyOf Tryd.f15) mixed
    (LL [(1000002, rangeW Tryd.prog G [3] itAll c15)])
    Tryd.func15 (by kernel_rfl) ⟨_, rfl⟩ (LoopsOk.one (b1 := loopN (bodyOf Tryd.f15) 0) (by kernel_rfl) (by kernel_rfl) (rangeW_sound (by kernel_rfl))) ?_
  apply @of_vc _ (
    (PFnA Tryd.prog G (30 : Nat) [D.agg [D.int IntKind.i64 (Fm.kind f), D.str (Fm.name f), D.int IntKind.i64 (Fm.n f), D.sl (List.map Tm.d (Fm.ts f)), D.sl (List.map Bd.d (Fm.bs f)), D.sl
    (List.map Fm.d (Fm.l f))]] fun (av : AV) => av = AV.clo (40 : Nat) [] [AV.iptr [D.int IntKind.i64 (Fm.kind f), D.str (Fm.name f), D.int IntKind.i64 (Fm.n f), D.sl (List.map Tm.d (Fm.ts
    f)), D.sl (List.map Bd.d (Fm.bs f)), D.sl (List.map Fm.d (Fm.l f))]]) ∧ PCall Tryd.prog G (40 : Nat) [AV.yld (2 : Nat), AV.iptr [D.int IntKind.i64 (Fm.kind f), D.str (Fm.name f), D.int
    IntKind.i64 (Fm.n f), D.sl (List.map Tm.d (Fm.ts f)), D.sl (List.map Bd.d (Fm.bs f)), D.sl (List.map Fm.d (Fm.l f))]] [Box.cells (26 : Nat) [AV.d (D.int IntKind.i64 (Fm.kind f)), AV.d
    (D.str (Fm.name f)), AV.d (D.int IntKind.i64 (Fm.n f)), AV.d (D.sl (List.map Tm.d (Fm.ts f))), AV.d (D.sl (List.map Bd.d (Fm.bs f))), AV.d (D.sl (List.map Fm.d (Fm.l f)))], Box.cells (3
    : Nat) [AV.d (D.int IntKind.i64 (0 : Int))], Box.loop [AV.any, AV.any, AV.any, AV.ptr (1 : Nat) (0 : Nat), AV.any, AV.any, AV.any, AV.any, AV.any, AV.any] (rpPs c15) (rpAsn c15) (rpBd
    c15) none LoopState.ready] fun (x : List D) (H' : List Box) => ∃ (n : Int), ∃ (s : List UInt8), ∃ (n_1 : Int), ∃ (l : List D), ∃ (l_1 : List D), ∃ (l_2 : List D), ∃ (n_2 : Int), ∃ (pend
    : Option Code), ∃ (st : LoopState), H' = [Box.cells (26 : Nat) [AV.d (D.int IntKind.i64 n), AV.d (D.str s), AV.d (D.int IntKind.i64 n_1), AV.d (D.sl l), AV.d (D.sl l_1), AV.d (D.sl
    l_2)], Box.cells (3 : Nat) [AV.d (D.int IntKind.i64 n_2)], Box.loop [AV.any, AV.any, AV.any, AV.ptr (1 : Nat) (0 : Nat), AV.any, AV.any, AV.any, AV.any, AV.any, AV.any] (rpPs c15) (rpAsn
    c15) (rpBd c15) pend st] ∧ st ≠ LoopState.busy ∧ (pend = none ∧ [D.int IntKind.i64 n_2] = [D.int IntKind.i64 (↑(Fm.rank f) : Int)] ∨ pend = some Code.ret ∧ [D.int IntKind.i64 (0 : Int)]
    = [D.int IntKind.i64 (↑(Fm.rank f) : Int)] ∨ pend = some (Code.exit (rpJ c15)) ∧ [D.int IntKind.i64 n_2] = [D.int IntKind.i64 (↑(Fm.rank f) : Int)]))
  · kernel_rfl
  refine ⟨fn30 f, ?_⟩
  refine (fn40s f f 0 (by omega) (by omega)).mono ?_
  rintro rs H' rfl
  exact ⟨_, _, _, _, _, _, _, _, _, rfl, by decide, .inl ⟨rfl, by simp⟩⟩
end
end Go.Fo
/- The laying of strings.Trim and all that it calls at this program: written by the kit's tool lay-plain. -/
namespace Go.Proofs
open Go.Shelf
def Tryd.lays160_ren : Go.Shelf.Ren := ⟨fun | 160 => 64 | 232 => 71 | 231 => 70 | 227 => 72 | 234 => 74 | 233 => 73 | 236 => 76 | 235 => 75 | 228 => 79 | 271 => 82 | 151 => 81 | 197 => 80 | 120 => 85 | 152 => 84 | 260 => 83 | 137 => 86 | 119 => 87 | 224 => 88 | 225 => 89 | 217 => 90 | 266 => 91 | n => n, fun | 9 => 9 | 4 => 4 | 3 => 3 | 5 => 5 | 117 => 80 | 116 => 79 | 0 => 0 | 124 => 83 | 21 => 21 | 105 => 86 | 46 => 91 | 119 => 90 | 139 => 94 | 138 => 93 | n => n, fun | 3 => 4 | 4 => 5 | n => n⟩
theorem Tryd.lays160 : Go.Proofs.Lays.n160 Tryd.prog Tryd.lays160_ren := {
  mixed := by kernel_rfl
  f119 := Tryd.func87.trans (congrArg some (by kernel_rfl))
  f120 := Tryd.func85.trans (congrArg some (by kernel_rfl))
  f137 := Tryd.func86.trans (congrArg some (by kernel_rfl))
  f151 := Tryd.func81.trans (congrArg some (by kernel_rfl))
  f152 := Tryd.func84.trans (congrArg some (by kernel_rfl))
  f160 := Tryd.func64.trans (congrArg some (by kernel_rfl))
  f197 := Tryd.func80.trans (congrArg some (by kernel_rfl))
  f217 := Tryd.func90.trans (congrArg some (by kernel_rfl))
  f224 := Tryd.func88.trans (congrArg some (by kernel_rfl))
  f225 := Tryd.func89.trans (congrArg some (by kernel_rfl))
  f227 := Tryd.func72.trans (congrArg some (by kernel_rfl))
  f228 := Tryd.func79.trans (congrArg some (by kernel_rfl))
  f231 := Tryd.func70.trans (congrArg some (by kernel_rfl))
  f232 := Tryd.func71.trans (congrArg some (by kernel_rfl))
  f233 := Tryd.func73.trans (congrArg some (by kernel_rfl))
  f234 := Tryd.func74.trans (congrArg some (by kernel_rfl))
  f235 := Tryd.func75.trans (congrArg some (by kernel_rfl))
  f236 := Tryd.func76.trans (congrArg some (by kernel_rfl))
  f260 := Tryd.func83.trans (congrArg some (by kernel_rfl))
  f266 := Tryd.func91.trans (congrArg some (by kernel_rfl))
  f271 := Tryd.func82.trans (congrArg some (by kernel_rfl))
  t0 := Tryd.underlying0
  a0 := Tryd.isAgg0
  z0 := Tryd.sizeOf0
  v0 := Tryd.zeroValue0
  t3 := Tryd.underlying3
  a3 := Tryd.isAgg3
  z3 := Tryd.sizeOf3
  v3 := Tryd.zeroValue3
  t4 := Tryd.underlying4
  a4 := Tryd.isAgg4
  z4 := Tryd.sizeOf4
  v4 := Tryd.zeroValue4
  t5 := Tryd.underlying5
  a5 := Tryd.isAgg5
  z5 := Tryd.sizeOf5
  v5 := Tryd.zeroValue5
  t9 := Tryd.underlying9
  a9 := Tryd.isAgg9
  z9 := Tryd.sizeOf9
  v9 := Tryd.zeroValue9
  t21 := Tryd.underlying21
  a21 := Tryd.isAgg21
  z21 := Tryd.sizeOf21
  v21 := Tryd.zeroValue21
  t46 := Tryd.underlying91
  a46 := Tryd.isAgg91
  z46 := Tryd.sizeOf91
  v46 := Tryd.zeroValue91
  t105 := Tryd.underlying86
  a105 := Tryd.isAgg86
  z105 := Tryd.sizeOf86
  v105 := Tryd.zeroValue86
  t116 := Tryd.underlying79
  a116 := Tryd.isAgg79
  z116 := Tryd.sizeOf79
  t117 := Tryd.underlying80
  a117 := Tryd.isAgg80
  z117 := Tryd.sizeOf80
  v117 := Tryd.zeroValue80
  t119 := Tryd.underlying90
  a119 := Tryd.isAgg90
  z119 := Tryd.sizeOf90
  t124 := Tryd.underlying83
  a124 := Tryd.isAgg83
  z124 := Tryd.sizeOf83
  v124 := Tryd.zeroValue83
  t138 := Tryd.underlying93
  a138 := Tryd.isAgg93
  z138 := Tryd.sizeOf93
  v138 := Tryd.zeroValue93
  t139 := Tryd.underlying94
  a139 := Tryd.isAgg94
  z139 := Tryd.sizeOf94
  v139 := Tryd.zeroValue94
  g3 := by kernel_rfl
  g4 := by kernel_rfl }
end Go.Proofs
/- Names: two tests that agree. -/
namespace Go.Fo
open Go Go.Sx
set_option maxRecDepth 100000

def cut49 : List UInt8 := [97, 98, 99, 100, 101, 102, 103, 104, 105, 106, 107, 108, 109, 110, 111, 112, 113, 114, 115, 116, 117, 118, 119, 120, 121, 122, 48, 49, 50, 51, 52, 53, 54, 55, 56, 57, 95]
def words : List (List UInt8) := [[104, 97, 114, 100], [115, 111, 102, 116], [101, 97, 99, 104], [97, 108, 108], [115, 111, 109, 101], [108, 101, 97, 115, 116], [109, 111, 115, 116], [116, 114, 117, 101], [102, 97, 108, 115, 101], [97, 116], [105, 110], [116, 101, 97, 99, 104, 101, 115], [97, 116, 116, 101, 110, 100, 115], [97, 119, 97, 121], [115, 104, 117, 116], [100, 97, 121], [104, 111, 117, 114], [104, 111, 117, 115, 101], [115, 101, 97, 116, 115], [115, 105, 122, 101], [108, 101, 115, 115, 111, 110], [115, 108, 111, 116], [114, 111, 111, 109], [112, 101, 114, 115, 111, 110], [103, 114, 111, 117, 112]]
def namedB (s : List UInt8) : Bool := !(s == [] || decide (s.length > 64) || words.contains s) && (Lib.trimS s cut49 == [] && decide (97 ≤ (s.getD 0 0).toNat))

theorem dropWhile_nil {p : UInt8 → Bool} : ∀ {l : List UInt8}, l.dropWhile p = [] ↔ ∀ x ∈ l, p x = true
  | [] => by simp
  | a :: l => by
    rw [List.dropWhile_cons]
    cases h : p a with
    | true => simp [h, dropWhile_nil (l := l)]
    | false => simp [h]
theorem head_drop {p : UInt8 → Bool} : ∀ {l : List UInt8} {a : UInt8} {r : List UInt8}, l.dropWhile p = a :: r → p a = false
  | [], _, _, h => by simp at h
  | b :: l, a, r, h => by
    rw [List.dropWhile_cons] at h
    cases hb : p b with
    | true => rw [hb] at h; exact head_drop (l := l) h
    | false => rw [hb] at h; simp at h; rw [← h.1]; exact hb

theorem trimS_nil {s cs : List UInt8} : Lib.trimS s cs = [] ↔ ∀ b ∈ s, cs.contains b = true := by
  unfold Lib.trimS Lib.trimLeftS
  rw [dropWhile_nil]
  unfold Lib.trimRightS
  simp only [List.mem_reverse]
  constructor
  · intro h
    have h0 : s.reverse.dropWhile (fun x => cs.contains x) = [] := by
      cases h1 : s.reverse.dropWhile (fun x => cs.contains x) with
      | nil => rfl
      | cons a r =>
        have h2 := head_drop h1
        have h3 := h a (by rw [h1]; simp)
        rw [h3] at h2; cases h2
    rw [dropWhile_nil] at h0
    intro b hb
    exact h0 b (by simpa using hb)
  · intro h x hx
    exact h x (by simpa using (List.dropWhile_sublist _).subset hx)

theorem cut_all : ∀ n : Nat, n < 256 → cut49.contains (UInt8.ofNat n) = (letB (UInt8.ofNat n) || digB (UInt8.ofNat n) || decide ((UInt8.ofNat n).toNat = 95)) := by decide +kernel
theorem cut_byte (b : UInt8) : cut49.contains b = (letB b || digB b || decide (b.toNat = 95)) := by
  have := cut_all b.toNat b.toNat_lt
  simpa using this

theorem stands_at : ∀ i : Nat, i < 135 → resS[i]? = some 32 → (resS.drop (i + 1)).takeWhile (· != 32) = [] ∨ words.contains ((resS.drop (i + 1)).takeWhile (· != 32)) = true := by decide +kernel
theorem res_len : resS.length = 135 := by decide
theorem stands_words : words.all (fun s => standsB resS (32 :: s ++ [32])) = true := by decide +kernel

theorem stands_iff {s : List UInt8} (hs : ∀ b ∈ s, b ≠ 32) (h1 : s ≠ []) : standsB resS (32 :: s ++ [32]) = words.contains s := by
  cases hw : words.contains s with
  | true =>
    exact List.all_eq_true.1 stands_words s (by simpa using hw)
  | false =>
    cases h : standsB resS (32 :: s ++ [32]) with
    | false => rfl
    | true =>
      obtain ⟨i, hi, he⟩ := standsB_iff.1 h
      have hi' : i < 135 := by have := res_len; simp at hi; omega
      have hd : ∃ t, resS.drop i = 32 :: (s ++ [32] ++ t) := by
        refine ⟨(resS.drop i).drop (32 :: s ++ [32]).length, ?_⟩
        have := List.take_append_drop (32 :: s ++ [32]).length (resS.drop i)
        rw [he] at this
        rw [← this]; simp
      obtain ⟨t, ht⟩ := hd
      have h32 : resS[i]? = some 32 := by
        have : (resS.drop i)[0]? = some 32 := by rw [ht]; rfl
        simpa using this
      have hd1 : resS.drop (i + 1) = s ++ [32] ++ t := by
        have : (resS.drop i).tail = s ++ [32] ++ t := by rw [ht]; rfl
        rw [← this]; simp
      have htw : (resS.drop (i + 1)).takeWhile (· != 32) = s := by
        rw [hd1, List.append_assoc, List.takeWhile_append_of_pos (fun b hb => by simpa using hs b hb)]
        simp
      rcases stands_at i hi' h32 with h3 | h3
      · rw [htw] at h3; exact absurd h3 h1
      · rw [htw, hw] at h3; cases h3

theorem namedB_eq (s : List UInt8) : namedB s = nameB s := by
  have hnil : s = [] → namedB s = nameB s := by rintro rfl; rfl
  rcases Classical.em (s = []) with h0 | h0
  · exact hnil h0
  have hlen : 1 ≤ s.length := by
    cases s with
    | nil => exact absurd rfl h0
    | cons a r => simp
  -- both say: every byte in the set, the first a letter, at most 64, no word
  have hA : wordB s = (decide (s.length ≤ 64) && (Lib.trimS s cut49 == [] && decide (97 ≤ (s.getD 0 0).toNat))) := by
    rw [Bool.eq_iff_iff]
    simp only [wordB, Bool.and_eq_true, List.all_eq_true, List.mem_range, decide_eq_true_eq, beq_iff_eq, trimS_nil]
    constructor
    · rintro ⟨⟨h1, h2⟩, h3⟩
      refine ⟨h3, fun b hb => ?_, ?_⟩
      · obtain ⟨i, hi, rfl⟩ := List.mem_iff_getElem.1 hb
        have := h1 i hi
        rw [List.getD_eq_getElem?_getD, List.getElem?_eq_getElem hi, Option.getD_some] at this
        rw [cut_byte]
        unfold okAt at this
        cases hl : letB s[i] with
        | true => rfl
        | false =>
          rw [hl] at this
          simp only [Bool.false_or, Bool.and_eq_true] at this ⊢
          exact this.2
      · have := h1 0 (by omega)
        unfold okAt letB at this
        simp only [ne_eq, not_true_eq_false, decide_false, Bool.false_and, Bool.or_false, Bool.and_eq_true, decide_eq_true_eq] at this
        exact this.1
    · rintro ⟨h1, h2, h3⟩
      refine ⟨⟨fun i hi => ?_, hlen⟩, h1⟩
      rw [List.getD_eq_getElem?_getD, List.getElem?_eq_getElem hi, Option.getD_some]
      have h4 := h2 s[i] (List.getElem_mem hi)
      rw [cut_byte] at h4
      unfold okAt
      cases hl : letB s[i] with
      | true => rfl
      | false =>
        rw [hl] at h4
        simp only [Bool.false_or, Bool.and_eq_true] at h4 ⊢
        refine ⟨?_, h4⟩
        simp only [ne_eq, decide_eq_true_eq]
        rintro rfl
        rw [List.getD_eq_getElem?_getD, List.getElem?_eq_getElem hi, Option.getD_some] at h3
        unfold letB at hl
        unfold digB at h4
        simp only [Bool.or_eq_true, Bool.and_eq_true, decide_eq_true_eq, Bool.and_eq_false_iff, decide_eq_false_iff_not] at h4 hl
        omega
  have hB : (s == []) = false := by simpa using h0
  cases hw : wordB s with
  | false =>
    rw [nameB, hw, Bool.false_and]
    rw [hw] at hA
    unfold namedB
    rw [hB, Bool.false_or]
    cases hl : decide (s.length ≤ 64) with
    | true =>
      rw [hl, Bool.true_and] at hA
      rw [← hA, Bool.and_false]
    | false =>
      have : decide (s.length > 64) = true := by simp at hl ⊢; omega
      rw [this]; rfl
  | true =>
    rw [nameB, hw, Bool.true_and]
    rw [hw] at hA
    have h1 := hA.symm
    simp only [Bool.and_eq_true] at h1
    obtain ⟨h2, h3⟩ := h1
    have hn32 : ∀ b ∈ s, b ≠ 32 := by
      have h4 : Lib.trimS s cut49 = [] := by simpa using h3.1
      rw [trimS_nil] at h4
      intro b hb e
      have := h4 b hb
      rw [e] at this
      revert this; decide
    rw [stands_iff hn32 h0]
    unfold namedB
    have h5 : decide (s.length > 64) = false := by simp at h2 ⊢; omega
    rw [hB, h5, h3.1, h3.2]
    simp
end Go.Fo
/- Names: the program's own test by strings.Trim; terms. -/
namespace Go.Fo
open Go Go.Sx Go.Proofs
set_option maxRecDepth 100000

/-- The package's maps: arity, signs, duals, reserved. -/
structure Maps where
  ar : List (D × D)
  si : List (D × D)
  du : List (D × D)
  re : List (D × D)

def GG (M : Maps) : Nat → Option (List D)
  | 0 => some [.gmap M.ar]
  | 1 => some [.gmap M.si]
  | 2 => some [.gmap M.du]
  | 3 => some [.gmap M.re]
  | _ => none

def arL : List (Int × Int) := [(1, 0), (2, 0), (3, 0), (4, 0), (5, 0), (6, 0), (7, 0), (8, 0), (9, 0), (10, 1), (11, 2), (12, 2), (13, 2), (14, 1), (15, 1), (16, 1), (17, 1)]
def duL : List (Int × Int) := [(1, 2), (2, 1), (11, 12), (12, 11), (14, 15), (15, 14), (16, 17), (17, 16)]
def siL : List (List UInt8 × List UInt8) := [([33, 61], [61]), ([60], [62, 61]), ([60, 61], [62]), ([61], [33, 61]), ([62], [60, 61]), ([62, 61], [60])]

structure Maps.Ok (M : Maps) : Prop where
  arA : (M.ar.all fun kv => sameKind (.int .i64 0) kv.1 && Sh.ok (.int .i64) kv.2) = true
  siA : (M.si.all fun kv => sameKind (.str []) kv.1 && Sh.ok .str kv.2) = true
  duA : (M.du.all fun kv => sameKind (.int .i64 0) kv.1 && Sh.ok (.int .i64) kv.2) = true
  reA : (M.re.all fun kv => sameKind (.str []) kv.1 && Sh.ok .bool kv.2) = true
  arG : ∀ k, lookD M.ar (.int .i64 k) = (arL.lookup k).map (.int .i64)
  siG : ∀ s, lookD M.si (.str s) = (siL.lookup s).map .str
  duG : ∀ k, lookD M.du (.int .i64 k) = (duL.lookup k).map (.int .i64)
  reG : ∀ s, lookD M.re (.str s) = if words.contains s then some (.bool true) else none

theorem same_str (s : List UInt8) (x : D) : sameKind (.str s) x = sameKind (.str []) x := by cases x <;> rfl
theorem same_int (k : Int) (x : D) : sameKind (.int .i64 k) x = sameKind (.int .i64 0) x := by cases x <;> rfl

section
variable {G : Nat → Option (List D)} {M : Maps}
theorem fn64 (s : List UInt8) (hs : s.length ≤ 9223372036854775807) : PFn Tryd.prog G 64 [.str s, .str cut49] (· = [.str (Lib.trimS s cut49)]) := by
  refine PFn.of_calls (v := .string ⟨(Lib.trimS s cut49).toArray⟩) (fun I J w => R1.str _) fun c w vs hρ hr hvs => ?_
  obtain ⟨v1, vs1, rfl, h1, h2⟩ := hvs.cons_right
  obtain ⟨v2, vs2, rfl, h3, h4⟩ := h2.cons_right
  have := h4.nil_right; subst this
  cases h1; cases h3
  have h := Any.strings_Trim_laid Tryd.lays160 (by kernel_rfl) ⟨s.toArray⟩ ⟨cut49.toArray⟩ w (by rw [size_mk]; exact hs) (by decide) (ascii_of_all (by decide))
  exact h

theorem fn49 (hM : M.Ok) (s : List UInt8) (hs : s.length ≤ 9223372036854775807) : PFn Tryd.prog (GG M) 49 [.str s] (· = [.bool (nameB s)]) := by
  rw [← namedB_eq]
  refine PFn.walk (fn := Tryd.f49) (code := bodyOf Tryd.f49) mixed L0 Tryd.func49 (by kernel_rfl) ⟨_, rfl⟩ (ok0 (by kernel_rfl)) ?_
  apply @of_vc _ (
    ((bif s == Array.toList (ByteArray.data (ByteArray.mk #[])) then true else decide ((↑(List.length s) : Int) > (64 : Int))) = false → (List.all (Maps.re M) fun (kv : D × D) => sameKind
    (D.str s) (Prod.fst kv) && Sh.ok Sh.bool (Prod.snd kv)) = true) ∧ ((bif bif s == Array.toList (ByteArray.data (ByteArray.mk #[])) then true else decide ((↑(List.length s) : Int) > (64 :
    Int)) then true else D.toBool (Option.getD (lookD (Maps.re M) (D.str s)) (D.bool false))) = true → [D.bool false] = [D.bool (namedB s)]) ∧ ((bif bif s == Array.toList (ByteArray.data
    (ByteArray.mk #[])) then true else decide ((↑(List.length s) : Int) > (64 : Int)) then true else D.toBool (Option.getD (lookD (Maps.re M) (D.str s)) (D.bool false))) = false → PFn
    Tryd.prog (GG M) (64 : Nat) [D.str s, D.str (Array.toList (ByteArray.data (ByteArray.mk #[(97 : UInt8), (98 : UInt8), (99 : UInt8), (100 : UInt8), (101 : UInt8), (102 : UInt8), (103 :
    UInt8), (104 : UInt8), (105 : UInt8), (106 : UInt8), (107 : UInt8), (108 : UInt8), (109 : UInt8), (110 : UInt8), (111 : UInt8), (112 : UInt8), (113 : UInt8), (114 : UInt8), (115 :
    UInt8), (116 : UInt8), (117 : UInt8), (118 : UInt8), (119 : UInt8), (120 : UInt8), (121 : UInt8), (122 : UInt8), (48 : UInt8), (49 : UInt8), (50 : UInt8), (51 : UInt8), (52 : UInt8), (53
    : UInt8), (54 : UInt8), (55 : UInt8), (56 : UInt8), (57 : UInt8), (95 : UInt8)])))] fun (rs : List D) => ∃ (s_1 : List UInt8), rs = [D.str s_1] ∧ ((s_1 == Array.toList (ByteArray.data
    (ByteArray.mk #[]))) = true → (0 : Int) ≤ (0 : Int) ∧ Int.toNat (0 : Int) < List.length s) ∧ [D.bool (bif s_1 == Array.toList (ByteArray.data (ByteArray.mk #[])) then decide
    ((↑(UInt8.toNat (List.getD s (Int.toNat (0 : Int)) (0 : UInt8))) : Int) ≥ (97 : Int)) else false)] = [D.bool (namedB s)]))
  · kernel_rfl
  have hr : D.toBool (Option.getD (lookD (Maps.re M) (D.str s)) (D.bool false)) = words.contains s := by
    rw [hM.reG]
    cases words.contains s <;> rfl
  have e0 : Array.toList (ByteArray.data { data := #[] }) = ([] : List UInt8) := rfl
  have e1 : decide ((s.length : Int) > 64) = decide (s.length > 64) := by rw [Bool.eq_iff_iff]; simp; omega
  simp only [hr, e0, e1, bif_or, same_str s]
  refine ⟨fun _ => hM.reA, fun h => ?_, fun h => ?_⟩
  · simp only [namedB, h, Bool.not_true, Bool.false_and]
  · refine (fn64 s hs).mono ?_
    rintro rs rfl
    refine ⟨_, rfl, fun h2 => ⟨by omega, ?_⟩, ?_⟩
    · show 0 < s.length
      cases s with
      | nil => simp at h
      | cons a r => simp
    · simp only [namedB, h, Bool.not_false, Bool.true_and, bif_and]
      congr 3
      rw [Bool.eq_iff_iff]; simp; omega

theorem fn46 (hM : M.Ok) (t : Tm) (hs : t.name.length ≤ 9223372036854775807) : PFn Tryd.prog (GG M) 46 [t.d] (· = [.bool (termB t)]) := by
  unfold Tm.d
  refine PFn.walk (fn := Tryd.f46) (code := bodyOf Tryd.f46) mixed L0 Tryd.func46 (by kernel_rfl) ⟨_, rfl⟩ (ok0 (by kernel_rfl)) ?_
  apply @of_vc _ (
    ((Tm.kind t == (1 : Int)) = true → PFn Tryd.prog (GG M) (51 : Nat) [D.int IntKind.i64 (Tm.n t)] fun (rs : List D) => ∃ (b : Bool), rs = [D.bool b] ∧ [D.bool (bif Tm.name t ==
    Array.toList (ByteArray.data (ByteArray.mk #[])) then b else false)] = [D.bool (termB t)]) ∧ ((Tm.kind t == (1 : Int)) = false → PFn Tryd.prog (GG M) (49 : Nat) [D.str (Tm.name t)] fun
    (rs : List D) => ∃ (b : Bool), rs = [D.bool b] ∧ [D.bool (bif bif bif decide (Tm.kind t ≥ (2 : Int)) then decide (Tm.kind t ≤ (7 : Int)) else false then b else false then Tm.n t == (0 :
    Int) else false)] = [D.bool (termB t)]))
  · kernel_rfl
  have e0 : Array.toList (ByteArray.data { data := #[] }) = ([] : List UInt8) := rfl
  refine ⟨fun h => ?_, fun h => ?_⟩
  · refine (fn51 t.n).mono ?_
    rintro rs rfl
    refine ⟨_, rfl, ?_⟩
    simp only [beq_iff_eq] at h
    simp only [termB, if_pos h, bif_and, e0]
  · refine (fn49 hM t.name hs).mono ?_
    rintro rs rfl
    refine ⟨_, rfl, ?_⟩
    have h' : ¬ t.kind = 1 := by simpa using h
    simp only [termB, if_neg h', bif_and, ge_iff_le]

noncomputable def h31 (f : Fm) : List Box := [.cells 26 (fmAVs f)]
def odd1 (f : Fm) (t : Tm) : Bool := !termB t || (f.kind != 9 && t.kind != 2)
theorem fn45 (hM : M.Ok) (f : Fm) (t : Tm) (hs : t.name.length ≤ 9223372036854775807) : PCall Tryd.prog (GG M) 45 [.d t.d, .ptr 0 0] (h31 f) (fun rs H' => rs = [.bool (odd1 f t)] ∧ H' = h31 f) := by
  have h46 := fn46 hM t hs
  unfold Tm.d at h46 ⊢
  refine PCall.walk (fn := Tryd.f45) (code := bodyOf Tryd.f45) mixed L0 Tryd.func45 (by kernel_rfl) rfl ⟨_, _, rfl, rfl⟩ (ok0 (by kernel_rfl)) ?_
  apply @of_vc _ (
    PFn Tryd.prog (GG M) (46 : Nat) [D.agg [D.int IntKind.i64 (Tm.kind t), D.str (Tm.name t), D.int IntKind.i64 (Tm.n t)]] fun (rs : List D) => ∃ (b : Bool), rs = [D.bool b] ∧ [D.bool (bif
    !b then true else bif Fm.kind f != (9 : Int) then Tm.kind t != (2 : Int) else false)] = [D.bool (odd1 f t)] ∧ [Box.cells (26 : Nat) [AV.d (D.int IntKind.i64 (Fm.kind f)), AV.d (D.str
    (Fm.name f)), AV.d (D.int IntKind.i64 (Fm.n f)), AV.d (D.sl (List.map Tm.d (Fm.ts f))), AV.d (D.sl (List.map Bd.d (Fm.bs f))), AV.d (D.sl (List.map Fm.d (Fm.l f)))]] = [Box.cells (26 :
    Nat) [AV.d (D.int IntKind.i64 (Fm.kind f)), AV.d (D.str (Fm.name f)), AV.d (D.int IntKind.i64 (Fm.n f)), AV.d (D.sl (List.map Tm.d (Fm.ts f))), AV.d (D.sl (List.map Bd.d (Fm.bs f))),
    AV.d (D.sl (List.map Fm.d (Fm.l f)))]])
  · kernel_rfl
  refine h46.mono ?_
  rintro rs rfl
  refine ⟨_, rfl, ?_, rfl⟩
  simp only [odd1, bif_or, bif_and]

theorem fn63 (hM : M.Ok) (f : Fm) (ts : List Tm) (hl : ts.length < 4611686018427387904) (hs : ∀ t ∈ ts, t.name.length ≤ 9223372036854775807) :
    PCall Tryd.prog (GG M) 63 [.d (.sl (ts.map Tm.d)), .clo 45 [] [.ptr 0 0]] (h31 f) (fun rs H' => (∃ r : Int, rs = [.int .i64 r] ∧ decide (r ≥ 0) = ts.any (odd1 f)) ∧ H' = h31 f) := by
  refine PCall.walk (fn := Tryd.f63) (code := bodyOf Tryd.f63) mixed
    (LL [(2, loopW (α := Nat) Tryd.prog (GG M) L0 1 (loopN (bodyOf Tryd.f63) 0) [0, 1, 7] (fun i => i ≤ ts.length ∧ (ts.take i).any (odd1 f) = false) (fun i => ts.length - i)
      (fun i => [(8, .d (.int .i64 i))]) (fun H _ => H))])
    Tryd.func63 (by kernel_rfl) rfl ⟨_, _, ⟨if ts.any (odd1 f) then 0 else -1, rfl, by cases ts.any (odd1 f) <;> rfl⟩, rfl⟩ (LoopsOk.one (b1 := loopN (bodyOf Tryd.f63) 0) (by kernel_rfl) (by kernel_rfl) (loopW_sound mixed (ok0 (by kernel_rfl)))) ?_
  apply @of_vc _ (
    ∃ (x0 : Nat), (x0 ≤ List.length ts ∧ List.any (List.take x0 ts) (odd1 f) = false) ∧ ((List.map Tm.d ts = List.map Tm.d ts ∧ AV.clo (45 : Nat) [] [AV.ptr (0 : Nat) (0 : Nat)] = AV.clo (45
    : Nat) [] [AV.ptr (0 : Nat) (0 : Nat)] ∧ (↑(List.length (List.map Tm.d ts)) : Int) = (↑(List.length (List.map Tm.d ts)) : Int) ∧ (0 : Int) = (↑x0 : Int) ∧ True) ∧ (Fm.kind f = Fm.kind f
    ∧ Fm.name f = Fm.name f ∧ Fm.n f = Fm.n f ∧ List.map Tm.d (Fm.ts f) = List.map Tm.d (Fm.ts f) ∧ List.map Bd.d (Fm.bs f) = List.map Bd.d (Fm.bs f) ∧ List.map Fm.d (Fm.l f) = List.map Fm.d
    (Fm.l f) ∧ True) ∧ True) ∧ ∀ (x : Nat), x ≤ List.length ts ∧ List.any (List.take x ts) (odd1 f) = false → (decide ((↑x : Int) < (↑(List.length (List.map Tm.d ts)) : Int)) = true → ((0 :
    Int) ≤ (↑x : Int) ∧ (List.map Tm.d ts)[Int.toNat (↑x : Int)]? = some (aggAt [Sh.int IntKind.i64, Sh.str, Sh.int IntKind.i64] (List.map Tm.d ts) (Int.toNat (↑x : Int)))) ∧ PCall Tryd.prog
    (GG M) (45 : Nat) [AV.d (aggAt [Sh.int IntKind.i64, Sh.str, Sh.int IntKind.i64] (List.map Tm.d ts) (Int.toNat (↑x : Int))), AV.ptr (0 : Nat) (0 : Nat)] [Box.cells (26 : Nat) [AV.d (D.int
    IntKind.i64 (Fm.kind f)), AV.d (D.str (Fm.name f)), AV.d (D.int IntKind.i64 (Fm.n f)), AV.d (D.sl (List.map Tm.d (Fm.ts f))), AV.d (D.sl (List.map Bd.d (Fm.bs f))), AV.d (D.sl (List.map
    Fm.d (Fm.l f)))]] fun (rs : List D) (H' : List Box) => ∃ (b : Bool), rs = [D.bool b] ∧ ∃ (n : Int), ∃ (s : List UInt8), ∃ (n_1 : Int), ∃ (l : List D), ∃ (l_1 : List D), ∃ (l_2 : List D),
    H' = [Box.cells (26 : Nat) [AV.d (D.int IntKind.i64 n), AV.d (D.str s), AV.d (D.int IntKind.i64 n_1), AV.d (D.sl l), AV.d (D.sl l_1), AV.d (D.sl l_2)]] ∧ (b = true → (∃ (r : Int), [D.int
    IntKind.i64 (↑x : Int)] = [D.int IntKind.i64 r] ∧ decide (r ≥ (0 : Int)) = List.any ts (odd1 f)) ∧ [Box.cells (26 : Nat) [AV.d (D.int IntKind.i64 n), AV.d (D.str s), AV.d (D.int
    IntKind.i64 n_1), AV.d (D.sl l), AV.d (D.sl l_1), AV.d (D.sl l_2)]] = [Box.cells (26 : Nat) [AV.d (D.int IntKind.i64 (Fm.kind f)), AV.d (D.str (Fm.name f)), AV.d (D.int IntKind.i64 (Fm.n
    f)), AV.d (D.sl (List.map Tm.d (Fm.ts f))), AV.d (D.sl (List.map Bd.d (Fm.bs f))), AV.d (D.sl (List.map Fm.d (Fm.l f)))]]) ∧ (b = false → ∃ (y : Nat), (y ≤ List.length ts ∧ List.any
    (List.take y ts) (odd1 f) = false) ∧ List.length ts - y < List.length ts - x ∧ (List.map Tm.d ts = List.map Tm.d ts ∧ AV.clo (45 : Nat) [] [AV.ptr (0 : Nat) (0 : Nat)] = AV.clo (45 :
    Nat) [] [AV.ptr (0 : Nat) (0 : Nat)] ∧ (↑(List.length (List.map Tm.d ts)) : Int) = (↑(List.length (List.map Tm.d ts)) : Int) ∧ IntKind.wrap IntKind.i64 ((↑x : Int) + (1 : Int)) = (↑y :
    Int) ∧ True) ∧ (n = Fm.kind f ∧ s = Fm.name f ∧ n_1 = Fm.n f ∧ l = List.map Tm.d (Fm.ts f) ∧ l_1 = List.map Bd.d (Fm.bs f) ∧ l_2 = List.map Fm.d (Fm.l f) ∧ True) ∧ True)) ∧ (decide ((↑x
    : Int) < (↑(List.length (List.map Tm.d ts)) : Int)) = false → (∃ (r : Int), [D.int IntKind.i64 (-1 : Int)] = [D.int IntKind.i64 r] ∧ decide (r ≥ (0 : Int)) = List.any ts (odd1 f)) ∧
    [Box.cells (26 : Nat) [AV.d (D.int IntKind.i64 (Fm.kind f)), AV.d (D.str (Fm.name f)), AV.d (D.int IntKind.i64 (Fm.n f)), AV.d (D.sl (List.map Tm.d (Fm.ts f))), AV.d (D.sl (List.map Bd.d
    (Fm.bs f))), AV.d (D.sl (List.map Fm.d (Fm.l f)))]] = [Box.cells (26 : Nat) [AV.d (D.int IntKind.i64 (Fm.kind f)), AV.d (D.str (Fm.name f)), AV.d (D.int IntKind.i64 (Fm.n f)), AV.d (D.sl
    (List.map Tm.d (Fm.ts f))), AV.d (D.sl (List.map Bd.d (Fm.bs f))), AV.d (D.sl (List.map Fm.d (Fm.l f)))]]))
  · kernel_rfl
  refine ⟨0, ⟨by omega, rfl⟩, ⟨⟨rfl, rfl, rfl, rfl, trivial⟩, ⟨rfl, rfl, rfl, rfl, rfl, rfl, trivial⟩, trivial⟩, fun i hi => ⟨fun hlt => ?_, fun hge => ?_⟩⟩
  · simp only [List.length_map, decide_eq_true_eq] at hlt
    obtain ⟨z, hz, hm⟩ := get_nat (l := ts) (x := i) (by omega)
    rw [Int.toNat_natCast, agg_tm hz]
    refine ⟨⟨by omega, by simp [hz]⟩, ?_⟩
    refine (fn45 hM f z (hs z hm)).mono ?_
    rintro rs H' ⟨rfl, rfl⟩
    refine ⟨_, rfl, _, _, _, _, _, _, rfl, fun hb => ⟨⟨_, rfl, ?_⟩, rfl⟩, fun hb => ⟨i + 1, ⟨by omega, ?_⟩, by omega, ⟨rfl, rfl, rfl, ?_, trivial⟩, ⟨rfl, rfl, rfl, rfl, rfl, rfl, trivial⟩, trivial⟩⟩
    · have : ts.any (odd1 f) = true := List.any_eq_true.2 ⟨z, hm, hb⟩
      rw [this]; simp
    · rw [List.take_add_one, hz, List.any_append, hi.2]
      simpa using hb
    · rw [wrap64 (by omega) (by omega)]; simp
  · simp only [List.length_map, decide_eq_false_iff_not] at hge
    have h2 := hi.2
    rw [List.take_of_length_le (by omega)] at h2
    exact ⟨⟨_, rfl, by rw [h2]; rfl⟩, rfl⟩

theorem fn47 (hM : M.Ok) (f : Fm) (ts : List Tm) (hl : ts.length < 4611686018427387904) (hs : ∀ t ∈ ts, t.name.length ≤ 9223372036854775807) :
    PCall Tryd.prog (GG M) 47 [.d (.sl (ts.map Tm.d)), .clo 45 [] [.ptr 0 0]] (h31 f) (fun rs H' => rs = [.bool (ts.any (odd1 f))] ∧ H' = h31 f) := by
  refine PCall.walk (fn := Tryd.f47) (code := bodyOf Tryd.f47) mixed L0 Tryd.func47 (by kernel_rfl) rfl ⟨_, _, rfl, rfl⟩ (ok0 (by kernel_rfl)) ?_
  apply @of_vc _ (
    PCall Tryd.prog (GG M) (63 : Nat) [AV.d (D.sl (List.map Tm.d ts)), AV.clo (45 : Nat) [] [AV.ptr (0 : Nat) (0 : Nat)]] [Box.cells (26 : Nat) [AV.d (D.int IntKind.i64 (Fm.kind f)), AV.d
    (D.str (Fm.name f)), AV.d (D.int IntKind.i64 (Fm.n f)), AV.d (D.sl (List.map Tm.d (Fm.ts f))), AV.d (D.sl (List.map Bd.d (Fm.bs f))), AV.d (D.sl (List.map Fm.d (Fm.l f)))]] fun (rs :
    List D) (H' : List Box) => ∃ (n : Int), rs = [D.int IntKind.i64 n] ∧ ∃ (n_1 : Int), ∃ (s : List UInt8), ∃ (n_2 : Int), ∃ (l : List D), ∃ (l_1 : List D), ∃ (l_2 : List D), H' = [Box.cells
    (26 : Nat) [AV.d (D.int IntKind.i64 n_1), AV.d (D.str s), AV.d (D.int IntKind.i64 n_2), AV.d (D.sl l), AV.d (D.sl l_1), AV.d (D.sl l_2)]] ∧ [D.bool (decide (n ≥ (0 : Int)))] = [D.bool
    (List.any ts (odd1 f))] ∧ [Box.cells (26 : Nat) [AV.d (D.int IntKind.i64 n_1), AV.d (D.str s), AV.d (D.int IntKind.i64 n_2), AV.d (D.sl l), AV.d (D.sl l_1), AV.d (D.sl l_2)]] =
    [Box.cells (26 : Nat) [AV.d (D.int IntKind.i64 (Fm.kind f)), AV.d (D.str (Fm.name f)), AV.d (D.int IntKind.i64 (Fm.n f)), AV.d (D.sl (List.map Tm.d (Fm.ts f))), AV.d (D.sl (List.map Bd.d
    (Fm.bs f))), AV.d (D.sl (List.map Fm.d (Fm.l f)))]])
  · kernel_rfl
  refine (fn63 hM f ts hl hs).mono ?_
  rintro rs H' ⟨⟨r, rfl, hr⟩, rfl⟩
  exact ⟨r, rfl, _, _, _, _, _, _, rfl, by rw [hr], rfl⟩

def odd2 (b : Bd) : Bool := !bindB b
theorem fn48 (hM : M.Ok) (b : Bd) (hs : b.name.length ≤ 9223372036854775807) : PFn Tryd.prog (GG M) 48 [b.d] (· = [.bool (odd2 b)]) := by
  unfold Bd.d
  refine PFn.walk (fn := Tryd.f48) (code := bodyOf Tryd.f48) mixed L0 Tryd.func48 (by kernel_rfl) ⟨_, rfl⟩ (ok0 (by kernel_rfl)) ?_
  apply @of_vc _ (
    PFn Tryd.prog (GG M) (49 : Nat) [D.str (Bd.name b)] fun (rs : List D) => ∃ (b_1 : Bool), rs = [D.bool b_1] ∧ [D.bool (bif bif !b_1 then true else decide (Bd.sort b < (1 : Int)) then true
    else decide (Bd.sort b > (7 : Int)))] = [D.bool (odd2 b)])
  · kernel_rfl
  refine (fn49 hM b.name hs).mono ?_
  rintro rs rfl
  refine ⟨_, rfl, ?_⟩
  simp only [odd2, bindB, bif_or]
  have e1 : decide (b.sort < 1) = !decide (1 ≤ b.sort) := by rw [Bool.eq_iff_iff]; simp
  have e2 : decide (b.sort > 7) = !decide (b.sort ≤ 7) := by rw [Bool.eq_iff_iff]; simp
  rw [e1, e2]
  cases nameB b.name <;> cases decide (1 ≤ b.sort) <;> cases decide (b.sort ≤ 7) <;> rfl

theorem fn65 (hM : M.Ok) (bs : List Bd) (hl : bs.length < 4611686018427387904) (hs : ∀ t ∈ bs, t.name.length ≤ 9223372036854775807) :
    PFn Tryd.prog (GG M) 65 [.sl (bs.map Bd.d), .fn 48] (fun rs => ∃ r : Int, rs = [.int .i64 r] ∧ decide (r ≥ 0) = bs.any odd2) := by
  refine PFn.walk (fn := Tryd.f65) (code := bodyOf Tryd.f65) mixed
    (LL [(2, loopW (α := Nat) Tryd.prog (GG M) L0 0 (loopN (bodyOf Tryd.f65) 0) [0, 1, 7] (fun i => i ≤ bs.length ∧ (bs.take i).any odd2 = false) (fun i => bs.length - i)
      (fun i => [(8, .d (.int .i64 i))]) (fun H _ => H))])
    Tryd.func65 (by kernel_rfl) ⟨_, if bs.any odd2 then 0 else -1, rfl, by cases bs.any odd2 <;> rfl⟩ (LoopsOk.one (b1 := loopN (bodyOf Tryd.f65) 0) (by kernel_rfl) (by kernel_rfl) (loopW_sound mixed (ok0 (by kernel_rfl)))) ?_
  apply @of_vc _ (
    ∃ (x0 : Nat), (x0 ≤ List.length bs ∧ List.any (List.take x0 bs) odd2 = false) ∧ ((List.map Bd.d bs = List.map Bd.d bs ∧ AV.d (D.fn (48 : Nat)) = AV.d (D.fn (48 : Nat)) ∧ (↑(List.length
    (List.map Bd.d bs)) : Int) = (↑(List.length (List.map Bd.d bs)) : Int) ∧ (0 : Int) = (↑x0 : Int) ∧ True) ∧ True) ∧ ∀ (x : Nat), x ≤ List.length bs ∧ List.any (List.take x bs) odd2 =
    false → (decide ((↑x : Int) < (↑(List.length (List.map Bd.d bs)) : Int)) = true → ((0 : Int) ≤ (↑x : Int) ∧ (List.map Bd.d bs)[Int.toNat (↑x : Int)]? = some (aggAt [Sh.str, Sh.int
    IntKind.i64] (List.map Bd.d bs) (Int.toNat (↑x : Int)))) ∧ PFn Tryd.prog (GG M) (48 : Nat) [aggAt [Sh.str, Sh.int IntKind.i64] (List.map Bd.d bs) (Int.toNat (↑x : Int))] fun (rs : List
    D) => ∃ (b : Bool), rs = [D.bool b] ∧ (b = true → ∃ (r : Int), [D.int IntKind.i64 (↑x : Int)] = [D.int IntKind.i64 r] ∧ decide (r ≥ (0 : Int)) = List.any bs odd2) ∧ (b = false → ∃ (y :
    Nat), (y ≤ List.length bs ∧ List.any (List.take y bs) odd2 = false) ∧ List.length bs - y < List.length bs - x ∧ (List.map Bd.d bs = List.map Bd.d bs ∧ AV.d (D.fn (48 : Nat)) = AV.d (D.fn
    (48 : Nat)) ∧ (↑(List.length (List.map Bd.d bs)) : Int) = (↑(List.length (List.map Bd.d bs)) : Int) ∧ IntKind.wrap IntKind.i64 ((↑x : Int) + (1 : Int)) = (↑y : Int) ∧ True) ∧ True)) ∧
    (decide ((↑x : Int) < (↑(List.length (List.map Bd.d bs)) : Int)) = false → ∃ (r : Int), [D.int IntKind.i64 (-1 : Int)] = [D.int IntKind.i64 r] ∧ decide (r ≥ (0 : Int)) = List.any bs
    odd2))
  · kernel_rfl
  refine ⟨0, ⟨by omega, rfl⟩, by simp, fun i hi => ⟨fun hlt => ?_, fun hge => ?_⟩⟩
  · simp only [List.length_map, decide_eq_true_eq] at hlt
    obtain ⟨z, hz, hm⟩ := get_nat (l := bs) (x := i) (by omega)
    rw [Int.toNat_natCast, agg_bd hz]
    refine ⟨⟨by omega, by simp [hz]⟩, ?_⟩
    refine (fn48 hM z (hs z hm)).mono ?_
    rintro rs rfl
    refine ⟨_, rfl, fun hb => ⟨_, rfl, ?_⟩, fun hb => ⟨i + 1, ⟨by omega, ?_⟩, by omega, ?_⟩⟩
    · have : bs.any odd2 = true := List.any_eq_true.2 ⟨z, hm, hb⟩
      rw [this]; simp
    · rw [List.take_add_one, hz, List.any_append, hi.2]
      simpa using hb
    · rw [wrap64 (by omega) (by omega)]; simp
  · simp only [List.length_map, decide_eq_false_iff_not] at hge
    have h2 := hi.2
    rw [List.take_of_length_le (by omega)] at h2
    exact ⟨_, rfl, by rw [h2]; rfl⟩

theorem fn50 (hM : M.Ok) (bs : List Bd) (hl : bs.length < 4611686018427387904) (hs : ∀ t ∈ bs, t.name.length ≤ 9223372036854775807) :
    PFn Tryd.prog (GG M) 50 [.sl (bs.map Bd.d), .fn 48] (· = [.bool (bs.any odd2)]) := by
  refine PFn.walk (fn := Tryd.f50) (code := bodyOf Tryd.f50) mixed L0 Tryd.func50 (by kernel_rfl) ⟨_, rfl⟩ (ok0 (by kernel_rfl)) ?_
  apply @of_vc _ (
    PFn Tryd.prog (GG M) (65 : Nat) [D.sl (List.map Bd.d bs), D.fn (48 : Nat)] fun (rs : List D) => ∃ (n : Int), rs = [D.int IntKind.i64 n] ∧ [D.bool (decide (n ≥ (0 : Int)))] = [D.bool
    (List.any bs odd2)])
  · kernel_rfl
  refine (fn65 hM bs hl hs).mono ?_
  rintro rs ⟨r, rfl, hr⟩
  exact ⟨r, rfl, by rw [hr]⟩

/-- The test of one node as the program has it. -/
def bad0 (f : Fm) : Bool :=
  !(arL.lookup f.kind).isSome || ((f.l.length : Int) != (arL.lookup f.kind).getD 0) || (((f.ts.length : Int) != 0) && !atomB f.kind) || (((f.bs.length : Int) != 0) && !quantB f.kind) || ((f.n != 0) && !countB f.kind) || ((!(f.name == [])) && f.kind != 9)
def bad1 (f : Fm) : Bool := f.kind == 9 && (siL.lookup f.name).getD [] == []
def good2 (f : Fm) : Bool := if atomB f.kind then ((f.ts.length : Int) == 2) && !f.ts.any (odd1 f) else if quantB f.kind then decide ((f.bs.length : Int) > 0) && decide ((f.bs.length : Int) ≤ 6) && !f.bs.any odd2 && numB f.n else true

theorem any_odd2 (bs : List Bd) : (!bs.any odd2) = bs.all bindB := by
  induction bs with
  | nil => rfl
  | cons b r ih => simp only [List.any_cons, List.all_cons, Bool.not_or, ih, odd2, Bool.not_not]

theorem sign_look (s : List UInt8) : ((siL.lookup s).getD [] == []) = !signB s := by
  unfold siL signB
  simp only [List.lookup]
  by_cases h1 : s = [33, 61]
  · subst h1; rfl
  by_cases h2 : s = [60]
  · subst h2; rfl
  by_cases h3 : s = [60, 61]
  · subst h3; rfl
  by_cases h4 : s = [61]
  · subst h4; rfl
  by_cases h5 : s = [62]
  · subst h5; rfl
  by_cases h6 : s = [62, 61]
  · subst h6; rfl
  simp only [beq_eq_false_iff_ne.2 h1, beq_eq_false_iff_ne.2 h2, beq_eq_false_iff_ne.2 h3, beq_eq_false_iff_ne.2 h4, beq_eq_false_iff_ne.2 h5, beq_eq_false_iff_ne.2 h6]
  rfl
end

end Go.Fo
/- The test of one node; Check. -/
namespace Go.Fo
open Go Go.Sx Go.Proofs
set_option maxRecDepth 100000

theorem len2' {α : Type} {l : List α} (h : l.length = 2) : ∃ x y, l = [x, y] := by
  match l, h with
  | [x, y], _ => exact ⟨x, y, rfl⟩

theorem any_odd1 (f : Fm) (a b : Tm) : (!([a, b].any (odd1 f))) = (termB a && termB b && (f.kind == 9 || a.kind == 2 && b.kind == 2)) := by
  simp only [List.any_cons, List.any_nil, odd1, bne]
  cases termB a <;> cases termB b <;> cases (f.kind == 9) <;> cases (a.kind == 2) <;> cases (b.kind == 2) <;> rfl

theorem formed_eq (f : Fm) : (!bad0 f && !bad1 f && good2 f) = nodeB f := by
  have hodd := any_odd1 f
  unfold bad0 bad1 good2 nodeB termsB bindsB
  simp only [sign_look, any_odd2]
  generalize odd1 f = od at *
  generalize f.kind = k at *
  generalize f.name = s
  generalize f.n = n
  generalize f.ts = ts
  generalize f.bs = bs
  generalize f.l = l
  have hc : k = 1 ∨ k = 2 ∨ (k = 3 ∨ k = 4 ∨ k = 5 ∨ k = 6 ∨ k = 7 ∨ k = 8) ∨ k = 9 ∨ k = 10 ∨ (k = 11 ∨ k = 12 ∨ k = 13) ∨ (k = 14 ∨ k = 15) ∨ (k = 16 ∨ k = 17) ∨ (k < 1 ∨ 17 < k) := by omega
  have e0 : ∀ {α : Type} (l : List α), ((l.length : Int) != 0) = !l.isEmpty := fun l => by cases l <;> rfl
  rcases hc with hk | hk | hk | hk | hk | hk | hk | hk | hk
  · subst hk
    have h1 : arL.lookup 1 = some 0 := rfl
    have h2 : atomB 1 = false := rfl
    have h3 : quantB 1 = false := rfl
    have h4 : countB 1 = false := rfl
    have h5 : partsI 1 = 0 := rfl
    simp only [h1, h2, h3, h4, h5, e0, Option.isSome_some, Option.getD_some, bne]
    cases ts <;> cases bs <;> cases (n == 0) <;> cases (s == []) <;> cases ((l.length : Int) == 0) <;> rfl
  · subst hk
    have h1 : arL.lookup 2 = some 0 := rfl
    have h2 : atomB 2 = false := rfl
    have h3 : quantB 2 = false := rfl
    have h4 : countB 2 = false := rfl
    have h5 : partsI 2 = 0 := rfl
    simp only [h1, h2, h3, h4, h5, e0, Option.isSome_some, Option.getD_some, bne]
    cases ts <;> cases bs <;> cases (n == 0) <;> cases (s == []) <;> cases ((l.length : Int) == 0) <;> rfl
  · have h1 : arL.lookup k = some 0 := by rcases hk with rfl | rfl | rfl | rfl | rfl | rfl <;> rfl
    have h2 : atomB k = true := by rcases hk with rfl | rfl | rfl | rfl | rfl | rfl <;> rfl
    have h3 : quantB k = false := by rcases hk with rfl | rfl | rfl | rfl | rfl | rfl <;> rfl
    have h4 : countB k = false := by rcases hk with rfl | rfl | rfl | rfl | rfl | rfl <;> rfl
    have h5 : partsI k = 0 := by rcases hk with rfl | rfl | rfl | rfl | rfl | rfl <;> rfl
    have h9 : (k == 9) = false := by rcases hk with rfl | rfl | rfl | rfl | rfl | rfl <;> rfl
    have h9' : ¬ k = 9 := by omega
    simp only [h1, h2, h3, h4, h5, e0, Option.isSome_some, Option.getD_some, bne, if_true, h9, h9', if_false]
    rcases Classical.em (ts.length = 2) with ht | ht
    · obtain ⟨a, b, rfl⟩ := len2' ht
      rw [hodd]
      simp only [h9]
      have e1 : (([a, b] : List Tm).length : Int) = 2 := rfl
      have ta : tmAt [a, b] 0 = a := rfl
      have tb : tmAt [a, b] 1 = b := rfl
      simp only [e1, ta, tb, h9', if_false]
      cases bs <;> cases (n == 0) <;> cases (s == []) <;> cases ((l.length : Int) == 0) <;> cases termB a <;> cases termB b <;> cases (a.kind == 2) <;> cases (b.kind == 2) <;> rfl
    · have e1 : ((ts.length : Int) == 2) = false := by simp; omega
      simp only [e1, ht, decide_false, Bool.false_and, Bool.and_false]
  · subst hk
    have h1 : arL.lookup 9 = some 0 := rfl
    have h2 : atomB 9 = true := rfl
    have h3 : quantB 9 = false := rfl
    have h4 : countB 9 = false := rfl
    have h5 : partsI 9 = 0 := rfl
    have h9 : ((9 : Int) == 9) = true := rfl
    simp only [h1, h2, h3, h4, h5, e0, Option.isSome_some, Option.getD_some, bne, if_true, h9]
    rcases Classical.em (ts.length = 2) with ht | ht
    · obtain ⟨a, b, rfl⟩ := len2' ht
      rw [hodd]
      simp only [h9]
      have e1 : (([a, b] : List Tm).length : Int) = 2 := rfl
      have ta : tmAt [a, b] 0 = a := rfl
      have tb : tmAt [a, b] 1 = b := rfl
      simp only [e1, ta, tb]
      cases bs <;> cases (n == 0) <;> cases (s == []) <;> cases ((l.length : Int) == 0) <;> cases termB a <;> cases termB b <;> cases signB s <;> rfl
    · have e1 : ((ts.length : Int) == 2) = false := by simp; omega
      simp only [e1, ht, decide_false, Bool.false_and, Bool.and_false]
  · subst hk
    have h1 : arL.lookup 10 = some 1 := rfl
    have h2 : atomB 10 = false := rfl
    have h3 : quantB 10 = false := rfl
    have h4 : countB 10 = false := rfl
    have h5 : partsI 10 = 1 := rfl
    simp only [h1, h2, h3, h4, h5, e0, Option.isSome_some, Option.getD_some, bne]
    cases ts <;> cases bs <;> cases (n == 0) <;> cases (s == []) <;> cases ((l.length : Int) == 1) <;> rfl
  · have h1 : arL.lookup k = some 2 := by rcases hk with rfl | rfl | rfl <;> rfl
    have h2 : atomB k = false := by rcases hk with rfl | rfl | rfl <;> rfl
    have h3 : quantB k = false := by rcases hk with rfl | rfl | rfl <;> rfl
    have h4 : countB k = false := by rcases hk with rfl | rfl | rfl <;> rfl
    have h5 : partsI k = 2 := by rcases hk with rfl | rfl | rfl <;> rfl
    have h9 : (k == 9) = false := by rcases hk with rfl | rfl | rfl <;> rfl
    simp only [h1, h2, h3, h4, h5, e0, Option.isSome_some, Option.getD_some, bne, h9]
    cases ts <;> cases bs <;> cases (n == 0) <;> cases (s == []) <;> cases ((l.length : Int) == 2) <;> rfl
  · have h1 : arL.lookup k = some 1 := by rcases hk with rfl | rfl <;> rfl
    have h2 : atomB k = false := by rcases hk with rfl | rfl <;> rfl
    have h3 : quantB k = true := by rcases hk with rfl | rfl <;> rfl
    have h4 : countB k = false := by rcases hk with rfl | rfl <;> rfl
    have h5 : partsI k = 1 := by rcases hk with rfl | rfl <;> rfl
    have h9 : (k == 9) = false := by rcases hk with rfl | rfl <;> rfl
    have e1 : decide ((bs.length : Int) > 0) = decide (1 ≤ bs.length) := by rw [Bool.eq_iff_iff]; simp; omega
    have e2 : decide ((bs.length : Int) ≤ 6) = decide (bs.length ≤ 6) := by rw [Bool.eq_iff_iff]; simp; omega
    have e3 : (n == 0) = true → numB n = true := fun h => by simp at h; subst h; rfl
    rw [e1, e2]
    simp only [h1, h2, h3, h4, h5, Option.isSome_some, Option.getD_some, bne, h9, if_true]
    generalize ((bs.length : Int) == 0) = z0
    cases hn : (n == 0) with
    | true =>
      rw [e3 hn]
      cases z0 <;> cases ts <;> cases (s == []) <;> cases ((l.length : Int) == 1) <;> cases bs.all bindB <;> cases decide (1 ≤ bs.length) <;> cases decide (bs.length ≤ 6) <;> rfl
    | false =>
      cases z0 <;> cases ts <;> cases (s == []) <;> cases ((l.length : Int) == 1) <;> cases bs.all bindB <;> cases decide (1 ≤ bs.length) <;> cases decide (bs.length ≤ 6) <;> rfl
  · have h1 : arL.lookup k = some 1 := by rcases hk with rfl | rfl <;> rfl
    have h2 : atomB k = false := by rcases hk with rfl | rfl <;> rfl
    have h3 : quantB k = true := by rcases hk with rfl | rfl <;> rfl
    have h4 : countB k = true := by rcases hk with rfl | rfl <;> rfl
    have h5 : partsI k = 1 := by rcases hk with rfl | rfl <;> rfl
    have h9 : (k == 9) = false := by rcases hk with rfl | rfl <;> rfl
    have e1 : decide ((bs.length : Int) > 0) = decide (1 ≤ bs.length) := by rw [Bool.eq_iff_iff]; simp; omega
    have e2 : decide ((bs.length : Int) ≤ 6) = decide (bs.length ≤ 6) := by rw [Bool.eq_iff_iff]; simp; omega
    have e3 : numB n = (n == 0 || (decide (0 < n) && decide (n ≤ 1099511627776))) := by rw [Bool.eq_iff_iff]; simp [numB]; omega
    rw [e1, e2, e3]
    simp only [h1, h2, h3, h4, h5, Option.isSome_some, Option.getD_some, bne, h9, if_true]
    generalize ((bs.length : Int) == 0) = z0
    cases (n == 0) <;> cases z0 <;> cases ts <;> cases (s == []) <;> cases ((l.length : Int) == 1) <;> cases bs.all bindB <;> cases decide (1 ≤ bs.length) <;> cases decide (bs.length ≤ 6) <;> cases decide (0 < n) <;> cases decide (n ≤ 1099511627776) <;> rfl
  · have h1 : arL.lookup k = none := by
      unfold arL
      simp only [List.lookup]
      simp only [(beq_eq_false_iff_ne.2 (by omega) : (k == 1) = false), (beq_eq_false_iff_ne.2 (by omega) : (k == 2) = false), (beq_eq_false_iff_ne.2 (by omega) : (k == 3) = false), (beq_eq_false_iff_ne.2 (by omega) : (k == 4) = false), (beq_eq_false_iff_ne.2 (by omega) : (k == 5) = false), (beq_eq_false_iff_ne.2 (by omega) : (k == 6) = false), (beq_eq_false_iff_ne.2 (by omega) : (k == 7) = false), (beq_eq_false_iff_ne.2 (by omega) : (k == 8) = false), (beq_eq_false_iff_ne.2 (by omega) : (k == 9) = false), (beq_eq_false_iff_ne.2 (by omega) : (k == 10) = false), (beq_eq_false_iff_ne.2 (by omega) : (k == 11) = false), (beq_eq_false_iff_ne.2 (by omega) : (k == 12) = false), (beq_eq_false_iff_ne.2 (by omega) : (k == 13) = false), (beq_eq_false_iff_ne.2 (by omega) : (k == 14) = false), (beq_eq_false_iff_ne.2 (by omega) : (k == 15) = false), (beq_eq_false_iff_ne.2 (by omega) : (k == 16) = false), (beq_eq_false_iff_ne.2 (by omega) : (k == 17) = false)]
    have h5 : partsI k = -1 := by
      unfold partsI
      rw [if_neg (by omega), if_neg (by omega), if_neg]
      simp only [atomB, Bool.and_eq_true, decide_eq_true_eq]
      omega
    have h6 : ((l.length : Int) == -1) = false := by simp
    simp only [h1, h5, h6, Option.isSome_none, Bool.not_false, Bool.true_or, Bool.not_true, Bool.false_and]

section
variable {M : Maps}
theorem fn31 (hM : M.Ok) (f : Fm) (hf : f.wt < 4611686018427387904) : PFn Tryd.prog (GG M) 31 [f.d] (· = [.bool (nodeB f)]) := by
  have hw := f.wt_eq
  have hts := Fm.ts_len hf
  have hbs := Fm.bs_len hf
  rw [d_cells, ← formed_eq]
  refine PFn.walk (fn := Tryd.f31) (code := bodyOf Tryd.f31) mixed L0 Tryd.func31 (by kernel_rfl) ⟨_, rfl⟩ (ok0 (by kernel_rfl)) ?_
  apply @of_vc _ (
    (List.all (Maps.ar M) fun (kv : D × D) => sameKind (D.int IntKind.i64 (Fm.kind f)) (Prod.fst kv) && Sh.ok (Sh.int IntKind.i64) (Prod.snd kv)) = true ∧ PFn Tryd.prog (GG M) (42 : Nat)
    [D.int IntKind.i64 (Fm.kind f)] fun (rs : List D) => ∃ (b : Bool), rs = [D.bool b] ∧ PFn Tryd.prog (GG M) (43 : Nat) [D.int IntKind.i64 (Fm.kind f)] fun (rs : List D) => ∃ (b_1 : Bool),
    rs = [D.bool b_1] ∧ PFn Tryd.prog (GG M) (44 : Nat) [D.int IntKind.i64 (Fm.kind f)] fun (rs : List D) => ∃ (b_2 : Bool), rs = [D.bool b_2] ∧ ((bif bif bif bif bif !Option.isSome (lookD
    (Maps.ar M) (D.int IntKind.i64 (Fm.kind f))) then true else (↑(List.length (List.map Fm.d (Fm.l f))) : Int) != D.toInt (Option.getD (lookD (Maps.ar M) (D.int IntKind.i64 (Fm.kind f)))
    (D.int IntKind.i64 (0 : Int))) then true else bif (↑(List.length (List.map Tm.d (Fm.ts f))) : Int) != (0 : Int) then !b else false then true else bif (↑(List.length (List.map Bd.d (Fm.bs
    f))) : Int) != (0 : Int) then !b_1 else false then true else bif Fm.n f != (0 : Int) then !b_2 else false then true else bif !Fm.name f == Array.toList (ByteArray.data (ByteArray.mk
    #[])) then Fm.kind f != (9 : Int) else false) = true → [D.bool false] = [D.bool (!bad0 f && !bad1 f && good2 f)]) ∧ ((bif bif bif bif bif !Option.isSome (lookD (Maps.ar M) (D.int
    IntKind.i64 (Fm.kind f))) then true else (↑(List.length (List.map Fm.d (Fm.l f))) : Int) != D.toInt (Option.getD (lookD (Maps.ar M) (D.int IntKind.i64 (Fm.kind f))) (D.int IntKind.i64 (0
    : Int))) then true else bif (↑(List.length (List.map Tm.d (Fm.ts f))) : Int) != (0 : Int) then !b else false then true else bif (↑(List.length (List.map Bd.d (Fm.bs f))) : Int) != (0 :
    Int) then !b_1 else false then true else bif Fm.n f != (0 : Int) then !b_2 else false then true else bif !Fm.name f == Array.toList (ByteArray.data (ByteArray.mk #[])) then Fm.kind f !=
    (9 : Int) else false) = false → ((Fm.kind f == (9 : Int)) = true → (List.all (Maps.si M) fun (kv : D × D) => sameKind (D.str (Fm.name f)) (Prod.fst kv) && Sh.ok Sh.str (Prod.snd kv)) =
    true) ∧ ((bif Fm.kind f == (9 : Int) then D.toStr (Option.getD (lookD (Maps.si M) (D.str (Fm.name f))) (D.str (Array.toList (ByteArray.data (ByteArray.mk #[]))))) == Array.toList
    (ByteArray.data (ByteArray.mk #[])) else false) = true → [D.bool false] = [D.bool (!bad0 f && !bad1 f && good2 f)]) ∧ ((bif Fm.kind f == (9 : Int) then D.toStr (Option.getD (lookD
    (Maps.si M) (D.str (Fm.name f))) (D.str (Array.toList (ByteArray.data (ByteArray.mk #[]))))) == Array.toList (ByteArray.data (ByteArray.mk #[])) else false) = false → PFn Tryd.prog (GG
    M) (42 : Nat) [D.int IntKind.i64 (Fm.kind f)] fun (rs : List D) => ∃ (b : Bool), rs = [D.bool b] ∧ (b = true → PCall Tryd.prog (GG M) (47 : Nat) [AV.d (D.sl (List.map Tm.d (Fm.ts f))),
    AV.clo (45 : Nat) [] [AV.ptr (0 : Nat) (0 : Nat)]] [Box.cells (26 : Nat) [AV.d (D.int IntKind.i64 (Fm.kind f)), AV.d (D.str (Fm.name f)), AV.d (D.int IntKind.i64 (Fm.n f)), AV.d (D.sl
    (List.map Tm.d (Fm.ts f))), AV.d (D.sl (List.map Bd.d (Fm.bs f))), AV.d (D.sl (List.map Fm.d (Fm.l f)))]] fun (rs : List D) (H' : List Box) => H' = [Box.cells (26 : Nat) [AV.d (D.int
    IntKind.i64 (Fm.kind f)), AV.d (D.str (Fm.name f)), AV.d (D.int IntKind.i64 (Fm.n f)), AV.d (D.sl (List.map Tm.d (Fm.ts f))), AV.d (D.sl (List.map Bd.d (Fm.bs f))), AV.d (D.sl (List.map
    Fm.d (Fm.l f)))]] ∧ ∃ (b : Bool), rs = [D.bool b] ∧ [D.bool (bif (↑(List.length (List.map Tm.d (Fm.ts f))) : Int) == (2 : Int) then !b else false)] = [D.bool (!bad0 f && !bad1 f && good2
    f)]) ∧ (b = false → PFn Tryd.prog (GG M) (43 : Nat) [D.int IntKind.i64 (Fm.kind f)] fun (rs : List D) => ∃ (b : Bool), rs = [D.bool b] ∧ (b = true → PFn Tryd.prog (GG M) (50 : Nat) [D.sl
    (List.map Bd.d (Fm.bs f)), D.fn (48 : Nat)] fun (rs : List D) => ∃ (b : Bool), rs = [D.bool b] ∧ PFn Tryd.prog (GG M) (51 : Nat) [D.int IntKind.i64 (Fm.n f)] fun (rs : List D) => ∃ (b_3
    : Bool), rs = [D.bool b_3] ∧ [D.bool (bif bif bif decide ((↑(List.length (List.map Bd.d (Fm.bs f))) : Int) > (0 : Int)) then decide ((↑(List.length (List.map Bd.d (Fm.bs f))) : Int) ≤ (6
    : Int)) else false then !b else false then b_3 else false)] = [D.bool (!bad0 f && !bad1 f && good2 f)]) ∧ (b = false → [D.bool true] = [D.bool (!bad0 f && !bad1 f && good2 f)])))))
  · kernel_rfl
  have e0 : Array.toList (ByteArray.data { data := #[] }) = ([] : List UInt8) := rfl
  refine ⟨by simp only [same_int f.kind]; exact hM.arA, ?_⟩
  refine (fn42 f.kind).mono ?_
  rintro rs rfl
  refine ⟨_, rfl, ?_⟩
  refine (fn43 f.kind).mono ?_
  rintro rs rfl
  refine ⟨_, rfl, ?_⟩
  refine (fn44 f.kind).mono ?_
  rintro rs rfl
  refine ⟨_, rfl, ?_⟩
  have ea : Option.isSome (lookD M.ar (.int .i64 f.kind)) = (arL.lookup f.kind).isSome := by rw [hM.arG]; cases arL.lookup f.kind <;> rfl
  have eb : D.toInt (Option.getD (lookD M.ar (.int .i64 f.kind)) (.int .i64 0)) = (arL.lookup f.kind).getD 0 := by rw [hM.arG]; cases arL.lookup f.kind <;> rfl
  have ec : D.toStr (Option.getD (lookD M.si (.str f.name)) (.str [])) = (siL.lookup f.name).getD [] := by rw [hM.siG]; cases siL.lookup f.name <;> rfl
  simp only [e0, ea, eb, ec, List.length_map, bif_or, bif_and]
  rw [show (!(arL.lookup f.kind).isSome || (f.l.length : Int) != (arL.lookup f.kind).getD 0 || ((f.ts.length : Int) != 0) && !atomB f.kind || ((f.bs.length : Int) != 0) && !quantB f.kind || f.n != 0 && !countB f.kind || (!(f.name == [])) && f.kind != 9) = bad0 f from rfl]
  rw [show (f.kind == 9 && (siL.lookup f.name).getD [] == []) = bad1 f from rfl]
  refine ⟨fun h => by rw [h]; rfl, fun h => ⟨fun _ => by simp only [same_str f.name]; exact hM.siA, fun h1 => by rw [h1]; simp, fun h1 => ?_⟩⟩
  rw [h, h1]
  simp only [Bool.not_false, Bool.true_and]
  refine (fn42 f.kind).mono ?_
  rintro rs rfl
  refine ⟨_, rfl, fun ha => ?_, fun ha => ?_⟩
  · refine (fn47 hM f f.ts (by omega) (fun t ht => by have := hts t ht; omega)).mono ?_
    rintro rs H' ⟨rfl, rfl⟩
    refine ⟨rfl, _, rfl, ?_⟩
    simp only [good2, ha, if_true]
  · refine (fn43 f.kind).mono ?_
    rintro rs rfl
    refine ⟨_, rfl, fun hq => ?_, fun hq => ?_⟩
    · refine (fn50 hM f.bs (by omega) (fun t ht => by have := hbs t ht; omega)).mono ?_
      rintro rs rfl
      refine ⟨_, rfl, ?_⟩
      refine (fn51 f.n).mono ?_
      rintro rs rfl
      refine ⟨_, rfl, ?_⟩
      simp only [good2, ha, hq, if_true, Bool.false_eq_true, if_false]
    · simp only [good2, ha, hq, Bool.false_eq_true, if_false]
end
end Go.Fo
/- Check: the range over all subformulas that may end early. -/
namespace Go.Fo
open Go Go.Sx Go.Proofs
set_option maxRecDepth 100000

noncomputable def c13 : Code := unScope (loopN (bodyOf Tryd.f13) 0)
def tm13 : List AV := [.any, .any, .ptr 1 0, .any, .any, .any, .any, .any, .any, .any, .any, .any, .any, .any, .any, .any, .any, .any]
noncomputable def h13 (f0 : Fm) (ok : Bool) : List Box := [.cells 26 (fmAVs f0), .cells 29 [.d (.int .i64 (if ok then 0 else 1))], .loop tm13 (rpPs c13) (rpAsn c13) (rpBd c13) (if ok then none else some .ret) (if ok then .ready else .done)]
noncomputable def h13t (f0 : Fm) : List Box := [.cells 26 (fmAVs f0), .cells 29 [.d (.int .i64 0)], .loop tm13 (rpPs c13) (rpAsn c13) (rpBd c13) none .ready]

section
variable {M : Maps}

theorem yld13 (hM : M.Ok) (f0 x : Fm) (hx : x.wt < 4611686018427387904) : PYield Tryd.prog (GG M) 2 [.d x.d] (h13t f0) (fun rs H' => rs = [.bool (nodeB x)] ∧ H' = h13 f0 (nodeB x)) := by
  have h31 := fn31 hM x hx
  rw [d_cells] at h31 ⊢
  refine PYield.walk (tm := tm13) (ps := rpPs c13) (asn := rpAsn c13) (bd := rpBd c13) mixed L0 rfl (by kernel_rfl) rfl rfl ⟨_, _, rfl, rfl⟩ (fun _ => ok0 (by kernel_rfl)) (fun _ => ok0 (by kernel_rfl)) ?_
  apply @of_vc _ (
    PFn Tryd.prog (GG M) (31 : Nat) [D.agg [D.int IntKind.i64 (Fm.kind x), D.str (Fm.name x), D.int IntKind.i64 (Fm.n x), D.sl (List.map Tm.d (Fm.ts x)), D.sl (List.map Bd.d (Fm.bs x)), D.sl
    (List.map Fm.d (Fm.l x))]] fun (rs : List D) => ∃ (b : Bool), rs = [D.bool b] ∧ ((!b) = true → [D.bool false] = [D.bool (nodeB x)] ∧ [Box.cells (26 : Nat) [AV.d (D.int IntKind.i64
    (Fm.kind f0)), AV.d (D.str (Fm.name f0)), AV.d (D.int IntKind.i64 (Fm.n f0)), AV.d (D.sl (List.map Tm.d (Fm.ts f0))), AV.d (D.sl (List.map Bd.d (Fm.bs f0))), AV.d (D.sl (List.map Fm.d
    (Fm.l f0)))], Box.cells (29 : Nat) [AV.d (D.int IntKind.i64 (1 : Int))], Box.loop [AV.any, AV.any, AV.ptr (1 : Nat) (0 : Nat), AV.any, AV.any, AV.any, AV.any, AV.any, AV.any, AV.any,
    AV.any, AV.any, AV.any, AV.any, AV.any, AV.any, AV.any, AV.any] (rpPs c13) (rpAsn c13) (rpBd c13) (some Code.ret) LoopState.done] = [Box.cells (26 : Nat) [AV.d (D.int IntKind.i64
    (Fm.kind f0)), AV.d (D.str (Fm.name f0)), AV.d (D.int IntKind.i64 (Fm.n f0)), AV.d (D.sl (List.map Tm.d (Fm.ts f0))), AV.d (D.sl (List.map Bd.d (Fm.bs f0))), AV.d (D.sl (List.map Fm.d
    (Fm.l f0)))], Box.cells (29 : Nat) [AV.d (D.int IntKind.i64 (if nodeB x = true then (0 : Int) else (1 : Int)))], Box.loop [AV.any, AV.any, AV.ptr (1 : Nat) (0 : Nat), AV.any, AV.any,
    AV.any, AV.any, AV.any, AV.any, AV.any, AV.any, AV.any, AV.any, AV.any, AV.any, AV.any, AV.any, AV.any] (rpPs c13) (rpAsn c13) (rpBd c13) (if nodeB x = true then none else some Code.ret)
    (if nodeB x = true then LoopState.ready else LoopState.done)]) ∧ ((!b) = false → [D.bool true] = [D.bool (nodeB x)] ∧ [Box.cells (26 : Nat) [AV.d (D.int IntKind.i64 (Fm.kind f0)), AV.d
    (D.str (Fm.name f0)), AV.d (D.int IntKind.i64 (Fm.n f0)), AV.d (D.sl (List.map Tm.d (Fm.ts f0))), AV.d (D.sl (List.map Bd.d (Fm.bs f0))), AV.d (D.sl (List.map Fm.d (Fm.l f0)))],
    Box.cells (29 : Nat) [AV.d (D.int IntKind.i64 (0 : Int))], Box.loop [AV.any, AV.any, AV.ptr (1 : Nat) (0 : Nat), AV.any, AV.any, AV.any, AV.any, AV.any, AV.any, AV.any, AV.any, AV.any,
    AV.any, AV.any, AV.any, AV.any, AV.any, AV.any] (rpPs c13) (rpAsn c13) (rpBd c13) none LoopState.ready] = [Box.cells (26 : Nat) [AV.d (D.int IntKind.i64 (Fm.kind f0)), AV.d (D.str
    (Fm.name f0)), AV.d (D.int IntKind.i64 (Fm.n f0)), AV.d (D.sl (List.map Tm.d (Fm.ts f0))), AV.d (D.sl (List.map Bd.d (Fm.bs f0))), AV.d (D.sl (List.map Fm.d (Fm.l f0)))], Box.cells (29 :
    Nat) [AV.d (D.int IntKind.i64 (if nodeB x = true then (0 : Int) else (1 : Int)))], Box.loop [AV.any, AV.any, AV.ptr (1 : Nat) (0 : Nat), AV.any, AV.any, AV.any, AV.any, AV.any, AV.any,
    AV.any, AV.any, AV.any, AV.any, AV.any, AV.any, AV.any, AV.any, AV.any] (rpPs c13) (rpAsn c13) (rpBd c13) (if nodeB x = true then none else some Code.ret) (if nodeB x = true then
    LoopState.ready else LoopState.done)]))
  · kernel_rfl
  refine h31.mono ?_
  rintro rs rfl
  refine ⟨_, rfl, fun h => ?_, fun h => ?_⟩
  · have e : nodeB x = false := by simpa using h
    rw [e]; exact ⟨rfl, rfl⟩
  · have e : nodeB x = true := by simpa using h
    rw [e]; exact ⟨rfl, rfl⟩

theorem fn41c (hM : M.Ok) (f0 x : Fm) (hx : x.wt < 4611686018427387904) : PCall Tryd.prog (GG M) 41 [.d x.d, .yld 2] (h13t f0) (fun rs H' => rs = [.bool x.formB] ∧ H' = h13 f0 x.formB) := by
  induction x using Fm.induct with
  | h x ih =>
  have hw := x.wt_eq
  have hl := wts_len x.l
  have hy := yld13 hM f0 x hx
  rw [d_cells] at hy ⊢
  refine PCall.walk (fn := Tryd.f41) (code := bodyOf Tryd.f41) mixed
    (LL [(4, loopW (α := Nat) Tryd.prog (GG M) L0 3 (loopN (bodyOf Tryd.f41) 0) [1, 2, 12, 13] (fun i => i ≤ x.l.length ∧ nodeB x = true ∧ (x.l.take i).all Fm.formB = true) (fun i => x.l.length - i)
      (fun i => [(14, .d (.int .i64 i))]) (fun H i => h13t f0 ++ H.drop 3))])
    Tryd.func41 (by kernel_rfl) rfl ⟨_, _, rfl, rfl⟩ (LoopsOk.one (b1 := loopN (bodyOf Tryd.f41) 0) (by kernel_rfl) (by kernel_rfl) (loopW_sound mixed (ok0 (by kernel_rfl)))) ?_
  apply @of_vc _ (
    PYield Tryd.prog (GG M) (2 : Nat) [AV.d (D.agg [D.int IntKind.i64 (Fm.kind x), D.str (Fm.name x), D.int IntKind.i64 (Fm.n x), D.sl (List.map Tm.d (Fm.ts x)), D.sl (List.map Bd.d (Fm.bs
    x)), D.sl (List.map Fm.d (Fm.l x))])] [Box.cells (26 : Nat) [AV.d (D.int IntKind.i64 (Fm.kind f0)), AV.d (D.str (Fm.name f0)), AV.d (D.int IntKind.i64 (Fm.n f0)), AV.d (D.sl (List.map
    Tm.d (Fm.ts f0))), AV.d (D.sl (List.map Bd.d (Fm.bs f0))), AV.d (D.sl (List.map Fm.d (Fm.l f0)))], Box.cells (29 : Nat) [AV.d (D.int IntKind.i64 (0 : Int))], Box.loop [AV.any, AV.any,
    AV.ptr (1 : Nat) (0 : Nat), AV.any, AV.any, AV.any, AV.any, AV.any, AV.any, AV.any, AV.any, AV.any, AV.any, AV.any, AV.any, AV.any, AV.any, AV.any] (rpPs c13) (rpAsn c13) (rpBd c13) none
    LoopState.ready] fun (rs : List D) (H' : List Box) => ∃ (b : Bool), rs = [D.bool b] ∧ ∃ (n : Int), ∃ (s : List UInt8), ∃ (n_1 : Int), ∃ (l : List D), ∃ (l_1 : List D), ∃ (l_2 : List D),
    ∃ (n_2 : Int), ∃ (pend : Option Code), ∃ (st : LoopState), H' = [Box.cells (26 : Nat) [AV.d (D.int IntKind.i64 n), AV.d (D.str s), AV.d (D.int IntKind.i64 n_1), AV.d (D.sl l), AV.d (D.sl
    l_1), AV.d (D.sl l_2)], Box.cells (29 : Nat) [AV.d (D.int IntKind.i64 n_2)], Box.loop [AV.any, AV.any, AV.ptr (1 : Nat) (0 : Nat), AV.any, AV.any, AV.any, AV.any, AV.any, AV.any, AV.any,
    AV.any, AV.any, AV.any, AV.any, AV.any, AV.any, AV.any, AV.any] (rpPs c13) (rpAsn c13) (rpBd c13) pend st] ∧ ((!b) = true → [D.bool false] = [D.bool (Fm.formB x)] ∧ [Box.cells (26 : Nat)
    [AV.d (D.int IntKind.i64 n), AV.d (D.str s), AV.d (D.int IntKind.i64 n_1), AV.d (D.sl l), AV.d (D.sl l_1), AV.d (D.sl l_2)], Box.cells (29 : Nat) [AV.d (D.int IntKind.i64 n_2)], Box.loop
    [AV.any, AV.any, AV.ptr (1 : Nat) (0 : Nat), AV.any, AV.any, AV.any, AV.any, AV.any, AV.any, AV.any, AV.any, AV.any, AV.any, AV.any, AV.any, AV.any, AV.any, AV.any] (rpPs c13) (rpAsn
    c13) (rpBd c13) pend st] = [Box.cells (26 : Nat) [AV.d (D.int IntKind.i64 (Fm.kind f0)), AV.d (D.str (Fm.name f0)), AV.d (D.int IntKind.i64 (Fm.n f0)), AV.d (D.sl (List.map Tm.d (Fm.ts
    f0))), AV.d (D.sl (List.map Bd.d (Fm.bs f0))), AV.d (D.sl (List.map Fm.d (Fm.l f0)))], Box.cells (29 : Nat) [AV.d (D.int IntKind.i64 (if Fm.formB x = true then (0 : Int) else (1 :
    Int)))], Box.loop [AV.any, AV.any, AV.ptr (1 : Nat) (0 : Nat), AV.any, AV.any, AV.any, AV.any, AV.any, AV.any, AV.any, AV.any, AV.any, AV.any, AV.any, AV.any, AV.any, AV.any, AV.any]
    (rpPs c13) (rpAsn c13) (rpBd c13) (if Fm.formB x = true then none else some Code.ret) (if Fm.formB x = true then LoopState.ready else LoopState.done)]) ∧ ((!b) = false → ∃ (x0 : Nat),
    (x0 ≤ List.length (Fm.l x) ∧ nodeB x = true ∧ List.all (List.take x0 (Fm.l x)) Fm.formB = true) ∧ ((AV.yld (2 : Nat) = AV.yld (2 : Nat) ∧ AV.ptr (3 : Nat) (0 : Nat) = AV.ptr (3 : Nat) (0
    : Nat) ∧ List.map Fm.d (Fm.l x) = List.map Fm.d (Fm.l x) ∧ (↑(List.length (List.map Fm.d (Fm.l x))) : Int) = (↑(List.length (List.map Fm.d (Fm.l x))) : Int) ∧ (0 : Int) = (↑x0 : Int) ∧
    True) ∧ (n = Fm.kind f0 ∧ s = Fm.name f0 ∧ n_1 = Fm.n f0 ∧ l = List.map Tm.d (Fm.ts f0) ∧ l_1 = List.map Bd.d (Fm.bs f0) ∧ l_2 = List.map Fm.d (Fm.l f0) ∧ True) ∧ (n_2 = (0 : Int) ∧
    True) ∧ Box.loop [AV.any, AV.any, AV.ptr (1 : Nat) (0 : Nat), AV.any, AV.any, AV.any, AV.any, AV.any, AV.any, AV.any, AV.any, AV.any, AV.any, AV.any, AV.any, AV.any, AV.any, AV.any]
    (rpPs c13) (rpAsn c13) (rpBd c13) pend st = Box.loop [AV.any, AV.any, AV.ptr (1 : Nat) (0 : Nat), AV.any, AV.any, AV.any, AV.any, AV.any, AV.any, AV.any, AV.any, AV.any, AV.any, AV.any,
    AV.any, AV.any, AV.any, AV.any] (rpPs c13) (rpAsn c13) (rpBd c13) none LoopState.ready ∧ (Fm.kind x = Fm.kind x ∧ Fm.name x = Fm.name x ∧ Fm.n x = Fm.n x ∧ List.map Tm.d (Fm.ts x) =
    List.map Tm.d (Fm.ts x) ∧ List.map Bd.d (Fm.bs x) = List.map Bd.d (Fm.bs x) ∧ List.map Fm.d (Fm.l x) = List.map Fm.d (Fm.l x) ∧ True) ∧ True) ∧ ∀ (x_1 : Nat), x_1 ≤ List.length (Fm.l x)
    ∧ nodeB x = true ∧ List.all (List.take x_1 (Fm.l x)) Fm.formB = true → (decide ((↑x_1 : Int) < (↑(List.length (List.map Fm.d (Fm.l x))) : Int)) = true → ((0 : Int) ≤ (↑x_1 : Int) ∧
    (List.map Fm.d (Fm.l x))[Int.toNat (↑x_1 : Int)]? = some (aggAt [Sh.int IntKind.i64, Sh.str, Sh.int IntKind.i64, Sh.sl, Sh.sl, Sh.sl] (List.map Fm.d (Fm.l x)) (Int.toNat (↑x_1 : Int))))
    ∧ PCall Tryd.prog (GG M) (41 : Nat) [AV.d (aggAt [Sh.int IntKind.i64, Sh.str, Sh.int IntKind.i64, Sh.sl, Sh.sl, Sh.sl] (List.map Fm.d (Fm.l x)) (Int.toNat (↑x_1 : Int))), AV.yld (2 :
    Nat)] [Box.cells (26 : Nat) [AV.d (D.int IntKind.i64 (Fm.kind f0)), AV.d (D.str (Fm.name f0)), AV.d (D.int IntKind.i64 (Fm.n f0)), AV.d (D.sl (List.map Tm.d (Fm.ts f0))), AV.d (D.sl
    (List.map Bd.d (Fm.bs f0))), AV.d (D.sl (List.map Fm.d (Fm.l f0)))], Box.cells (29 : Nat) [AV.d (D.int IntKind.i64 (0 : Int))], Box.loop [AV.any, AV.any, AV.ptr (1 : Nat) (0 : Nat),
    AV.any, AV.any, AV.any, AV.any, AV.any, AV.any, AV.any, AV.any, AV.any, AV.any, AV.any, AV.any, AV.any, AV.any, AV.any] (rpPs c13) (rpAsn c13) (rpBd c13) none LoopState.ready] fun (rs :
    List D) (H' : List Box) => ∃ (b : Bool), rs = [D.bool b] ∧ ∃ (n : Int), ∃ (s : List UInt8), ∃ (n_3 : Int), ∃ (l : List D), ∃ (l_3 : List D), ∃ (l_4 : List D), ∃ (n_4 : Int), ∃ (pend :
    Option Code), ∃ (st : LoopState), H' = [Box.cells (26 : Nat) [AV.d (D.int IntKind.i64 n), AV.d (D.str s), AV.d (D.int IntKind.i64 n_3), AV.d (D.sl l), AV.d (D.sl l_3), AV.d (D.sl l_4)],
    Box.cells (29 : Nat) [AV.d (D.int IntKind.i64 n_4)], Box.loop [AV.any, AV.any, AV.ptr (1 : Nat) (0 : Nat), AV.any, AV.any, AV.any, AV.any, AV.any, AV.any, AV.any, AV.any, AV.any, AV.any,
    AV.any, AV.any, AV.any, AV.any, AV.any] (rpPs c13) (rpAsn c13) (rpBd c13) pend st] ∧ ((!b) = true → [D.bool false] = [D.bool (Fm.formB x)] ∧ [Box.cells (26 : Nat) [AV.d (D.int
    IntKind.i64 n), AV.d (D.str s), AV.d (D.int IntKind.i64 n_3), AV.d (D.sl l), AV.d (D.sl l_3), AV.d (D.sl l_4)], Box.cells (29 : Nat) [AV.d (D.int IntKind.i64 n_4)], Box.loop [AV.any,
    AV.any, AV.ptr (1 : Nat) (0 : Nat), AV.any, AV.any, AV.any, AV.any, AV.any, AV.any, AV.any, AV.any, AV.any, AV.any, AV.any, AV.any, AV.any, AV.any, AV.any] (rpPs c13) (rpAsn c13) (rpBd
    c13) pend st] = [Box.cells (26 : Nat) [AV.d (D.int IntKind.i64 (Fm.kind f0)), AV.d (D.str (Fm.name f0)), AV.d (D.int IntKind.i64 (Fm.n f0)), AV.d (D.sl (List.map Tm.d (Fm.ts f0))), AV.d
    (D.sl (List.map Bd.d (Fm.bs f0))), AV.d (D.sl (List.map Fm.d (Fm.l f0)))], Box.cells (29 : Nat) [AV.d (D.int IntKind.i64 (if Fm.formB x = true then (0 : Int) else (1 : Int)))], Box.loop
    [AV.any, AV.any, AV.ptr (1 : Nat) (0 : Nat), AV.any, AV.any, AV.any, AV.any, AV.any, AV.any, AV.any, AV.any, AV.any, AV.any, AV.any, AV.any, AV.any, AV.any, AV.any] (rpPs c13) (rpAsn
    c13) (rpBd c13) (if Fm.formB x = true then none else some Code.ret) (if Fm.formB x = true then LoopState.ready else LoopState.done)]) ∧ ((!b) = false → ∃ (y : Nat), (y ≤ List.length
    (Fm.l x) ∧ nodeB x = true ∧ List.all (List.take y (Fm.l x)) Fm.formB = true) ∧ List.length (Fm.l x) - y < List.length (Fm.l x) - x_1 ∧ (AV.yld (2 : Nat) = AV.yld (2 : Nat) ∧ AV.ptr (3 :
    Nat) (0 : Nat) = AV.ptr (3 : Nat) (0 : Nat) ∧ List.map Fm.d (Fm.l x) = List.map Fm.d (Fm.l x) ∧ (↑(List.length (List.map Fm.d (Fm.l x))) : Int) = (↑(List.length (List.map Fm.d (Fm.l x)))
    : Int) ∧ IntKind.wrap IntKind.i64 ((↑x_1 : Int) + (1 : Int)) = (↑y : Int) ∧ True) ∧ (n = Fm.kind f0 ∧ s = Fm.name f0 ∧ n_3 = Fm.n f0 ∧ l = List.map Tm.d (Fm.ts f0) ∧ l_3 = List.map Bd.d
    (Fm.bs f0) ∧ l_4 = List.map Fm.d (Fm.l f0) ∧ True) ∧ (n_4 = (0 : Int) ∧ True) ∧ Box.loop [AV.any, AV.any, AV.ptr (1 : Nat) (0 : Nat), AV.any, AV.any, AV.any, AV.any, AV.any, AV.any,
    AV.any, AV.any, AV.any, AV.any, AV.any, AV.any, AV.any, AV.any, AV.any] (rpPs c13) (rpAsn c13) (rpBd c13) pend st = Box.loop [AV.any, AV.any, AV.ptr (1 : Nat) (0 : Nat), AV.any, AV.any,
    AV.any, AV.any, AV.any, AV.any, AV.any, AV.any, AV.any, AV.any, AV.any, AV.any, AV.any, AV.any, AV.any] (rpPs c13) (rpAsn c13) (rpBd c13) none LoopState.ready ∧ (Fm.kind x = Fm.kind x ∧
    Fm.name x = Fm.name x ∧ Fm.n x = Fm.n x ∧ List.map Tm.d (Fm.ts x) = List.map Tm.d (Fm.ts x) ∧ List.map Bd.d (Fm.bs x) = List.map Bd.d (Fm.bs x) ∧ List.map Fm.d (Fm.l x) = List.map Fm.d
    (Fm.l x) ∧ True) ∧ True)) ∧ (decide ((↑x_1 : Int) < (↑(List.length (List.map Fm.d (Fm.l x))) : Int)) = false → [D.bool true] = [D.bool (Fm.formB x)] ∧ [Box.cells (26 : Nat) [AV.d (D.int
    IntKind.i64 (Fm.kind f0)), AV.d (D.str (Fm.name f0)), AV.d (D.int IntKind.i64 (Fm.n f0)), AV.d (D.sl (List.map Tm.d (Fm.ts f0))), AV.d (D.sl (List.map Bd.d (Fm.bs f0))), AV.d (D.sl
    (List.map Fm.d (Fm.l f0)))], Box.cells (29 : Nat) [AV.d (D.int IntKind.i64 (0 : Int))], Box.loop [AV.any, AV.any, AV.ptr (1 : Nat) (0 : Nat), AV.any, AV.any, AV.any, AV.any, AV.any,
    AV.any, AV.any, AV.any, AV.any, AV.any, AV.any, AV.any, AV.any, AV.any, AV.any] (rpPs c13) (rpAsn c13) (rpBd c13) none LoopState.ready] = [Box.cells (26 : Nat) [AV.d (D.int IntKind.i64
    (Fm.kind f0)), AV.d (D.str (Fm.name f0)), AV.d (D.int IntKind.i64 (Fm.n f0)), AV.d (D.sl (List.map Tm.d (Fm.ts f0))), AV.d (D.sl (List.map Bd.d (Fm.bs f0))), AV.d (D.sl (List.map Fm.d
    (Fm.l f0)))], Box.cells (29 : Nat) [AV.d (D.int IntKind.i64 (if Fm.formB x = true then (0 : Int) else (1 : Int)))], Box.loop [AV.any, AV.any, AV.ptr (1 : Nat) (0 : Nat), AV.any, AV.any,
    AV.any, AV.any, AV.any, AV.any, AV.any, AV.any, AV.any, AV.any, AV.any, AV.any, AV.any, AV.any, AV.any] (rpPs c13) (rpAsn c13) (rpBd c13) (if Fm.formB x = true then none else some
    Code.ret) (if Fm.formB x = true then LoopState.ready else LoopState.done)])))
  · kernel_rfl
  refine hy.mono ?_
  rintro rs H' ⟨rfl, rfl⟩
  refine ⟨_, rfl, _, _, _, _, _, _, _, _, _, rfl, fun h => ?_, fun h => ⟨0, ⟨by omega, by simpa using h, rfl⟩, ?_, fun i hi => ⟨fun hlt => ?_, fun hge => ?_⟩⟩⟩
  · have e : nodeB x = false := by simpa using h
    have e2 : x.formB = false := by rw [x.formB_eq, e, Bool.false_and]
    rw [e, e2]; exact ⟨rfl, rfl⟩
  · have e : nodeB x = true := by simpa using h
    rw [e]
    exact ⟨⟨rfl, rfl, rfl, rfl, rfl, trivial⟩, ⟨rfl, rfl, rfl, rfl, rfl, rfl, trivial⟩, ⟨rfl, trivial⟩, rfl, ⟨rfl, rfl, rfl, rfl, rfl, rfl, trivial⟩, trivial⟩
  · simp only [List.length_map, decide_eq_true_eq] at hlt
    obtain ⟨z, hz, hm⟩ := get_nat (l := x.l) (x := i) (by omega)
    rw [Int.toNat_natCast, agg_fm hz]
    refine ⟨⟨by omega, by simp [hz]⟩, ?_⟩
    refine (ih z hm (by have := Fm.wt_lt hm; omega)).mono ?_
    rintro rs H' ⟨rfl, rfl⟩
    refine ⟨_, rfl, _, _, _, _, _, _, _, _, _, rfl, fun h => ?_, fun h => ⟨i + 1, ⟨by omega, hi.2.1, ?_⟩, by omega, ?_⟩⟩
    · have e : z.formB = false := by simpa using h
      have e2 : x.formB = false := by
        have : x.l.all Fm.formB = false := by
          rw [List.all_eq_false]
          exact ⟨z, hm, by simp [e]⟩
        rw [x.formB_eq, formsB_all, this, Bool.and_false]
      rw [e, e2]; exact ⟨rfl, rfl⟩
    · have e : z.formB = true := by simpa using h
      rw [List.take_add_one, hz, List.all_append, hi.2.2]
      simp [e]
    · have e : z.formB = true := by simpa using h
      rw [e]
      exact ⟨⟨rfl, rfl, rfl, rfl, by rw [wrap64 (by omega) (by omega)]; simp, trivial⟩, ⟨rfl, rfl, rfl, rfl, rfl, rfl, trivial⟩, ⟨rfl, trivial⟩, rfl, ⟨rfl, rfl, rfl, rfl, rfl, rfl, trivial⟩, trivial⟩
  · simp only [List.length_map, decide_eq_false_iff_not] at hge
    have h2 := hi.2.2
    rw [List.take_of_length_le (by omega)] at h2
    have e2 : x.formB = true := by rw [x.formB_eq, formsB_all, h2, hi.2.1]; rfl
    rw [e2]; exact ⟨rfl, rfl⟩

theorem fn40c (hM : M.Ok) (f0 x : Fm) (hx : x.wt < 4611686018427387904) : PCall Tryd.prog (GG M) 40 [.yld 2, .iptr (fmCells x)] (h13t f0) (fun _ H' => H' = h13 f0 x.formB) := by
  have h := fn41c hM f0 x hx
  rw [d_cells] at h
  refine PCall.walk (fn := Tryd.f40) (code := bodyOf Tryd.f40) mixed L0 Tryd.func40 (by kernel_rfl) rfl ⟨[], _, rfl⟩ (ok0 (by kernel_rfl)) ?_
  apply @of_vc _ (
    PCall Tryd.prog (GG M) (41 : Nat) [AV.d (D.agg [D.int IntKind.i64 (Fm.kind x), D.str (Fm.name x), D.int IntKind.i64 (Fm.n x), D.sl (List.map Tm.d (Fm.ts x)), D.sl (List.map Bd.d (Fm.bs
    x)), D.sl (List.map Fm.d (Fm.l x))]), AV.yld (2 : Nat)] [Box.cells (26 : Nat) [AV.d (D.int IntKind.i64 (Fm.kind f0)), AV.d (D.str (Fm.name f0)), AV.d (D.int IntKind.i64 (Fm.n f0)), AV.d
    (D.sl (List.map Tm.d (Fm.ts f0))), AV.d (D.sl (List.map Bd.d (Fm.bs f0))), AV.d (D.sl (List.map Fm.d (Fm.l f0)))], Box.cells (29 : Nat) [AV.d (D.int IntKind.i64 (0 : Int))], Box.loop
    [AV.any, AV.any, AV.ptr (1 : Nat) (0 : Nat), AV.any, AV.any, AV.any, AV.any, AV.any, AV.any, AV.any, AV.any, AV.any, AV.any, AV.any, AV.any, AV.any, AV.any, AV.any] (rpPs c13) (rpAsn
    c13) (rpBd c13) none LoopState.ready] fun (rs : List D) (H' : List Box) => ∃ (b : Bool), rs = [D.bool b] ∧ ∃ (n : Int), ∃ (s : List UInt8), ∃ (n_1 : Int), ∃ (l : List D), ∃ (l_1 : List
    D), ∃ (l_2 : List D), ∃ (n_2 : Int), ∃ (pend : Option Code), ∃ (st : LoopState), H' = [Box.cells (26 : Nat) [AV.d (D.int IntKind.i64 n), AV.d (D.str s), AV.d (D.int IntKind.i64 n_1),
    AV.d (D.sl l), AV.d (D.sl l_1), AV.d (D.sl l_2)], Box.cells (29 : Nat) [AV.d (D.int IntKind.i64 n_2)], Box.loop [AV.any, AV.any, AV.ptr (1 : Nat) (0 : Nat), AV.any, AV.any, AV.any,
    AV.any, AV.any, AV.any, AV.any, AV.any, AV.any, AV.any, AV.any, AV.any, AV.any, AV.any, AV.any] (rpPs c13) (rpAsn c13) (rpBd c13) pend st] ∧ [Box.cells (26 : Nat) [AV.d (D.int
    IntKind.i64 n), AV.d (D.str s), AV.d (D.int IntKind.i64 n_1), AV.d (D.sl l), AV.d (D.sl l_1), AV.d (D.sl l_2)], Box.cells (29 : Nat) [AV.d (D.int IntKind.i64 n_2)], Box.loop [AV.any,
    AV.any, AV.ptr (1 : Nat) (0 : Nat), AV.any, AV.any, AV.any, AV.any, AV.any, AV.any, AV.any, AV.any, AV.any, AV.any, AV.any, AV.any, AV.any, AV.any, AV.any] (rpPs c13) (rpAsn c13) (rpBd
    c13) pend st] = [Box.cells (26 : Nat) [AV.d (D.int IntKind.i64 (Fm.kind f0)), AV.d (D.str (Fm.name f0)), AV.d (D.int IntKind.i64 (Fm.n f0)), AV.d (D.sl (List.map Tm.d (Fm.ts f0))), AV.d
    (D.sl (List.map Bd.d (Fm.bs f0))), AV.d (D.sl (List.map Fm.d (Fm.l f0)))], Box.cells (29 : Nat) [AV.d (D.int IntKind.i64 (if Fm.formB x = true then (0 : Int) else (1 : Int)))], Box.loop
    [AV.any, AV.any, AV.ptr (1 : Nat) (0 : Nat), AV.any, AV.any, AV.any, AV.any, AV.any, AV.any, AV.any, AV.any, AV.any, AV.any, AV.any, AV.any, AV.any, AV.any, AV.any] (rpPs c13) (rpAsn
    c13) (rpBd c13) (if Fm.formB x = true then none else some Code.ret) (if Fm.formB x = true then LoopState.ready else LoopState.done)])
  · kernel_rfl
  refine h.mono ?_
  rintro rs H' ⟨rfl, rfl⟩
  exact ⟨_, rfl, _, _, _, _, _, _, _, _, _, rfl, rfl⟩

theorem fn13 (hM : M.Ok) (f : Fm) (hf : f.wt < 4611686018427387904) : PFn Tryd.prog (GG M) 13 [f.d] (· = [.int .i64 f.checkI]) := by
  have hr := f.rank_le_wt
  have h15 := fn15 (G := GG M) f (by omega)
  have h17 := fn17 (G := GG M) f (by omega)
  rw [d_cells] at h15 h17 ⊢
  refine PFn.walk (fn := Tryd.f13) (code := bodyOf Tryd.f13) mixed
    (LL [(1000001, rangeW Tryd.prog (GG M) [2] itAll c13)])
    Tryd.func13 (by kernel_rfl) ⟨_, rfl⟩ (LoopsOk.one (b1 := loopN (bodyOf Tryd.f13) 0) (by kernel_rfl) (by kernel_rfl) (rangeW_sound (by kernel_rfl))) ?_
  apply @of_vc _ (
    (PFnA Tryd.prog (GG M) (30 : Nat) [D.agg [D.int IntKind.i64 (Fm.kind f), D.str (Fm.name f), D.int IntKind.i64 (Fm.n f), D.sl (List.map Tm.d (Fm.ts f)), D.sl (List.map Bd.d (Fm.bs f)),
    D.sl (List.map Fm.d (Fm.l f))]] fun (av : AV) => av = AV.clo (40 : Nat) [] [AV.iptr [D.int IntKind.i64 (Fm.kind f), D.str (Fm.name f), D.int IntKind.i64 (Fm.n f), D.sl (List.map Tm.d
    (Fm.ts f)), D.sl (List.map Bd.d (Fm.bs f)), D.sl (List.map Fm.d (Fm.l f))]]) ∧ PCall Tryd.prog (GG M) (40 : Nat) [AV.yld (2 : Nat), AV.iptr [D.int IntKind.i64 (Fm.kind f), D.str (Fm.name
    f), D.int IntKind.i64 (Fm.n f), D.sl (List.map Tm.d (Fm.ts f)), D.sl (List.map Bd.d (Fm.bs f)), D.sl (List.map Fm.d (Fm.l f))]] [Box.cells (26 : Nat) [AV.d (D.int IntKind.i64 (Fm.kind
    f)), AV.d (D.str (Fm.name f)), AV.d (D.int IntKind.i64 (Fm.n f)), AV.d (D.sl (List.map Tm.d (Fm.ts f))), AV.d (D.sl (List.map Bd.d (Fm.bs f))), AV.d (D.sl (List.map Fm.d (Fm.l f)))],
    Box.cells (29 : Nat) [AV.d (D.int IntKind.i64 (0 : Int))], Box.loop [AV.any, AV.any, AV.ptr (1 : Nat) (0 : Nat), AV.any, AV.any, AV.any, AV.any, AV.any, AV.any, AV.any, AV.any, AV.any,
    AV.any, AV.any, AV.any, AV.any, AV.any, AV.any] (rpPs c13) (rpAsn c13) (rpBd c13) none LoopState.ready] fun (x : List D) (H' : List Box) => ∃ (n : Int), ∃ (s : List UInt8), ∃ (n_1 :
    Int), ∃ (l : List D), ∃ (l_1 : List D), ∃ (l_2 : List D), ∃ (n_2 : Int), ∃ (pend : Option Code), ∃ (st : LoopState), H' = [Box.cells (26 : Nat) [AV.d (D.int IntKind.i64 n), AV.d (D.str
    s), AV.d (D.int IntKind.i64 n_1), AV.d (D.sl l), AV.d (D.sl l_1), AV.d (D.sl l_2)], Box.cells (29 : Nat) [AV.d (D.int IntKind.i64 n_2)], Box.loop [AV.any, AV.any, AV.ptr (1 : Nat) (0 :
    Nat), AV.any, AV.any, AV.any, AV.any, AV.any, AV.any, AV.any, AV.any, AV.any, AV.any, AV.any, AV.any, AV.any, AV.any, AV.any] (rpPs c13) (rpAsn c13) (rpBd c13) pend st] ∧ st ≠
    LoopState.busy ∧ ((pend = none ∧ PFn Tryd.prog (GG M) (15 : Nat) [D.agg [D.int IntKind.i64 n, D.str s, D.int IntKind.i64 n_1, D.sl l, D.sl l_1, D.sl l_2]] fun (rs : List D) => ∃ (n_3 :
    Int), rs = [D.int IntKind.i64 n_3] ∧ PFn Tryd.prog (GG M) (17 : Nat) [D.agg [D.int IntKind.i64 n, D.str s, D.int IntKind.i64 n_1, D.sl l, D.sl l_1, D.sl l_2]] fun (rs : List D) => ∃ (n :
    Int), rs = [D.int IntKind.i64 n] ∧ ((bif decide (n_3 > (256 : Int)) then true else decide (n > (24 : Int))) = true → [D.int IntKind.i64 (2 : Int)] = [D.int IntKind.i64 (Fm.checkI f)]) ∧
    ((bif decide (n_3 > (256 : Int)) then true else decide (n > (24 : Int))) = false → [D.int IntKind.i64 (0 : Int)] = [D.int IntKind.i64 (Fm.checkI f)])) ∨ pend = some Code.ret ∧ [D.int
    IntKind.i64 n_2] = [D.int IntKind.i64 (Fm.checkI f)] ∨ pend = some (Code.exit (rpJ c13)) ∧ PFn Tryd.prog (GG M) (15 : Nat) [D.agg [D.int IntKind.i64 n, D.str s, D.int IntKind.i64 n_1,
    D.sl l, D.sl l_1, D.sl l_2]] fun (rs : List D) => ∃ (n_3 : Int), rs = [D.int IntKind.i64 n_3] ∧ PFn Tryd.prog (GG M) (17 : Nat) [D.agg [D.int IntKind.i64 n, D.str s, D.int IntKind.i64
    n_1, D.sl l, D.sl l_1, D.sl l_2]] fun (rs : List D) => ∃ (n : Int), rs = [D.int IntKind.i64 n] ∧ ((bif decide (n_3 > (256 : Int)) then true else decide (n > (24 : Int))) = true → [D.int
    IntKind.i64 (2 : Int)] = [D.int IntKind.i64 (Fm.checkI f)]) ∧ ((bif decide (n_3 > (256 : Int)) then true else decide (n > (24 : Int))) = false → [D.int IntKind.i64 (0 : Int)] = [D.int
    IntKind.i64 (Fm.checkI f)])))
  · kernel_rfl
  refine ⟨fn30 f, ?_⟩
  refine (fn40c hM f f hf).mono ?_
  rintro rs H' rfl
  refine ⟨_, _, _, _, _, _, _, _, _, rfl, ?_, ?_⟩
  · cases f.formB <;> decide
  · cases hb : f.formB with
    | false =>
      refine .inr (.inl ⟨rfl, ?_⟩)
      simp [Fm.checkI, hb]
    | true =>
      refine .inl ⟨rfl, ?_⟩
      refine h15.mono ?_
      rintro rs rfl
      refine ⟨_, rfl, ?_⟩
      refine h17.mono ?_
      rintro rs rfl
      refine ⟨_, rfl, ?_⟩
      have e : (bif decide ((f.rank : Int) > 256) then true else decide ((f.depth : Int) > 24)) = decide (256 < f.rank ∨ 24 < f.depth) := by
        rw [Bool.eq_iff_iff, bif_or]; simp; omega
      rw [e]
      refine ⟨fun h2 => ?_, fun h2 => ?_⟩
      · simp only [decide_eq_true_eq] at h2
        simp [Fm.checkI, hb, h2]
      · simp only [decide_eq_false_iff_not] at h2
        simp only [Fm.checkI, hb, if_true, if_neg h2]
end
end Go.Fo
/- Clones; the program's own normal form. -/
namespace Go.Fo
open Go Go.Sx Go.Proofs
set_option maxRecDepth 100000

theorem cells_tm (ts : List Tm) : ((ts.map Tm.d).all fun d => d.cells.length == 3) = true := by
  rw [List.all_eq_true]
  intro d hd
  obtain ⟨t, _, rfl⟩ := List.mem_map.1 hd
  rfl
theorem cells_bd (bs : List Bd) : ((bs.map Bd.d).all fun d => d.cells.length == 2) = true := by
  rw [List.all_eq_true]
  intro d hd
  obtain ⟨t, _, rfl⟩ := List.mem_map.1 hd
  rfl
theorem cells_fm (l : List Fm) : ((l.map Fm.d).all fun d => d.cells.length == 6) = true := by
  rw [List.all_eq_true]
  intro d hd
  obtain ⟨t, _, rfl⟩ := List.mem_map.1 hd
  rw [d_cells]; rfl

section
variable {G : Nat → Option (List D)}
theorem fn57 (ts : List Tm) (hl : ts.length < 4294967296) : PFn Tryd.prog G 57 [.sl (ts.map Tm.d)] (· = [.sl (ts.map Tm.d)]) := by
  refine PFn.walk (fn := Tryd.f57) (code := bodyOf Tryd.f57) mixed L0 Tryd.func57 (by kernel_rfl) ⟨_, rfl⟩ (ok0 (by kernel_rfl)) ?_
  apply @of_vc _ (
    ∀ (b : Bool), (b = true → List.map Tm.d ts = []) → (b = true → [D.sl []] = [D.sl (List.map Tm.d ts)]) ∧ (b = false → FA [] (List.map Tm.d ts) (nat_lit 3) (nat_lit 32) ∧ [D.sl
    (List.reverse [] ++ List.map Tm.d ts)] = [D.sl (List.map Tm.d ts)]))
  · kernel_rfl
  refine fun b hb => ⟨fun h => ?_, fun h => ⟨⟨by simpa using cells_tm ts, by simp; omega⟩, by simp⟩⟩
  rw [hb h]
theorem fn58 (bs : List Bd) (hl : bs.length < 4294967296) : PFn Tryd.prog G 58 [.sl (bs.map Bd.d)] (· = [.sl (bs.map Bd.d)]) := by
  refine PFn.walk (fn := Tryd.f58) (code := bodyOf Tryd.f58) mixed L0 Tryd.func58 (by kernel_rfl) ⟨_, rfl⟩ (ok0 (by kernel_rfl)) ?_
  apply @of_vc _ (
    ∀ (b : Bool), (b = true → List.map Bd.d bs = []) → (b = true → [D.sl []] = [D.sl (List.map Bd.d bs)]) ∧ (b = false → FA [] (List.map Bd.d bs) (nat_lit 2) (nat_lit 24) ∧ [D.sl
    (List.reverse [] ++ List.map Bd.d bs)] = [D.sl (List.map Bd.d bs)]))
  · kernel_rfl
  refine fun b hb => ⟨fun h => ?_, fun h => ⟨⟨by simpa using cells_bd bs, by simp; omega⟩, by simp⟩⟩
  rw [hb h]
end
end Go.Fo
/- The program's own normal form. -/
namespace Go.Fo
open Go Go.Sx Go.Proofs
set_option maxRecDepth 100000
set_option maxHeartbeats 0

def put5 : Box → AV → Box
  | .cells T cs, a => .cells T (cs.set 5 a)
  | x, _ => x

theorem right_eq (f : Fm) (t : Bool) : f.right t =
    if (alwaysB f && t || f.kind == 2 && !t) = true then .mk 2 [] 0 [] [] []
    else if (alwaysB f || f.kind == 2) = true then .mk 1 [] 0 [] [] []
    else if f.kind = 10 then ((f.l.map (·.right (!t)))).getD 0 nil0
    else if f.kind = 13 then .mk (if t then 11 else 12) [] 0 [] [] [(f.l.map (·.right (!t))).getD 0 nil0, (f.l.map (·.right t)).getD 1 nil0]
    else if (atomB f.kind && t && f.kind != 9) = true then .mk 10 [] 0 [] [] [f]
    else .mk (if t && f.kind != 9 then dualI f.kind else f.kind) (if t && f.kind == 9 then turnS f.name else f.name) (if t && f.kind == 16 then f.n - 1 else if t && f.kind == 17 then f.n + 1 else f.n) f.ts f.bs (f.l.map (·.right (t && !countB f.kind))) := by
  cases f
  rw [Fm.right]
  simp only [rights_eq]
  rfl

theorem dual_look (k : Int) : (duL.lookup k).getD 0 = dualI k := by
  unfold duL dualI
  simp only [List.lookup]
  by_cases h1 : k = 1
  · subst h1; rfl
  by_cases h2 : k = 2
  · subst h2; rfl
  by_cases h3 : k = 11
  · subst h3; rfl
  by_cases h4 : k = 12
  · subst h4; rfl
  by_cases h5 : k = 14
  · subst h5; rfl
  by_cases h6 : k = 15
  · subst h6; rfl
  by_cases h7 : k = 16
  · subst h7; rfl
  by_cases h8 : k = 17
  · subst h8; rfl
  simp only [beq_eq_false_iff_ne.2 h1, beq_eq_false_iff_ne.2 h2, beq_eq_false_iff_ne.2 h3, beq_eq_false_iff_ne.2 h4, beq_eq_false_iff_ne.2 h5, beq_eq_false_iff_ne.2 h6, beq_eq_false_iff_ne.2 h7, beq_eq_false_iff_ne.2 h8, if_neg h1, if_neg h2, if_neg h3, if_neg h4, if_neg h5, if_neg h6, if_neg h7, if_neg h8]
  rfl

theorem sign_turn (s : List UInt8) (h : signB s = true) : (siL.lookup s).getD [] = turnS s := by
  unfold signB at h
  simp only [Bool.or_eq_true, beq_iff_eq] at h
  rcases h with ((((h | h) | h) | h) | h) | h <;> subst h <;> rfl

section
variable {M : Maps}
theorem fn38 (hM : M.Ok) (f : Fm) (hb : f.formB = true) (t : Bool) : PFn Tryd.prog (GG M) 38 [f.d, .bool t] (· = [(f.right t).d]) := by
  induction f using Fm.induct generalizing t with
  | h f ih =>
  have hnode : nodeB f = true ∧ f.l.all Fm.formB = true := by
    rw [f.formB_eq, formsB_all] at hb
    simpa using hb
  have hall : ∀ x ∈ f.l, x.formB = true := List.all_eq_true.1 hnode.2
  have hsh := formB_shape hb
  have hlen : f.l.length ≤ 2 := by cases hsh <;> simp [Fm.l]
  have htl : f.ts.length ≤ 2 := by cases hsh <;> simp [Fm.ts]
  have hbl : f.bs.length ≤ 6 := by cases hsh <;> simp [Fm.bs] <;> assumption
  have hl10 : f.kind = 10 → ∃ x, f.l = [x] := by
    intro hk
    cases hsh <;> simp [Fm.kind, Fm.l] at hk ⊢ <;> omega
  have hl13 : f.kind = 13 → ∃ x y, f.l = [x, y] := by
    intro hk
    cases hsh <;> simp [Fm.kind, Fm.l] at hk ⊢ <;> omega
  have hsg : f.kind = 9 → signB f.name = true := by
    intro hk
    cases hsh <;> simp [Fm.kind, Fm.name] at hk ⊢ <;> first | omega | assumption
  have hn0 : (f.kind = 16 ∨ f.kind = 17) → 0 ≤ f.n ∧ f.n ≤ 1099511627776 := by
    intro hk
    cases hsh <;> simp [Fm.kind, Fm.n] at hk ⊢ <;> first | omega | (constructor <;> assumption)
  have h56 := fn56 (G := GG M) f
  generalize hr : (f.right t).d = r
  rw [d_cells] at h56 ⊢
  refine PFn.walk (fn := Tryd.f38) (code := bodyOf Tryd.f38) mixed
    (LL [(26, loopW (α := Nat) Tryd.prog (GG M) L0 0 (loopN (bodyOf Tryd.f38) 0) [1, 2, 4, 6, 126, 127] (fun i => i ≤ f.l.length) (fun i => f.l.length - i)
      (fun i => [(128, .d (.int .i64 i))]) (fun H i => [H.getD 0 .dead, H.getD 1 .dead, put5 (H.getD 2 .dead) (.vec 3 (((f.l.take i).map (·.right (t && !countB f.kind))).map Fm.d)), .vec i 6]))])
    Tryd.func38 (by kernel_rfl) ⟨_, rfl⟩ (LoopsOk.one (b1 := loopN (bodyOf Tryd.f38) 0) (by kernel_rfl) (by kernel_rfl) (loopW_sound mixed (ok0 (by kernel_rfl)))) ?_
  apply @of_vc _ (
    PFn Tryd.prog (GG M) (56 : Nat) [D.agg [D.int IntKind.i64 (Fm.kind f), D.str (Fm.name f), D.int IntKind.i64 (Fm.n f), D.sl (List.map Tm.d (Fm.ts f)), D.sl (List.map Bd.d (Fm.bs f)), D.sl
    (List.map Fm.d (Fm.l f))]] fun (rs : List D) => ∃ (b : Bool), rs = [D.bool b] ∧ ((bif bif b then t else false then true else bif Fm.kind f == (2 : Int) then !t else false) = true →
    [D.agg [D.int IntKind.i64 (2 : Int), D.str (Array.toList (ByteArray.data (ByteArray.mk #[]))), D.int IntKind.i64 (0 : Int), D.sl [], D.sl [], D.sl []]] = [r]) ∧ ((bif bif b then t else
    false then true else bif Fm.kind f == (2 : Int) then !t else false) = false → PFn Tryd.prog (GG M) (56 : Nat) [D.agg [D.int IntKind.i64 (Fm.kind f), D.str (Fm.name f), D.int IntKind.i64
    (Fm.n f), D.sl (List.map Tm.d (Fm.ts f)), D.sl (List.map Bd.d (Fm.bs f)), D.sl (List.map Fm.d (Fm.l f))]] fun (rs : List D) => ∃ (b : Bool), rs = [D.bool b] ∧ ((bif b then true else
    Fm.kind f == (2 : Int)) = true → [D.agg [D.int IntKind.i64 (1 : Int), D.str (Array.toList (ByteArray.data (ByteArray.mk #[]))), D.int IntKind.i64 (0 : Int), D.sl [], D.sl [], D.sl []]] =
    [r]) ∧ ((bif b then true else Fm.kind f == (2 : Int)) = false → ((Fm.kind f == (10 : Int)) = true → ((0 : Int) ≤ (0 : Int) ∧ (List.map Fm.d (Fm.l f))[Int.toNat (0 : Int)]? = some (aggAt
    [Sh.int IntKind.i64, Sh.str, Sh.int IntKind.i64, Sh.sl, Sh.sl, Sh.sl] (List.map Fm.d (Fm.l f)) (Int.toNat (0 : Int)))) ∧ PFn Tryd.prog (GG M) (38 : Nat) [aggAt [Sh.int IntKind.i64,
    Sh.str, Sh.int IntKind.i64, Sh.sl, Sh.sl, Sh.sl] (List.map Fm.d (Fm.l f)) (Int.toNat (0 : Int)), D.bool !t] fun (rs : List D) => ∃ (n : Int), ∃ (s : List UInt8), ∃ (n_1 : Int), ∃ (l :
    List D), ∃ (l_1 : List D), ∃ (l_2 : List D), rs = [D.agg [D.int IntKind.i64 n, D.str s, D.int IntKind.i64 n_1, D.sl l, D.sl l_1, D.sl l_2]] ∧ [D.agg [D.int IntKind.i64 n, D.str s, D.int
    IntKind.i64 n_1, D.sl l, D.sl l_1, D.sl l_2]] = [r]) ∧ ((Fm.kind f == (10 : Int)) = false → ((Fm.kind f == (13 : Int)) = true → ((0 : Int) ≤ (0 : Int) ∧ (List.map Fm.d (Fm.l
    f))[Int.toNat (0 : Int)]? = some (aggAt [Sh.int IntKind.i64, Sh.str, Sh.int IntKind.i64, Sh.sl, Sh.sl, Sh.sl] (List.map Fm.d (Fm.l f)) (Int.toNat (0 : Int)))) ∧ ((0 : Int) ≤ (1 : Int) ∧
    (List.map Fm.d (Fm.l f))[Int.toNat (1 : Int)]? = some (aggAt [Sh.int IntKind.i64, Sh.str, Sh.int IntKind.i64, Sh.sl, Sh.sl, Sh.sl] (List.map Fm.d (Fm.l f)) (Int.toNat (1 : Int)))) ∧ PFn
    Tryd.prog (GG M) (38 : Nat) [aggAt [Sh.int IntKind.i64, Sh.str, Sh.int IntKind.i64, Sh.sl, Sh.sl, Sh.sl] (List.map Fm.d (Fm.l f)) (Int.toNat (0 : Int)), D.bool !t] fun (rs : List D) => ∃
    (n : Int), ∃ (s : List UInt8), ∃ (n_1 : Int), ∃ (l : List D), ∃ (l_1 : List D), ∃ (l_2 : List D), rs = [D.agg [D.int IntKind.i64 n, D.str s, D.int IntKind.i64 n_1, D.sl l, D.sl l_1, D.sl
    l_2]] ∧ PFn Tryd.prog (GG M) (38 : Nat) [aggAt [Sh.int IntKind.i64, Sh.str, Sh.int IntKind.i64, Sh.sl, Sh.sl, Sh.sl] (List.map Fm.d (Fm.l f)) (Int.toNat (1 : Int)), D.bool t] fun (rs :
    List D) => ∃ (n_2 : Int), ∃ (s_1 : List UInt8), ∃ (n_3 : Int), ∃ (l_3 : List D), ∃ (l_4 : List D), ∃ (l_5 : List D), rs = [D.agg [D.int IntKind.i64 n_2, D.str s_1, D.int IntKind.i64 n_3,
    D.sl l_3, D.sl l_4, D.sl l_5]] ∧ (t = true → [D.agg [D.int IntKind.i64 (11 : Int), D.str (Array.toList (ByteArray.data (ByteArray.mk #[]))), D.int IntKind.i64 (0 : Int), D.sl [], D.sl
    [], D.sl [D.agg [D.int IntKind.i64 n, D.str s, D.int IntKind.i64 n_1, D.sl l, D.sl l_1, D.sl l_2], D.agg [D.int IntKind.i64 n_2, D.str s_1, D.int IntKind.i64 n_3, D.sl l_3, D.sl l_4,
    D.sl l_5]]]] = [r]) ∧ (t = false → [D.agg [D.int IntKind.i64 (12 : Int), D.str (Array.toList (ByteArray.data (ByteArray.mk #[]))), D.int IntKind.i64 (0 : Int), D.sl [], D.sl [], D.sl
    [D.agg [D.int IntKind.i64 n, D.str s, D.int IntKind.i64 n_1, D.sl l, D.sl l_1, D.sl l_2], D.agg [D.int IntKind.i64 n_2, D.str s_1, D.int IntKind.i64 n_3, D.sl l_3, D.sl l_4, D.sl l_5]]]]
    = [r])) ∧ ((Fm.kind f == (13 : Int)) = false → PFn Tryd.prog (GG M) (42 : Nat) [D.int IntKind.i64 (Fm.kind f)] fun (rs : List D) => ∃ (b : Bool), rs = [D.bool b] ∧ ((bif bif b then t
    else false then Fm.kind f != (9 : Int) else false) = true → [D.agg [D.int IntKind.i64 (10 : Int), D.str (Array.toList (ByteArray.data (ByteArray.mk #[]))), D.int IntKind.i64 (0 : Int),
    D.sl [], D.sl [], D.sl [D.agg [D.int IntKind.i64 (Fm.kind f), D.str (Fm.name f), D.int IntKind.i64 (Fm.n f), D.sl (List.map Tm.d (Fm.ts f)), D.sl (List.map Bd.d (Fm.bs f)), D.sl
    (List.map Fm.d (Fm.l f))]]]] = [r]) ∧ ((bif bif b then t else false then Fm.kind f != (9 : Int) else false) = false → PFn Tryd.prog (GG M) (57 : Nat) [D.sl (List.map Tm.d (Fm.ts f))] fun
    (rs : List D) => ∃ (l : List D), rs = [D.sl l] ∧ PFn Tryd.prog (GG M) (58 : Nat) [D.sl (List.map Bd.d (Fm.bs f))] fun (rs : List D) => ∃ (l_1 : List D), rs = [D.sl l_1] ∧ (t = true →
    ((Fm.kind f == (9 : Int)) = true → (List.all (Maps.si M) fun (kv : D × D) => sameKind (D.str (Fm.name f)) (Prod.fst kv) && Sh.ok Sh.str (Prod.snd kv)) = true ∧ ((Fm.kind f != (9 : Int))
    = true → (List.all (Maps.du M) fun (kv : D × D) => sameKind (D.int IntKind.i64 (Fm.kind f)) (Prod.fst kv) && Sh.ok (Sh.int IntKind.i64) (Prod.snd kv)) = true ∧ ∃ (x0 : Nat), x0 ≤
    List.length (Fm.l f) ∧ ((t = t ∧ AV.ptr (0 : Nat) (0 : Nat) = AV.ptr (0 : Nat) (0 : Nat) ∧ AV.ptr (1 : Nat) (0 : Nat) = AV.ptr (1 : Nat) (0 : Nat) ∧ AV.ptr (2 : Nat) (0 : Nat) = AV.ptr
    (2 : Nat) (0 : Nat) ∧ List.map Fm.d (Fm.l f) = List.map Fm.d (Fm.l f) ∧ (↑(List.length (List.map Fm.d (Fm.l f))) : Int) = (↑(List.length (List.map Fm.d (Fm.l f))) : Int) ∧ (0 : Int) =
    (↑x0 : Int) ∧ True) ∧ (Fm.kind f = Fm.kind f ∧ Fm.name f = Fm.name f ∧ Fm.n f = Fm.n f ∧ List.map Tm.d (Fm.ts f) = List.map Tm.d (Fm.ts f) ∧ List.map Bd.d (Fm.bs f) = List.map Bd.d
    (Fm.bs f) ∧ List.map Fm.d (Fm.l f) = List.map Fm.d (Fm.l f) ∧ True) ∧ ((0 : Int) = (0 : Int) ∧ Array.toList (ByteArray.data (ByteArray.mk #[])) = Array.toList (ByteArray.data
    (ByteArray.mk #[])) ∧ (0 : Int) = (0 : Int) ∧ ([] : List D) = [] ∧ ([] : List D) = [] ∧ ([] : List D) = [] ∧ True) ∧ (D.toInt (Option.getD (lookD (Maps.du M) (D.int IntKind.i64 (Fm.kind
    f))) (D.int IntKind.i64 (0 : Int))) = D.toInt (Option.getD (lookD (Maps.du M) (D.int IntKind.i64 (Fm.kind f))) (D.int IntKind.i64 (0 : Int))) ∧ D.toStr (Option.getD (lookD (Maps.si M)
    (D.str (Fm.name f))) (D.str (Array.toList (ByteArray.data (ByteArray.mk #[]))))) = D.toStr (Option.getD (lookD (Maps.si M) (D.str (Fm.name f))) (D.str (Array.toList (ByteArray.data
    (ByteArray.mk #[]))))) ∧ Fm.n f = Fm.n f ∧ l = l ∧ l_1 = l_1 ∧ ([] = List.map Fm.d (List.map (fun (x : Fm) => Fm.right x (t && !countB (Fm.kind f))) (List.take x0 (Fm.l f))) ∧
    List.length ([] : List D) ≤ x0) ∧ True) ∧ True) ∧ ∀ (x : Nat), x ≤ List.length (Fm.l f) → (decide ((↑x : Int) < (↑(List.length (List.map Fm.d (Fm.l f))) : Int)) = true → ((0 : Int) ≤ (↑x
    : Int) ∧ (List.map Fm.d (Fm.l f))[Int.toNat (↑x : Int)]? = some (aggAt [Sh.int IntKind.i64, Sh.str, Sh.int IntKind.i64, Sh.sl, Sh.sl, Sh.sl] (List.map Fm.d (Fm.l f)) (Int.toNat (↑x :
    Int)))) ∧ PFn Tryd.prog (GG M) (44 : Nat) [D.int IntKind.i64 (Fm.kind f)] fun (rs : List D) => ∃ (b : Bool), rs = [D.bool b] ∧ PFn Tryd.prog (GG M) (38 : Nat) [aggAt [Sh.int IntKind.i64,
    Sh.str, Sh.int IntKind.i64, Sh.sl, Sh.sl, Sh.sl] (List.map Fm.d (Fm.l f)) (Int.toNat (↑x : Int)), D.bool (bif t then !b else false)] fun (rs : List D) => ∃ (n : Int), ∃ (s : List UInt8),
    ∃ (n_1 : Int), ∃ (l_2 : List D), ∃ (l_3 : List D), ∃ (l_4 : List D), rs = [D.agg [D.int IntKind.i64 n, D.str s, D.int IntKind.i64 n_1, D.sl l_2, D.sl l_3, D.sl l_4]] ∧ (x = List.length
    (List.map Fm.d (List.map (fun (x : Fm) => Fm.right x (t && !countB (Fm.kind f))) (List.take x (Fm.l f)))) ∧ (6 : Nat) = (6 : Nat) ∧ FA (List.map Fm.d (List.map (fun (x : Fm) => Fm.right
    x (t && !countB (Fm.kind f))) (List.take x (Fm.l f)))) [D.agg [D.int IntKind.i64 n, D.str s, D.int IntKind.i64 n_1, D.sl l_2, D.sl l_3, D.sl l_4]] (nat_lit 6) (nat_lit 104)) ∧ ∃ (y :
    Nat), y ≤ List.length (Fm.l f) ∧ List.length (Fm.l f) - y < List.length (Fm.l f) - x ∧ (t = t ∧ AV.ptr (0 : Nat) (0 : Nat) = AV.ptr (0 : Nat) (0 : Nat) ∧ AV.ptr (1 : Nat) (0 : Nat) =
    AV.ptr (1 : Nat) (0 : Nat) ∧ AV.ptr (2 : Nat) (0 : Nat) = AV.ptr (2 : Nat) (0 : Nat) ∧ List.map Fm.d (Fm.l f) = List.map Fm.d (Fm.l f) ∧ (↑(List.length (List.map Fm.d (Fm.l f))) : Int) =
    (↑(List.length (List.map Fm.d (Fm.l f))) : Int) ∧ IntKind.wrap IntKind.i64 ((↑x : Int) + (1 : Int)) = (↑y : Int) ∧ True) ∧ (Fm.kind f = Fm.kind f ∧ Fm.name f = Fm.name f ∧ Fm.n f = Fm.n
    f ∧ List.map Tm.d (Fm.ts f) = List.map Tm.d (Fm.ts f) ∧ List.map Bd.d (Fm.bs f) = List.map Bd.d (Fm.bs f) ∧ List.map Fm.d (Fm.l f) = List.map Fm.d (Fm.l f) ∧ True) ∧ ((0 : Int) = (0 :
    Int) ∧ Array.toList (ByteArray.data (ByteArray.mk #[])) = Array.toList (ByteArray.data (ByteArray.mk #[])) ∧ (0 : Int) = (0 : Int) ∧ ([] : List D) = [] ∧ ([] : List D) = [] ∧ ([] : List
    D) = [] ∧ True) ∧ (D.toInt (Option.getD (lookD (Maps.du M) (D.int IntKind.i64 (Fm.kind f))) (D.int IntKind.i64 (0 : Int))) = D.toInt (Option.getD (lookD (Maps.du M) (D.int IntKind.i64
    (Fm.kind f))) (D.int IntKind.i64 (0 : Int))) ∧ D.toStr (Option.getD (lookD (Maps.si M) (D.str (Fm.name f))) (D.str (Array.toList (ByteArray.data (ByteArray.mk #[]))))) = D.toStr
    (Option.getD (lookD (Maps.si M) (D.str (Fm.name f))) (D.str (Array.toList (ByteArray.data (ByteArray.mk #[]))))) ∧ Fm.n f = Fm.n f ∧ l = l ∧ l_1 = l_1 ∧ List.map Fm.d (List.map (fun (x :
    Fm) => Fm.right x (t && !countB (Fm.kind f))) (List.take x (Fm.l f))) ++ List.reverse [mkD true [D.int IntKind.i64 n, D.str s, D.int IntKind.i64 n_1, D.sl l_2, D.sl l_3, D.sl l_4]] =
    List.map Fm.d (List.map (fun (x : Fm) => Fm.right x (t && !countB (Fm.kind f))) (List.take y (Fm.l f))) ∧ True) ∧ List.length (List.map Fm.d (List.map (fun (x : Fm) => Fm.right x (t &&
    !countB (Fm.kind f))) (List.take x (Fm.l f)))) + List.length (List.reverse [mkD true [D.int IntKind.i64 n, D.str s, D.int IntKind.i64 n_1, D.sl l_2, D.sl l_3, D.sl l_4]]) = y ∧ True) ∧
    (decide ((↑x : Int) < (↑(List.length (List.map Fm.d (Fm.l f))) : Int)) = false → [D.agg [D.int IntKind.i64 (D.toInt (Option.getD (lookD (Maps.du M) (D.int IntKind.i64 (Fm.kind f)))
    (D.int IntKind.i64 (0 : Int)))), D.str (D.toStr (Option.getD (lookD (Maps.si M) (D.str (Fm.name f))) (D.str (Array.toList (ByteArray.data (ByteArray.mk #[])))))), D.int IntKind.i64 (Fm.n
    f), D.sl l, D.sl l_1, D.sl (List.map Fm.d (List.map (fun (x : Fm) => Fm.right x (t && !countB (Fm.kind f))) (List.take x (Fm.l f))))]] = [r])) ∧ ((Fm.kind f != (9 : Int)) = false → ∃ (x0
    : Nat), x0 ≤ List.length (Fm.l f) ∧ ((t = t ∧ AV.ptr (0 : Nat) (0 : Nat) = AV.ptr (0 : Nat) (0 : Nat) ∧ AV.ptr (1 : Nat) (0 : Nat) = AV.ptr (1 : Nat) (0 : Nat) ∧ AV.ptr (2 : Nat) (0 :
    Nat) = AV.ptr (2 : Nat) (0 : Nat) ∧ List.map Fm.d (Fm.l f) = List.map Fm.d (Fm.l f) ∧ (↑(List.length (List.map Fm.d (Fm.l f))) : Int) = (↑(List.length (List.map Fm.d (Fm.l f))) : Int) ∧
    (0 : Int) = (↑x0 : Int) ∧ True) ∧ (Fm.kind f = Fm.kind f ∧ Fm.name f = Fm.name f ∧ Fm.n f = Fm.n f ∧ List.map Tm.d (Fm.ts f) = List.map Tm.d (Fm.ts f) ∧ List.map Bd.d (Fm.bs f) =
    List.map Bd.d (Fm.bs f) ∧ List.map Fm.d (Fm.l f) = List.map Fm.d (Fm.l f) ∧ True) ∧ ((0 : Int) = (0 : Int) ∧ Array.toList (ByteArray.data (ByteArray.mk #[])) = Array.toList
    (ByteArray.data (ByteArray.mk #[])) ∧ (0 : Int) = (0 : Int) ∧ ([] : List D) = [] ∧ ([] : List D) = [] ∧ ([] : List D) = [] ∧ True) ∧ (Fm.kind f = Fm.kind f ∧ D.toStr (Option.getD (lookD
    (Maps.si M) (D.str (Fm.name f))) (D.str (Array.toList (ByteArray.data (ByteArray.mk #[]))))) = D.toStr (Option.getD (lookD (Maps.si M) (D.str (Fm.name f))) (D.str (Array.toList
    (ByteArray.data (ByteArray.mk #[]))))) ∧ Fm.n f = Fm.n f ∧ l = l ∧ l_1 = l_1 ∧ ([] = List.map Fm.d (List.map (fun (x : Fm) => Fm.right x (t && !countB (Fm.kind f))) (List.take x0 (Fm.l
    f))) ∧ List.length ([] : List D) ≤ x0) ∧ True) ∧ True) ∧ ∀ (x : Nat), x ≤ List.length (Fm.l f) → (decide ((↑x : Int) < (↑(List.length (List.map Fm.d (Fm.l f))) : Int)) = true → ((0 :
    Int) ≤ (↑x : Int) ∧ (List.map Fm.d (Fm.l f))[Int.toNat (↑x : Int)]? = some (aggAt [Sh.int IntKind.i64, Sh.str, Sh.int IntKind.i64, Sh.sl, Sh.sl, Sh.sl] (List.map Fm.d (Fm.l f))
    (Int.toNat (↑x : Int)))) ∧ PFn Tryd.prog (GG M) (44 : Nat) [D.int IntKind.i64 (Fm.kind f)] fun (rs : List D) => ∃ (b : Bool), rs = [D.bool b] ∧ PFn Tryd.prog (GG M) (38 : Nat) [aggAt
    [Sh.int IntKind.i64, Sh.str, Sh.int IntKind.i64, Sh.sl, Sh.sl, Sh.sl] (List.map Fm.d (Fm.l f)) (Int.toNat (↑x : Int)), D.bool (bif t then !b else false)] fun (rs : List D) => ∃ (n :
    Int), ∃ (s : List UInt8), ∃ (n_1 : Int), ∃ (l_2 : List D), ∃ (l_3 : List D), ∃ (l_4 : List D), rs = [D.agg [D.int IntKind.i64 n, D.str s, D.int IntKind.i64 n_1, D.sl l_2, D.sl l_3, D.sl
    l_4]] ∧ (x = List.length (List.map Fm.d (List.map (fun (x : Fm) => Fm.right x (t && !countB (Fm.kind f))) (List.take x (Fm.l f)))) ∧ (6 : Nat) = (6 : Nat) ∧ FA (List.map Fm.d (List.map
    (fun (x : Fm) => Fm.right x (t && !countB (Fm.kind f))) (List.take x (Fm.l f)))) [D.agg [D.int IntKind.i64 n, D.str s, D.int IntKind.i64 n_1, D.sl l_2, D.sl l_3, D.sl l_4]] (nat_lit 6)
    (nat_lit 104)) ∧ ∃ (y : Nat), y ≤ List.length (Fm.l f) ∧ List.length (Fm.l f) - y < List.length (Fm.l f) - x ∧ (t = t ∧ AV.ptr (0 : Nat) (0 : Nat) = AV.ptr (0 : Nat) (0 : Nat) ∧ AV.ptr
    (1 : Nat) (0 : Nat) = AV.ptr (1 : Nat) (0 : Nat) ∧ AV.ptr (2 : Nat) (0 : Nat) = AV.ptr (2 : Nat) (0 : Nat) ∧ List.map Fm.d (Fm.l f) = List.map Fm.d (Fm.l f) ∧ (↑(List.length (List.map
    Fm.d (Fm.l f))) : Int) = (↑(List.length (List.map Fm.d (Fm.l f))) : Int) ∧ IntKind.wrap IntKind.i64 ((↑x : Int) + (1 : Int)) = (↑y : Int) ∧ True) ∧ (Fm.kind f = Fm.kind f ∧ Fm.name f =
    Fm.name f ∧ Fm.n f = Fm.n f ∧ List.map Tm.d (Fm.ts f) = List.map Tm.d (Fm.ts f) ∧ List.map Bd.d (Fm.bs f) = List.map Bd.d (Fm.bs f) ∧ List.map Fm.d (Fm.l f) = List.map Fm.d (Fm.l f) ∧
    True) ∧ ((0 : Int) = (0 : Int) ∧ Array.toList (ByteArray.data (ByteArray.mk #[])) = Array.toList (ByteArray.data (ByteArray.mk #[])) ∧ (0 : Int) = (0 : Int) ∧ ([] : List D) = [] ∧ ([] :
    List D) = [] ∧ ([] : List D) = [] ∧ True) ∧ (Fm.kind f = Fm.kind f ∧ D.toStr (Option.getD (lookD (Maps.si M) (D.str (Fm.name f))) (D.str (Array.toList (ByteArray.data (ByteArray.mk
    #[]))))) = D.toStr (Option.getD (lookD (Maps.si M) (D.str (Fm.name f))) (D.str (Array.toList (ByteArray.data (ByteArray.mk #[]))))) ∧ Fm.n f = Fm.n f ∧ l = l ∧ l_1 = l_1 ∧ List.map Fm.d
    (List.map (fun (x : Fm) => Fm.right x (t && !countB (Fm.kind f))) (List.take x (Fm.l f))) ++ List.reverse [mkD true [D.int IntKind.i64 n, D.str s, D.int IntKind.i64 n_1, D.sl l_2, D.sl
    l_3, D.sl l_4]] = List.map Fm.d (List.map (fun (x : Fm) => Fm.right x (t && !countB (Fm.kind f))) (List.take y (Fm.l f))) ∧ True) ∧ List.length (List.map Fm.d (List.map (fun (x : Fm) =>
    Fm.right x (t && !countB (Fm.kind f))) (List.take x (Fm.l f)))) + List.length (List.reverse [mkD true [D.int IntKind.i64 n, D.str s, D.int IntKind.i64 n_1, D.sl l_2, D.sl l_3, D.sl
    l_4]]) = y ∧ True) ∧ (decide ((↑x : Int) < (↑(List.length (List.map Fm.d (Fm.l f))) : Int)) = false → [D.agg [D.int IntKind.i64 (Fm.kind f), D.str (D.toStr (Option.getD (lookD (Maps.si
    M) (D.str (Fm.name f))) (D.str (Array.toList (ByteArray.data (ByteArray.mk #[])))))), D.int IntKind.i64 (Fm.n f), D.sl l, D.sl l_1, D.sl (List.map Fm.d (List.map (fun (x : Fm) =>
    Fm.right x (t && !countB (Fm.kind f))) (List.take x (Fm.l f))))]] = [r]))) ∧ ((Fm.kind f == (9 : Int)) = false → ((Fm.kind f == (16 : Int)) = true → ((Fm.kind f != (9 : Int)) = true →
    (List.all (Maps.du M) fun (kv : D × D) => sameKind (D.int IntKind.i64 (Fm.kind f)) (Prod.fst kv) && Sh.ok (Sh.int IntKind.i64) (Prod.snd kv)) = true ∧ ∃ (x0 : Nat), x0 ≤ List.length
    (Fm.l f) ∧ ((t = t ∧ AV.ptr (0 : Nat) (0 : Nat) = AV.ptr (0 : Nat) (0 : Nat) ∧ AV.ptr (1 : Nat) (0 : Nat) = AV.ptr (1 : Nat) (0 : Nat) ∧ AV.ptr (2 : Nat) (0 : Nat) = AV.ptr (2 : Nat) (0
    : Nat) ∧ List.map Fm.d (Fm.l f) = List.map Fm.d (Fm.l f) ∧ (↑(List.length (List.map Fm.d (Fm.l f))) : Int) = (↑(List.length (List.map Fm.d (Fm.l f))) : Int) ∧ (0 : Int) = (↑x0 : Int) ∧
    True) ∧ (Fm.kind f = Fm.kind f ∧ Fm.name f = Fm.name f ∧ Fm.n f = Fm.n f ∧ List.map Tm.d (Fm.ts f) = List.map Tm.d (Fm.ts f) ∧ List.map Bd.d (Fm.bs f) = List.map Bd.d (Fm.bs f) ∧
    List.map Fm.d (Fm.l f) = List.map Fm.d (Fm.l f) ∧ True) ∧ ((0 : Int) = (0 : Int) ∧ Array.toList (ByteArray.data (ByteArray.mk #[])) = Array.toList (ByteArray.data (ByteArray.mk #[])) ∧
    (0 : Int) = (0 : Int) ∧ ([] : List D) = [] ∧ ([] : List D) = [] ∧ ([] : List D) = [] ∧ True) ∧ (D.toInt (Option.getD (lookD (Maps.du M) (D.int IntKind.i64 (Fm.kind f))) (D.int
    IntKind.i64 (0 : Int))) = D.toInt (Option.getD (lookD (Maps.du M) (D.int IntKind.i64 (Fm.kind f))) (D.int IntKind.i64 (0 : Int))) ∧ Fm.name f = Fm.name f ∧ IntKind.wrap IntKind.i64 (Fm.n
    f - (1 : Int)) = IntKind.wrap IntKind.i64 (Fm.n f - (1 : Int)) ∧ l = l ∧ l_1 = l_1 ∧ ([] = List.map Fm.d (List.map (fun (x : Fm) => Fm.right x (t && !countB (Fm.kind f))) (List.take x0
    (Fm.l f))) ∧ List.length ([] : List D) ≤ x0) ∧ True) ∧ True) ∧ ∀ (x : Nat), x ≤ List.length (Fm.l f) → (decide ((↑x : Int) < (↑(List.length (List.map Fm.d (Fm.l f))) : Int)) = true → ((0
    : Int) ≤ (↑x : Int) ∧ (List.map Fm.d (Fm.l f))[Int.toNat (↑x : Int)]? = some (aggAt [Sh.int IntKind.i64, Sh.str, Sh.int IntKind.i64, Sh.sl, Sh.sl, Sh.sl] (List.map Fm.d (Fm.l f))
    (Int.toNat (↑x : Int)))) ∧ PFn Tryd.prog (GG M) (44 : Nat) [D.int IntKind.i64 (Fm.kind f)] fun (rs : List D) => ∃ (b : Bool), rs = [D.bool b] ∧ PFn Tryd.prog (GG M) (38 : Nat) [aggAt
    [Sh.int IntKind.i64, Sh.str, Sh.int IntKind.i64, Sh.sl, Sh.sl, Sh.sl] (List.map Fm.d (Fm.l f)) (Int.toNat (↑x : Int)), D.bool (bif t then !b else false)] fun (rs : List D) => ∃ (n :
    Int), ∃ (s : List UInt8), ∃ (n_1 : Int), ∃ (l_2 : List D), ∃ (l_3 : List D), ∃ (l_4 : List D), rs = [D.agg [D.int IntKind.i64 n, D.str s, D.int IntKind.i64 n_1, D.sl l_2, D.sl l_3, D.sl
    l_4]] ∧ (x = List.length (List.map Fm.d (List.map (fun (x : Fm) => Fm.right x (t && !countB (Fm.kind f))) (List.take x (Fm.l f)))) ∧ (6 : Nat) = (6 : Nat) ∧ FA (List.map Fm.d (List.map
    (fun (x : Fm) => Fm.right x (t && !countB (Fm.kind f))) (List.take x (Fm.l f)))) [D.agg [D.int IntKind.i64 n, D.str s, D.int IntKind.i64 n_1, D.sl l_2, D.sl l_3, D.sl l_4]] (nat_lit 6)
    (nat_lit 104)) ∧ ∃ (y : Nat), y ≤ List.length (Fm.l f) ∧ List.length (Fm.l f) - y < List.length (Fm.l f) - x ∧ (t = t ∧ AV.ptr (0 : Nat) (0 : Nat) = AV.ptr (0 : Nat) (0 : Nat) ∧ AV.ptr
    (1 : Nat) (0 : Nat) = AV.ptr (1 : Nat) (0 : Nat) ∧ AV.ptr (2 : Nat) (0 : Nat) = AV.ptr (2 : Nat) (0 : Nat) ∧ List.map Fm.d (Fm.l f) = List.map Fm.d (Fm.l f) ∧ (↑(List.length (List.map
    Fm.d (Fm.l f))) : Int) = (↑(List.length (List.map Fm.d (Fm.l f))) : Int) ∧ IntKind.wrap IntKind.i64 ((↑x : Int) + (1 : Int)) = (↑y : Int) ∧ True) ∧ (Fm.kind f = Fm.kind f ∧ Fm.name f =
    Fm.name f ∧ Fm.n f = Fm.n f ∧ List.map Tm.d (Fm.ts f) = List.map Tm.d (Fm.ts f) ∧ List.map Bd.d (Fm.bs f) = List.map Bd.d (Fm.bs f) ∧ List.map Fm.d (Fm.l f) = List.map Fm.d (Fm.l f) ∧
    True) ∧ ((0 : Int) = (0 : Int) ∧ Array.toList (ByteArray.data (ByteArray.mk #[])) = Array.toList (ByteArray.data (ByteArray.mk #[])) ∧ (0 : Int) = (0 : Int) ∧ ([] : List D) = [] ∧ ([] :
    List D) = [] ∧ ([] : List D) = [] ∧ True) ∧ (D.toInt (Option.getD (lookD (Maps.du M) (D.int IntKind.i64 (Fm.kind f))) (D.int IntKind.i64 (0 : Int))) = D.toInt (Option.getD (lookD
    (Maps.du M) (D.int IntKind.i64 (Fm.kind f))) (D.int IntKind.i64 (0 : Int))) ∧ Fm.name f = Fm.name f ∧ IntKind.wrap IntKind.i64 (Fm.n f - (1 : Int)) = IntKind.wrap IntKind.i64 (Fm.n f -
    (1 : Int)) ∧ l = l ∧ l_1 = l_1 ∧ List.map Fm.d (List.map (fun (x : Fm) => Fm.right x (t && !countB (Fm.kind f))) (List.take x (Fm.l f))) ++ List.reverse [mkD true [D.int IntKind.i64 n,
    D.str s, D.int IntKind.i64 n_1, D.sl l_2, D.sl l_3, D.sl l_4]] = List.map Fm.d (List.map (fun (x : Fm) => Fm.right x (t && !countB (Fm.kind f))) (List.take y (Fm.l f))) ∧ True) ∧
    List.length (List.map Fm.d (List.map (fun (x : Fm) => Fm.right x (t && !countB (Fm.kind f))) (List.take x (Fm.l f)))) + List.length (List.reverse [mkD true [D.int IntKind.i64 n, D.str s,
    D.int IntKind.i64 n_1, D.sl l_2, D.sl l_3, D.sl l_4]]) = y ∧ True) ∧ (decide ((↑x : Int) < (↑(List.length (List.map Fm.d (Fm.l f))) : Int)) = false → [D.agg [D.int IntKind.i64 (D.toInt
    (Option.getD (lookD (Maps.du M) (D.int IntKind.i64 (Fm.kind f))) (D.int IntKind.i64 (0 : Int)))), D.str (Fm.name f), D.int IntKind.i64 (IntKind.wrap IntKind.i64 (Fm.n f - (1 : Int))),
    D.sl l, D.sl l_1, D.sl (List.map Fm.d (List.map (fun (x : Fm) => Fm.right x (t && !countB (Fm.kind f))) (List.take x (Fm.l f))))]] = [r])) ∧ ((Fm.kind f != (9 : Int)) = false → ∃ (x0 :
    Nat), x0 ≤ List.length (Fm.l f) ∧ ((t = t ∧ AV.ptr (0 : Nat) (0 : Nat) = AV.ptr (0 : Nat) (0 : Nat) ∧ AV.ptr (1 : Nat) (0 : Nat) = AV.ptr (1 : Nat) (0 : Nat) ∧ AV.ptr (2 : Nat) (0 : Nat)
    = AV.ptr (2 : Nat) (0 : Nat) ∧ List.map Fm.d (Fm.l f) = List.map Fm.d (Fm.l f) ∧ (↑(List.length (List.map Fm.d (Fm.l f))) : Int) = (↑(List.length (List.map Fm.d (Fm.l f))) : Int) ∧ (0 :
    Int) = (↑x0 : Int) ∧ True) ∧ (Fm.kind f = Fm.kind f ∧ Fm.name f = Fm.name f ∧ Fm.n f = Fm.n f ∧ List.map Tm.d (Fm.ts f) = List.map Tm.d (Fm.ts f) ∧ List.map Bd.d (Fm.bs f) = List.map
    Bd.d (Fm.bs f) ∧ List.map Fm.d (Fm.l f) = List.map Fm.d (Fm.l f) ∧ True) ∧ ((0 : Int) = (0 : Int) ∧ Array.toList (ByteArray.data (ByteArray.mk #[])) = Array.toList (ByteArray.data
    (ByteArray.mk #[])) ∧ (0 : Int) = (0 : Int) ∧ ([] : List D) = [] ∧ ([] : List D) = [] ∧ ([] : List D) = [] ∧ True) ∧ (Fm.kind f = Fm.kind f ∧ Fm.name f = Fm.name f ∧ IntKind.wrap
    IntKind.i64 (Fm.n f - (1 : Int)) = IntKind.wrap IntKind.i64 (Fm.n f - (1 : Int)) ∧ l = l ∧ l_1 = l_1 ∧ ([] = List.map Fm.d (List.map (fun (x : Fm) => Fm.right x (t && !countB (Fm.kind
    f))) (List.take x0 (Fm.l f))) ∧ List.length ([] : List D) ≤ x0) ∧ True) ∧ True) ∧ ∀ (x : Nat), x ≤ List.length (Fm.l f) → (decide ((↑x : Int) < (↑(List.length (List.map Fm.d (Fm.l f))) :
    Int)) = true → ((0 : Int) ≤ (↑x : Int) ∧ (List.map Fm.d (Fm.l f))[Int.toNat (↑x : Int)]? = some (aggAt [Sh.int IntKind.i64, Sh.str, Sh.int IntKind.i64, Sh.sl, Sh.sl, Sh.sl] (List.map
    Fm.d (Fm.l f)) (Int.toNat (↑x : Int)))) ∧ PFn Tryd.prog (GG M) (44 : Nat) [D.int IntKind.i64 (Fm.kind f)] fun (rs : List D) => ∃ (b : Bool), rs = [D.bool b] ∧ PFn Tryd.prog (GG M) (38 :
    Nat) [aggAt [Sh.int IntKind.i64, Sh.str, Sh.int IntKind.i64, Sh.sl, Sh.sl, Sh.sl] (List.map Fm.d (Fm.l f)) (Int.toNat (↑x : Int)), D.bool (bif t then !b else false)] fun (rs : List D) =>
    ∃ (n : Int), ∃ (s : List UInt8), ∃ (n_1 : Int), ∃ (l_2 : List D), ∃ (l_3 : List D), ∃ (l_4 : List D), rs = [D.agg [D.int IntKind.i64 n, D.str s, D.int IntKind.i64 n_1, D.sl l_2, D.sl
    l_3, D.sl l_4]] ∧ (x = List.length (List.map Fm.d (List.map (fun (x : Fm) => Fm.right x (t && !countB (Fm.kind f))) (List.take x (Fm.l f)))) ∧ (6 : Nat) = (6 : Nat) ∧ FA (List.map Fm.d
    (List.map (fun (x : Fm) => Fm.right x (t && !countB (Fm.kind f))) (List.take x (Fm.l f)))) [D.agg [D.int IntKind.i64 n, D.str s, D.int IntKind.i64 n_1, D.sl l_2, D.sl l_3, D.sl l_4]]
    (nat_lit 6) (nat_lit 104)) ∧ ∃ (y : Nat), y ≤ List.length (Fm.l f) ∧ List.length (Fm.l f) - y < List.length (Fm.l f) - x ∧ (t = t ∧ AV.ptr (0 : Nat) (0 : Nat) = AV.ptr (0 : Nat) (0 :
    Nat) ∧ AV.ptr (1 : Nat) (0 : Nat) = AV.ptr (1 : Nat) (0 : Nat) ∧ AV.ptr (2 : Nat) (0 : Nat) = AV.ptr (2 : Nat) (0 : Nat) ∧ List.map Fm.d (Fm.l f) = List.map Fm.d (Fm.l f) ∧
    (↑(List.length (List.map Fm.d (Fm.l f))) : Int) = (↑(List.length (List.map Fm.d (Fm.l f))) : Int) ∧ IntKind.wrap IntKind.i64 ((↑x : Int) + (1 : Int)) = (↑y : Int) ∧ True) ∧ (Fm.kind f =
    Fm.kind f ∧ Fm.name f = Fm.name f ∧ Fm.n f = Fm.n f ∧ List.map Tm.d (Fm.ts f) = List.map Tm.d (Fm.ts f) ∧ List.map Bd.d (Fm.bs f) = List.map Bd.d (Fm.bs f) ∧ List.map Fm.d (Fm.l f) =
    List.map Fm.d (Fm.l f) ∧ True) ∧ ((0 : Int) = (0 : Int) ∧ Array.toList (ByteArray.data (ByteArray.mk #[])) = Array.toList (ByteArray.data (ByteArray.mk #[])) ∧ (0 : Int) = (0 : Int) ∧
    ([] : List D) = [] ∧ ([] : List D) = [] ∧ ([] : List D) = [] ∧ True) ∧ (Fm.kind f = Fm.kind f ∧ Fm.name f = Fm.name f ∧ IntKind.wrap IntKind.i64 (Fm.n f - (1 : Int)) = IntKind.wrap
    IntKind.i64 (Fm.n f - (1 : Int)) ∧ l = l ∧ l_1 = l_1 ∧ List.map Fm.d (List.map (fun (x : Fm) => Fm.right x (t && !countB (Fm.kind f))) (List.take x (Fm.l f))) ++ List.reverse [mkD true
    [D.int IntKind.i64 n, D.str s, D.int IntKind.i64 n_1, D.sl l_2, D.sl l_3, D.sl l_4]] = List.map Fm.d (List.map (fun (x : Fm) => Fm.right x (t && !countB (Fm.kind f))) (List.take y (Fm.l
    f))) ∧ True) ∧ List.length (List.map Fm.d (List.map (fun (x : Fm) => Fm.right x (t && !countB (Fm.kind f))) (List.take x (Fm.l f)))) + List.length (List.reverse [mkD true [D.int
    IntKind.i64 n, D.str s, D.int IntKind.i64 n_1, D.sl l_2, D.sl l_3, D.sl l_4]]) = y ∧ True) ∧ (decide ((↑x : Int) < (↑(List.length (List.map Fm.d (Fm.l f))) : Int)) = false → [D.agg
    [D.int IntKind.i64 (Fm.kind f), D.str (Fm.name f), D.int IntKind.i64 (IntKind.wrap IntKind.i64 (Fm.n f - (1 : Int))), D.sl l, D.sl l_1, D.sl (List.map Fm.d (List.map (fun (x : Fm) =>
    Fm.right x (t && !countB (Fm.kind f))) (List.take x (Fm.l f))))]] = [r]))) ∧ ((Fm.kind f == (16 : Int)) = false → ((Fm.kind f == (17 : Int)) = true → ((Fm.kind f != (9 : Int)) = true →
    (List.all (Maps.du M) fun (kv : D × D) => sameKind (D.int IntKind.i64 (Fm.kind f)) (Prod.fst kv) && Sh.ok (Sh.int IntKind.i64) (Prod.snd kv)) = true ∧ ∃ (x0 : Nat), x0 ≤ List.length
    (Fm.l f) ∧ ((t = t ∧ AV.ptr (0 : Nat) (0 : Nat) = AV.ptr (0 : Nat) (0 : Nat) ∧ AV.ptr (1 : Nat) (0 : Nat) = AV.ptr (1 : Nat) (0 : Nat) ∧ AV.ptr (2 : Nat) (0 : Nat) = AV.ptr (2 : Nat) (0
    : Nat) ∧ List.map Fm.d (Fm.l f) = List.map Fm.d (Fm.l f) ∧ (↑(List.length (List.map Fm.d (Fm.l f))) : Int) = (↑(List.length (List.map Fm.d (Fm.l f))) : Int) ∧ (0 : Int) = (↑x0 : Int) ∧
    True) ∧ (Fm.kind f = Fm.kind f ∧ Fm.name f = Fm.name f ∧ Fm.n f = Fm.n f ∧ List.map Tm.d (Fm.ts f) = List.map Tm.d (Fm.ts f) ∧ List.map Bd.d (Fm.bs f) = List.map Bd.d (Fm.bs f) ∧
    List.map Fm.d (Fm.l f) = List.map Fm.d (Fm.l f) ∧ True) ∧ ((0 : Int) = (0 : Int) ∧ Array.toList (ByteArray.data (ByteArray.mk #[])) = Array.toList (ByteArray.data (ByteArray.mk #[])) ∧
    (0 : Int) = (0 : Int) ∧ ([] : List D) = [] ∧ ([] : List D) = [] ∧ ([] : List D) = [] ∧ True) ∧ (D.toInt (Option.getD (lookD (Maps.du M) (D.int IntKind.i64 (Fm.kind f))) (D.int
    IntKind.i64 (0 : Int))) = D.toInt (Option.getD (lookD (Maps.du M) (D.int IntKind.i64 (Fm.kind f))) (D.int IntKind.i64 (0 : Int))) ∧ Fm.name f = Fm.name f ∧ IntKind.wrap IntKind.i64 (Fm.n
    f + (1 : Int)) = IntKind.wrap IntKind.i64 (Fm.n f + (1 : Int)) ∧ l = l ∧ l_1 = l_1 ∧ ([] = List.map Fm.d (List.map (fun (x : Fm) => Fm.right x (t && !countB (Fm.kind f))) (List.take x0
    (Fm.l f))) ∧ List.length ([] : List D) ≤ x0) ∧ True) ∧ True) ∧ ∀ (x : Nat), x ≤ List.length (Fm.l f) → (decide ((↑x : Int) < (↑(List.length (List.map Fm.d (Fm.l f))) : Int)) = true → ((0
    : Int) ≤ (↑x : Int) ∧ (List.map Fm.d (Fm.l f))[Int.toNat (↑x : Int)]? = some (aggAt [Sh.int IntKind.i64, Sh.str, Sh.int IntKind.i64, Sh.sl, Sh.sl, Sh.sl] (List.map Fm.d (Fm.l f))
    (Int.toNat (↑x : Int)))) ∧ PFn Tryd.prog (GG M) (44 : Nat) [D.int IntKind.i64 (Fm.kind f)] fun (rs : List D) => ∃ (b : Bool), rs = [D.bool b] ∧ PFn Tryd.prog (GG M) (38 : Nat) [aggAt
    [Sh.int IntKind.i64, Sh.str, Sh.int IntKind.i64, Sh.sl, Sh.sl, Sh.sl] (List.map Fm.d (Fm.l f)) (Int.toNat (↑x : Int)), D.bool (bif t then !b else false)] fun (rs : List D) => ∃ (n :
    Int), ∃ (s : List UInt8), ∃ (n_1 : Int), ∃ (l_2 : List D), ∃ (l_3 : List D), ∃ (l_4 : List D), rs = [D.agg [D.int IntKind.i64 n, D.str s, D.int IntKind.i64 n_1, D.sl l_2, D.sl l_3, D.sl
    l_4]] ∧ (x = List.length (List.map Fm.d (List.map (fun (x : Fm) => Fm.right x (t && !countB (Fm.kind f))) (List.take x (Fm.l f)))) ∧ (6 : Nat) = (6 : Nat) ∧ FA (List.map Fm.d (List.map
    (fun (x : Fm) => Fm.right x (t && !countB (Fm.kind f))) (List.take x (Fm.l f)))) [D.agg [D.int IntKind.i64 n, D.str s, D.int IntKind.i64 n_1, D.sl l_2, D.sl l_3, D.sl l_4]] (nat_lit 6)
    (nat_lit 104)) ∧ ∃ (y : Nat), y ≤ List.length (Fm.l f) ∧ List.length (Fm.l f) - y < List.length (Fm.l f) - x ∧ (t = t ∧ AV.ptr (0 : Nat) (0 : Nat) = AV.ptr (0 : Nat) (0 : Nat) ∧ AV.ptr
    (1 : Nat) (0 : Nat) = AV.ptr (1 : Nat) (0 : Nat) ∧ AV.ptr (2 : Nat) (0 : Nat) = AV.ptr (2 : Nat) (0 : Nat) ∧ List.map Fm.d (Fm.l f) = List.map Fm.d (Fm.l f) ∧ (↑(List.length (List.map
    Fm.d (Fm.l f))) : Int) = (↑(List.length (List.map Fm.d (Fm.l f))) : Int) ∧ IntKind.wrap IntKind.i64 ((↑x : Int) + (1 : Int)) = (↑y : Int) ∧ True) ∧ (Fm.kind f = Fm.kind f ∧ Fm.name f =
    Fm.name f ∧ Fm.n f = Fm.n f ∧ List.map Tm.d (Fm.ts f) = List.map Tm.d (Fm.ts f) ∧ List.map Bd.d (Fm.bs f) = List.map Bd.d (Fm.bs f) ∧ List.map Fm.d (Fm.l f) = List.map Fm.d (Fm.l f) ∧
    True) ∧ ((0 : Int) = (0 : Int) ∧ Array.toList (ByteArray.data (ByteArray.mk #[])) = Array.toList (ByteArray.data (ByteArray.mk #[])) ∧ (0 : Int) = (0 : Int) ∧ ([] : List D) = [] ∧ ([] :
    List D) = [] ∧ ([] : List D) = [] ∧ True) ∧ (D.toInt (Option.getD (lookD (Maps.du M) (D.int IntKind.i64 (Fm.kind f))) (D.int IntKind.i64 (0 : Int))) = D.toInt (Option.getD (lookD
    (Maps.du M) (D.int IntKind.i64 (Fm.kind f))) (D.int IntKind.i64 (0 : Int))) ∧ Fm.name f = Fm.name f ∧ IntKind.wrap IntKind.i64 (Fm.n f + (1 : Int)) = IntKind.wrap IntKind.i64 (Fm.n f +
    (1 : Int)) ∧ l = l ∧ l_1 = l_1 ∧ List.map Fm.d (List.map (fun (x : Fm) => Fm.right x (t && !countB (Fm.kind f))) (List.take x (Fm.l f))) ++ List.reverse [mkD true [D.int IntKind.i64 n,
    D.str s, D.int IntKind.i64 n_1, D.sl l_2, D.sl l_3, D.sl l_4]] = List.map Fm.d (List.map (fun (x : Fm) => Fm.right x (t && !countB (Fm.kind f))) (List.take y (Fm.l f))) ∧ True) ∧
    List.length (List.map Fm.d (List.map (fun (x : Fm) => Fm.right x (t && !countB (Fm.kind f))) (List.take x (Fm.l f)))) + List.length (List.reverse [mkD true [D.int IntKind.i64 n, D.str s,
    D.int IntKind.i64 n_1, D.sl l_2, D.sl l_3, D.sl l_4]]) = y ∧ True) ∧ (decide ((↑x : Int) < (↑(List.length (List.map Fm.d (Fm.l f))) : Int)) = false → [D.agg [D.int IntKind.i64 (D.toInt
    (Option.getD (lookD (Maps.du M) (D.int IntKind.i64 (Fm.kind f))) (D.int IntKind.i64 (0 : Int)))), D.str (Fm.name f), D.int IntKind.i64 (IntKind.wrap IntKind.i64 (Fm.n f + (1 : Int))),
    D.sl l, D.sl l_1, D.sl (List.map Fm.d (List.map (fun (x : Fm) => Fm.right x (t && !countB (Fm.kind f))) (List.take x (Fm.l f))))]] = [r])) ∧ ((Fm.kind f != (9 : Int)) = false → ∃ (x0 :
    Nat), x0 ≤ List.length (Fm.l f) ∧ ((t = t ∧ AV.ptr (0 : Nat) (0 : Nat) = AV.ptr (0 : Nat) (0 : Nat) ∧ AV.ptr (1 : Nat) (0 : Nat) = AV.ptr (1 : Nat) (0 : Nat) ∧ AV.ptr (2 : Nat) (0 : Nat)
    = AV.ptr (2 : Nat) (0 : Nat) ∧ List.map Fm.d (Fm.l f) = List.map Fm.d (Fm.l f) ∧ (↑(List.length (List.map Fm.d (Fm.l f))) : Int) = (↑(List.length (List.map Fm.d (Fm.l f))) : Int) ∧ (0 :
    Int) = (↑x0 : Int) ∧ True) ∧ (Fm.kind f = Fm.kind f ∧ Fm.name f = Fm.name f ∧ Fm.n f = Fm.n f ∧ List.map Tm.d (Fm.ts f) = List.map Tm.d (Fm.ts f) ∧ List.map Bd.d (Fm.bs f) = List.map
    Bd.d (Fm.bs f) ∧ List.map Fm.d (Fm.l f) = List.map Fm.d (Fm.l f) ∧ True) ∧ ((0 : Int) = (0 : Int) ∧ Array.toList (ByteArray.data (ByteArray.mk #[])) = Array.toList (ByteArray.data
    (ByteArray.mk #[])) ∧ (0 : Int) = (0 : Int) ∧ ([] : List D) = [] ∧ ([] : List D) = [] ∧ ([] : List D) = [] ∧ True) ∧ (Fm.kind f = Fm.kind f ∧ Fm.name f = Fm.name f ∧ IntKind.wrap
    IntKind.i64 (Fm.n f + (1 : Int)) = IntKind.wrap IntKind.i64 (Fm.n f + (1 : Int)) ∧ l = l ∧ l_1 = l_1 ∧ ([] = List.map Fm.d (List.map (fun (x : Fm) => Fm.right x (t && !countB (Fm.kind
    f))) (List.take x0 (Fm.l f))) ∧ List.length ([] : List D) ≤ x0) ∧ True) ∧ True) ∧ ∀ (x : Nat), x ≤ List.length (Fm.l f) → (decide ((↑x : Int) < (↑(List.length (List.map Fm.d (Fm.l f))) :
    Int)) = true → ((0 : Int) ≤ (↑x : Int) ∧ (List.map Fm.d (Fm.l f))[Int.toNat (↑x : Int)]? = some (aggAt [Sh.int IntKind.i64, Sh.str, Sh.int IntKind.i64, Sh.sl, Sh.sl, Sh.sl] (List.map
    Fm.d (Fm.l f)) (Int.toNat (↑x : Int)))) ∧ PFn Tryd.prog (GG M) (44 : Nat) [D.int IntKind.i64 (Fm.kind f)] fun (rs : List D) => ∃ (b : Bool), rs = [D.bool b] ∧ PFn Tryd.prog (GG M) (38 :
    Nat) [aggAt [Sh.int IntKind.i64, Sh.str, Sh.int IntKind.i64, Sh.sl, Sh.sl, Sh.sl] (List.map Fm.d (Fm.l f)) (Int.toNat (↑x : Int)), D.bool (bif t then !b else false)] fun (rs : List D) =>
    ∃ (n : Int), ∃ (s : List UInt8), ∃ (n_1 : Int), ∃ (l_2 : List D), ∃ (l_3 : List D), ∃ (l_4 : List D), rs = [D.agg [D.int IntKind.i64 n, D.str s, D.int IntKind.i64 n_1, D.sl l_2, D.sl
    l_3, D.sl l_4]] ∧ (x = List.length (List.map Fm.d (List.map (fun (x : Fm) => Fm.right x (t && !countB (Fm.kind f))) (List.take x (Fm.l f)))) ∧ (6 : Nat) = (6 : Nat) ∧ FA (List.map Fm.d
    (List.map (fun (x : Fm) => Fm.right x (t && !countB (Fm.kind f))) (List.take x (Fm.l f)))) [D.agg [D.int IntKind.i64 n, D.str s, D.int IntKind.i64 n_1, D.sl l_2, D.sl l_3, D.sl l_4]]
    (nat_lit 6) (nat_lit 104)) ∧ ∃ (y : Nat), y ≤ List.length (Fm.l f) ∧ List.length (Fm.l f) - y < List.length (Fm.l f) - x ∧ (t = t ∧ AV.ptr (0 : Nat) (0 : Nat) = AV.ptr (0 : Nat) (0 :
    Nat) ∧ AV.ptr (1 : Nat) (0 : Nat) = AV.ptr (1 : Nat) (0 : Nat) ∧ AV.ptr (2 : Nat) (0 : Nat) = AV.ptr (2 : Nat) (0 : Nat) ∧ List.map Fm.d (Fm.l f) = List.map Fm.d (Fm.l f) ∧
    (↑(List.length (List.map Fm.d (Fm.l f))) : Int) = (↑(List.length (List.map Fm.d (Fm.l f))) : Int) ∧ IntKind.wrap IntKind.i64 ((↑x : Int) + (1 : Int)) = (↑y : Int) ∧ True) ∧ (Fm.kind f =
    Fm.kind f ∧ Fm.name f = Fm.name f ∧ Fm.n f = Fm.n f ∧ List.map Tm.d (Fm.ts f) = List.map Tm.d (Fm.ts f) ∧ List.map Bd.d (Fm.bs f) = List.map Bd.d (Fm.bs f) ∧ List.map Fm.d (Fm.l f) =
    List.map Fm.d (Fm.l f) ∧ True) ∧ ((0 : Int) = (0 : Int) ∧ Array.toList (ByteArray.data (ByteArray.mk #[])) = Array.toList (ByteArray.data (ByteArray.mk #[])) ∧ (0 : Int) = (0 : Int) ∧
    ([] : List D) = [] ∧ ([] : List D) = [] ∧ ([] : List D) = [] ∧ True) ∧ (Fm.kind f = Fm.kind f ∧ Fm.name f = Fm.name f ∧ IntKind.wrap IntKind.i64 (Fm.n f + (1 : Int)) = IntKind.wrap
    IntKind.i64 (Fm.n f + (1 : Int)) ∧ l = l ∧ l_1 = l_1 ∧ List.map Fm.d (List.map (fun (x : Fm) => Fm.right x (t && !countB (Fm.kind f))) (List.take x (Fm.l f))) ++ List.reverse [mkD true
    [D.int IntKind.i64 n, D.str s, D.int IntKind.i64 n_1, D.sl l_2, D.sl l_3, D.sl l_4]] = List.map Fm.d (List.map (fun (x : Fm) => Fm.right x (t && !countB (Fm.kind f))) (List.take y (Fm.l
    f))) ∧ True) ∧ List.length (List.map Fm.d (List.map (fun (x : Fm) => Fm.right x (t && !countB (Fm.kind f))) (List.take x (Fm.l f)))) + List.length (List.reverse [mkD true [D.int
    IntKind.i64 n, D.str s, D.int IntKind.i64 n_1, D.sl l_2, D.sl l_3, D.sl l_4]]) = y ∧ True) ∧ (decide ((↑x : Int) < (↑(List.length (List.map Fm.d (Fm.l f))) : Int)) = false → [D.agg
    [D.int IntKind.i64 (Fm.kind f), D.str (Fm.name f), D.int IntKind.i64 (IntKind.wrap IntKind.i64 (Fm.n f + (1 : Int))), D.sl l, D.sl l_1, D.sl (List.map Fm.d (List.map (fun (x : Fm) =>
    Fm.right x (t && !countB (Fm.kind f))) (List.take x (Fm.l f))))]] = [r]))) ∧ ((Fm.kind f == (17 : Int)) = false → ((Fm.kind f != (9 : Int)) = true → (List.all (Maps.du M) fun (kv : D ×
    D) => sameKind (D.int IntKind.i64 (Fm.kind f)) (Prod.fst kv) && Sh.ok (Sh.int IntKind.i64) (Prod.snd kv)) = true ∧ ∃ (x0 : Nat), x0 ≤ List.length (Fm.l f) ∧ ((t = t ∧ AV.ptr (0 : Nat) (0
    : Nat) = AV.ptr (0 : Nat) (0 : Nat) ∧ AV.ptr (1 : Nat) (0 : Nat) = AV.ptr (1 : Nat) (0 : Nat) ∧ AV.ptr (2 : Nat) (0 : Nat) = AV.ptr (2 : Nat) (0 : Nat) ∧ List.map Fm.d (Fm.l f) =
    List.map Fm.d (Fm.l f) ∧ (↑(List.length (List.map Fm.d (Fm.l f))) : Int) = (↑(List.length (List.map Fm.d (Fm.l f))) : Int) ∧ (0 : Int) = (↑x0 : Int) ∧ True) ∧ (Fm.kind f = Fm.kind f ∧
    Fm.name f = Fm.name f ∧ Fm.n f = Fm.n f ∧ List.map Tm.d (Fm.ts f) = List.map Tm.d (Fm.ts f) ∧ List.map Bd.d (Fm.bs f) = List.map Bd.d (Fm.bs f) ∧ List.map Fm.d (Fm.l f) = List.map Fm.d
    (Fm.l f) ∧ True) ∧ ((0 : Int) = (0 : Int) ∧ Array.toList (ByteArray.data (ByteArray.mk #[])) = Array.toList (ByteArray.data (ByteArray.mk #[])) ∧ (0 : Int) = (0 : Int) ∧ ([] : List D) =
    [] ∧ ([] : List D) = [] ∧ ([] : List D) = [] ∧ True) ∧ (D.toInt (Option.getD (lookD (Maps.du M) (D.int IntKind.i64 (Fm.kind f))) (D.int IntKind.i64 (0 : Int))) = D.toInt (Option.getD
    (lookD (Maps.du M) (D.int IntKind.i64 (Fm.kind f))) (D.int IntKind.i64 (0 : Int))) ∧ Fm.name f = Fm.name f ∧ Fm.n f = Fm.n f ∧ l = l ∧ l_1 = l_1 ∧ ([] = List.map Fm.d (List.map (fun (x :
    Fm) => Fm.right x (t && !countB (Fm.kind f))) (List.take x0 (Fm.l f))) ∧ List.length ([] : List D) ≤ x0) ∧ True) ∧ True) ∧ ∀ (x : Nat), x ≤ List.length (Fm.l f) → (decide ((↑x : Int) <
    (↑(List.length (List.map Fm.d (Fm.l f))) : Int)) = true → ((0 : Int) ≤ (↑x : Int) ∧ (List.map Fm.d (Fm.l f))[Int.toNat (↑x : Int)]? = some (aggAt [Sh.int IntKind.i64, Sh.str, Sh.int
    IntKind.i64, Sh.sl, Sh.sl, Sh.sl] (List.map Fm.d (Fm.l f)) (Int.toNat (↑x : Int)))) ∧ PFn Tryd.prog (GG M) (44 : Nat) [D.int IntKind.i64 (Fm.kind f)] fun (rs : List D) => ∃ (b : Bool),
    rs = [D.bool b] ∧ PFn Tryd.prog (GG M) (38 : Nat) [aggAt [Sh.int IntKind.i64, Sh.str, Sh.int IntKind.i64, Sh.sl, Sh.sl, Sh.sl] (List.map Fm.d (Fm.l f)) (Int.toNat (↑x : Int)), D.bool
    (bif t then !b else false)] fun (rs : List D) => ∃ (n : Int), ∃ (s : List UInt8), ∃ (n_1 : Int), ∃ (l_2 : List D), ∃ (l_3 : List D), ∃ (l_4 : List D), rs = [D.agg [D.int IntKind.i64 n,
    D.str s, D.int IntKind.i64 n_1, D.sl l_2, D.sl l_3, D.sl l_4]] ∧ (x = List.length (List.map Fm.d (List.map (fun (x : Fm) => Fm.right x (t && !countB (Fm.kind f))) (List.take x (Fm.l
    f)))) ∧ (6 : Nat) = (6 : Nat) ∧ FA (List.map Fm.d (List.map (fun (x : Fm) => Fm.right x (t && !countB (Fm.kind f))) (List.take x (Fm.l f)))) [D.agg [D.int IntKind.i64 n, D.str s, D.int
    IntKind.i64 n_1, D.sl l_2, D.sl l_3, D.sl l_4]] (nat_lit 6) (nat_lit 104)) ∧ ∃ (y : Nat), y ≤ List.length (Fm.l f) ∧ List.length (Fm.l f) - y < List.length (Fm.l f) - x ∧ (t = t ∧ AV.ptr
    (0 : Nat) (0 : Nat) = AV.ptr (0 : Nat) (0 : Nat) ∧ AV.ptr (1 : Nat) (0 : Nat) = AV.ptr (1 : Nat) (0 : Nat) ∧ AV.ptr (2 : Nat) (0 : Nat) = AV.ptr (2 : Nat) (0 : Nat) ∧ List.map Fm.d (Fm.l
    f) = List.map Fm.d (Fm.l f) ∧ (↑(List.length (List.map Fm.d (Fm.l f))) : Int) = (↑(List.length (List.map Fm.d (Fm.l f))) : Int) ∧ IntKind.wrap IntKind.i64 ((↑x : Int) + (1 : Int)) = (↑y
    : Int) ∧ True) ∧ (Fm.kind f = Fm.kind f ∧ Fm.name f = Fm.name f ∧ Fm.n f = Fm.n f ∧ List.map Tm.d (Fm.ts f) = List.map Tm.d (Fm.ts f) ∧ List.map Bd.d (Fm.bs f) = List.map Bd.d (Fm.bs f)
    ∧ List.map Fm.d (Fm.l f) = List.map Fm.d (Fm.l f) ∧ True) ∧ ((0 : Int) = (0 : Int) ∧ Array.toList (ByteArray.data (ByteArray.mk #[])) = Array.toList (ByteArray.data (ByteArray.mk #[])) ∧
    (0 : Int) = (0 : Int) ∧ ([] : List D) = [] ∧ ([] : List D) = [] ∧ ([] : List D) = [] ∧ True) ∧ (D.toInt (Option.getD (lookD (Maps.du M) (D.int IntKind.i64 (Fm.kind f))) (D.int
    IntKind.i64 (0 : Int))) = D.toInt (Option.getD (lookD (Maps.du M) (D.int IntKind.i64 (Fm.kind f))) (D.int IntKind.i64 (0 : Int))) ∧ Fm.name f = Fm.name f ∧ Fm.n f = Fm.n f ∧ l = l ∧ l_1
    = l_1 ∧ List.map Fm.d (List.map (fun (x : Fm) => Fm.right x (t && !countB (Fm.kind f))) (List.take x (Fm.l f))) ++ List.reverse [mkD true [D.int IntKind.i64 n, D.str s, D.int IntKind.i64
    n_1, D.sl l_2, D.sl l_3, D.sl l_4]] = List.map Fm.d (List.map (fun (x : Fm) => Fm.right x (t && !countB (Fm.kind f))) (List.take y (Fm.l f))) ∧ True) ∧ List.length (List.map Fm.d
    (List.map (fun (x : Fm) => Fm.right x (t && !countB (Fm.kind f))) (List.take x (Fm.l f)))) + List.length (List.reverse [mkD true [D.int IntKind.i64 n, D.str s, D.int IntKind.i64 n_1,
    D.sl l_2, D.sl l_3, D.sl l_4]]) = y ∧ True) ∧ (decide ((↑x : Int) < (↑(List.length (List.map Fm.d (Fm.l f))) : Int)) = false → [D.agg [D.int IntKind.i64 (D.toInt (Option.getD (lookD
    (Maps.du M) (D.int IntKind.i64 (Fm.kind f))) (D.int IntKind.i64 (0 : Int)))), D.str (Fm.name f), D.int IntKind.i64 (Fm.n f), D.sl l, D.sl l_1, D.sl (List.map Fm.d (List.map (fun (x : Fm)
    => Fm.right x (t && !countB (Fm.kind f))) (List.take x (Fm.l f))))]] = [r])) ∧ ((Fm.kind f != (9 : Int)) = false → ∃ (x0 : Nat), x0 ≤ List.length (Fm.l f) ∧ ((t = t ∧ AV.ptr (0 : Nat) (0
    : Nat) = AV.ptr (0 : Nat) (0 : Nat) ∧ AV.ptr (1 : Nat) (0 : Nat) = AV.ptr (1 : Nat) (0 : Nat) ∧ AV.ptr (2 : Nat) (0 : Nat) = AV.ptr (2 : Nat) (0 : Nat) ∧ List.map Fm.d (Fm.l f) =
    List.map Fm.d (Fm.l f) ∧ (↑(List.length (List.map Fm.d (Fm.l f))) : Int) = (↑(List.length (List.map Fm.d (Fm.l f))) : Int) ∧ (0 : Int) = (↑x0 : Int) ∧ True) ∧ (Fm.kind f = Fm.kind f ∧
    Fm.name f = Fm.name f ∧ Fm.n f = Fm.n f ∧ List.map Tm.d (Fm.ts f) = List.map Tm.d (Fm.ts f) ∧ List.map Bd.d (Fm.bs f) = List.map Bd.d (Fm.bs f) ∧ List.map Fm.d (Fm.l f) = List.map Fm.d
    (Fm.l f) ∧ True) ∧ ((0 : Int) = (0 : Int) ∧ Array.toList (ByteArray.data (ByteArray.mk #[])) = Array.toList (ByteArray.data (ByteArray.mk #[])) ∧ (0 : Int) = (0 : Int) ∧ ([] : List D) =
    [] ∧ ([] : List D) = [] ∧ ([] : List D) = [] ∧ True) ∧ (Fm.kind f = Fm.kind f ∧ Fm.name f = Fm.name f ∧ Fm.n f = Fm.n f ∧ l = l ∧ l_1 = l_1 ∧ ([] = List.map Fm.d (List.map (fun (x : Fm)
    => Fm.right x (t && !countB (Fm.kind f))) (List.take x0 (Fm.l f))) ∧ List.length ([] : List D) ≤ x0) ∧ True) ∧ True) ∧ ∀ (x : Nat), x ≤ List.length (Fm.l f) → (decide ((↑x : Int) <
    (↑(List.length (List.map Fm.d (Fm.l f))) : Int)) = true → ((0 : Int) ≤ (↑x : Int) ∧ (List.map Fm.d (Fm.l f))[Int.toNat (↑x : Int)]? = some (aggAt [Sh.int IntKind.i64, Sh.str, Sh.int
    IntKind.i64, Sh.sl, Sh.sl, Sh.sl] (List.map Fm.d (Fm.l f)) (Int.toNat (↑x : Int)))) ∧ PFn Tryd.prog (GG M) (44 : Nat) [D.int IntKind.i64 (Fm.kind f)] fun (rs : List D) => ∃ (b : Bool),
    rs = [D.bool b] ∧ PFn Tryd.prog (GG M) (38 : Nat) [aggAt [Sh.int IntKind.i64, Sh.str, Sh.int IntKind.i64, Sh.sl, Sh.sl, Sh.sl] (List.map Fm.d (Fm.l f)) (Int.toNat (↑x : Int)), D.bool
    (bif t then !b else false)] fun (rs : List D) => ∃ (n : Int), ∃ (s : List UInt8), ∃ (n_1 : Int), ∃ (l_2 : List D), ∃ (l_3 : List D), ∃ (l_4 : List D), rs = [D.agg [D.int IntKind.i64 n,
    D.str s, D.int IntKind.i64 n_1, D.sl l_2, D.sl l_3, D.sl l_4]] ∧ (x = List.length (List.map Fm.d (List.map (fun (x : Fm) => Fm.right x (t && !countB (Fm.kind f))) (List.take x (Fm.l
    f)))) ∧ (6 : Nat) = (6 : Nat) ∧ FA (List.map Fm.d (List.map (fun (x : Fm) => Fm.right x (t && !countB (Fm.kind f))) (List.take x (Fm.l f)))) [D.agg [D.int IntKind.i64 n, D.str s, D.int
    IntKind.i64 n_1, D.sl l_2, D.sl l_3, D.sl l_4]] (nat_lit 6) (nat_lit 104)) ∧ ∃ (y : Nat), y ≤ List.length (Fm.l f) ∧ List.length (Fm.l f) - y < List.length (Fm.l f) - x ∧ (t = t ∧ AV.ptr
    (0 : Nat) (0 : Nat) = AV.ptr (0 : Nat) (0 : Nat) ∧ AV.ptr (1 : Nat) (0 : Nat) = AV.ptr (1 : Nat) (0 : Nat) ∧ AV.ptr (2 : Nat) (0 : Nat) = AV.ptr (2 : Nat) (0 : Nat) ∧ List.map Fm.d (Fm.l
    f) = List.map Fm.d (Fm.l f) ∧ (↑(List.length (List.map Fm.d (Fm.l f))) : Int) = (↑(List.length (List.map Fm.d (Fm.l f))) : Int) ∧ IntKind.wrap IntKind.i64 ((↑x : Int) + (1 : Int)) = (↑y
    : Int) ∧ True) ∧ (Fm.kind f = Fm.kind f ∧ Fm.name f = Fm.name f ∧ Fm.n f = Fm.n f ∧ List.map Tm.d (Fm.ts f) = List.map Tm.d (Fm.ts f) ∧ List.map Bd.d (Fm.bs f) = List.map Bd.d (Fm.bs f)
    ∧ List.map Fm.d (Fm.l f) = List.map Fm.d (Fm.l f) ∧ True) ∧ ((0 : Int) = (0 : Int) ∧ Array.toList (ByteArray.data (ByteArray.mk #[])) = Array.toList (ByteArray.data (ByteArray.mk #[])) ∧
    (0 : Int) = (0 : Int) ∧ ([] : List D) = [] ∧ ([] : List D) = [] ∧ ([] : List D) = [] ∧ True) ∧ (Fm.kind f = Fm.kind f ∧ Fm.name f = Fm.name f ∧ Fm.n f = Fm.n f ∧ l = l ∧ l_1 = l_1 ∧
    List.map Fm.d (List.map (fun (x : Fm) => Fm.right x (t && !countB (Fm.kind f))) (List.take x (Fm.l f))) ++ List.reverse [mkD true [D.int IntKind.i64 n, D.str s, D.int IntKind.i64 n_1,
    D.sl l_2, D.sl l_3, D.sl l_4]] = List.map Fm.d (List.map (fun (x : Fm) => Fm.right x (t && !countB (Fm.kind f))) (List.take y (Fm.l f))) ∧ True) ∧ List.length (List.map Fm.d (List.map
    (fun (x : Fm) => Fm.right x (t && !countB (Fm.kind f))) (List.take x (Fm.l f)))) + List.length (List.reverse [mkD true [D.int IntKind.i64 n, D.str s, D.int IntKind.i64 n_1, D.sl l_2,
    D.sl l_3, D.sl l_4]]) = y ∧ True) ∧ (decide ((↑x : Int) < (↑(List.length (List.map Fm.d (Fm.l f))) : Int)) = false → [D.agg [D.int IntKind.i64 (Fm.kind f), D.str (Fm.name f), D.int
    IntKind.i64 (Fm.n f), D.sl l, D.sl l_1, D.sl (List.map Fm.d (List.map (fun (x : Fm) => Fm.right x (t && !countB (Fm.kind f))) (List.take x (Fm.l f))))]] = [r])))))) ∧ (t = false → ∃ (x0
    : Nat), x0 ≤ List.length (Fm.l f) ∧ ((t = t ∧ AV.ptr (0 : Nat) (0 : Nat) = AV.ptr (0 : Nat) (0 : Nat) ∧ AV.ptr (1 : Nat) (0 : Nat) = AV.ptr (1 : Nat) (0 : Nat) ∧ AV.ptr (2 : Nat) (0 :
    Nat) = AV.ptr (2 : Nat) (0 : Nat) ∧ List.map Fm.d (Fm.l f) = List.map Fm.d (Fm.l f) ∧ (↑(List.length (List.map Fm.d (Fm.l f))) : Int) = (↑(List.length (List.map Fm.d (Fm.l f))) : Int) ∧
    (0 : Int) = (↑x0 : Int) ∧ True) ∧ (Fm.kind f = Fm.kind f ∧ Fm.name f = Fm.name f ∧ Fm.n f = Fm.n f ∧ List.map Tm.d (Fm.ts f) = List.map Tm.d (Fm.ts f) ∧ List.map Bd.d (Fm.bs f) =
    List.map Bd.d (Fm.bs f) ∧ List.map Fm.d (Fm.l f) = List.map Fm.d (Fm.l f) ∧ True) ∧ ((0 : Int) = (0 : Int) ∧ Array.toList (ByteArray.data (ByteArray.mk #[])) = Array.toList
    (ByteArray.data (ByteArray.mk #[])) ∧ (0 : Int) = (0 : Int) ∧ ([] : List D) = [] ∧ ([] : List D) = [] ∧ ([] : List D) = [] ∧ True) ∧ (Fm.kind f = Fm.kind f ∧ Fm.name f = Fm.name f ∧ Fm.n
    f = Fm.n f ∧ l = l ∧ l_1 = l_1 ∧ ([] = List.map Fm.d (List.map (fun (x : Fm) => Fm.right x (t && !countB (Fm.kind f))) (List.take x0 (Fm.l f))) ∧ List.length ([] : List D) ≤ x0) ∧ True)
    ∧ True) ∧ ∀ (x : Nat), x ≤ List.length (Fm.l f) → (decide ((↑x : Int) < (↑(List.length (List.map Fm.d (Fm.l f))) : Int)) = true → ((0 : Int) ≤ (↑x : Int) ∧ (List.map Fm.d (Fm.l
    f))[Int.toNat (↑x : Int)]? = some (aggAt [Sh.int IntKind.i64, Sh.str, Sh.int IntKind.i64, Sh.sl, Sh.sl, Sh.sl] (List.map Fm.d (Fm.l f)) (Int.toNat (↑x : Int)))) ∧ PFn Tryd.prog (GG M)
    (44 : Nat) [D.int IntKind.i64 (Fm.kind f)] fun (rs : List D) => ∃ (b : Bool), rs = [D.bool b] ∧ PFn Tryd.prog (GG M) (38 : Nat) [aggAt [Sh.int IntKind.i64, Sh.str, Sh.int IntKind.i64,
    Sh.sl, Sh.sl, Sh.sl] (List.map Fm.d (Fm.l f)) (Int.toNat (↑x : Int)), D.bool (bif t then !b else false)] fun (rs : List D) => ∃ (n : Int), ∃ (s : List UInt8), ∃ (n_1 : Int), ∃ (l_2 :
    List D), ∃ (l_3 : List D), ∃ (l_4 : List D), rs = [D.agg [D.int IntKind.i64 n, D.str s, D.int IntKind.i64 n_1, D.sl l_2, D.sl l_3, D.sl l_4]] ∧ (x = List.length (List.map Fm.d (List.map
    (fun (x : Fm) => Fm.right x (t && !countB (Fm.kind f))) (List.take x (Fm.l f)))) ∧ (6 : Nat) = (6 : Nat) ∧ FA (List.map Fm.d (List.map (fun (x : Fm) => Fm.right x (t && !countB (Fm.kind
    f))) (List.take x (Fm.l f)))) [D.agg [D.int IntKind.i64 n, D.str s, D.int IntKind.i64 n_1, D.sl l_2, D.sl l_3, D.sl l_4]] (nat_lit 6) (nat_lit 104)) ∧ ∃ (y : Nat), y ≤ List.length (Fm.l
    f) ∧ List.length (Fm.l f) - y < List.length (Fm.l f) - x ∧ (t = t ∧ AV.ptr (0 : Nat) (0 : Nat) = AV.ptr (0 : Nat) (0 : Nat) ∧ AV.ptr (1 : Nat) (0 : Nat) = AV.ptr (1 : Nat) (0 : Nat) ∧
    AV.ptr (2 : Nat) (0 : Nat) = AV.ptr (2 : Nat) (0 : Nat) ∧ List.map Fm.d (Fm.l f) = List.map Fm.d (Fm.l f) ∧ (↑(List.length (List.map Fm.d (Fm.l f))) : Int) = (↑(List.length (List.map
    Fm.d (Fm.l f))) : Int) ∧ IntKind.wrap IntKind.i64 ((↑x : Int) + (1 : Int)) = (↑y : Int) ∧ True) ∧ (Fm.kind f = Fm.kind f ∧ Fm.name f = Fm.name f ∧ Fm.n f = Fm.n f ∧ List.map Tm.d (Fm.ts
    f) = List.map Tm.d (Fm.ts f) ∧ List.map Bd.d (Fm.bs f) = List.map Bd.d (Fm.bs f) ∧ List.map Fm.d (Fm.l f) = List.map Fm.d (Fm.l f) ∧ True) ∧ ((0 : Int) = (0 : Int) ∧ Array.toList
    (ByteArray.data (ByteArray.mk #[])) = Array.toList (ByteArray.data (ByteArray.mk #[])) ∧ (0 : Int) = (0 : Int) ∧ ([] : List D) = [] ∧ ([] : List D) = [] ∧ ([] : List D) = [] ∧ True) ∧
    (Fm.kind f = Fm.kind f ∧ Fm.name f = Fm.name f ∧ Fm.n f = Fm.n f ∧ l = l ∧ l_1 = l_1 ∧ List.map Fm.d (List.map (fun (x : Fm) => Fm.right x (t && !countB (Fm.kind f))) (List.take x (Fm.l
    f))) ++ List.reverse [mkD true [D.int IntKind.i64 n, D.str s, D.int IntKind.i64 n_1, D.sl l_2, D.sl l_3, D.sl l_4]] = List.map Fm.d (List.map (fun (x : Fm) => Fm.right x (t && !countB
    (Fm.kind f))) (List.take y (Fm.l f))) ∧ True) ∧ List.length (List.map Fm.d (List.map (fun (x : Fm) => Fm.right x (t && !countB (Fm.kind f))) (List.take x (Fm.l f)))) + List.length
    (List.reverse [mkD true [D.int IntKind.i64 n, D.str s, D.int IntKind.i64 n_1, D.sl l_2, D.sl l_3, D.sl l_4]]) = y ∧ True) ∧ (decide ((↑x : Int) < (↑(List.length (List.map Fm.d (Fm.l f)))
    : Int)) = false → [D.agg [D.int IntKind.i64 (Fm.kind f), D.str (Fm.name f), D.int IntKind.i64 (Fm.n f), D.sl l, D.sl l_1, D.sl (List.map Fm.d (List.map (fun (x : Fm) => Fm.right x (t &&
    !countB (Fm.kind f))) (List.take x (Fm.l f))))]] = [r]))))))))
  · kernel_rfl
  have hre := right_eq f t
  have e0 : Array.toList (ByteArray.data { data := #[] }) = ([] : List UInt8) := rfl
  refine h56.mono ?_
  rintro rs rfl
  refine ⟨_, rfl, ?_⟩
  have e1 : (bif bif alwaysB f then t else false then true else bif f.kind == 2 then !t else false) = (alwaysB f && t || f.kind == 2 && !t) := by simp only [bif_or, bif_and]
  rw [e1]
  refine ⟨fun h => ?_, fun h => ?_⟩
  · rw [← hr, hre, if_pos h, Fm.d_mk]; rfl
  rw [if_neg (by rw [h]; simp)] at hre
  refine h56.mono ?_
  rintro rs rfl
  refine ⟨_, rfl, ?_⟩
  rw [bif_or]
  refine ⟨fun h2 => ?_, fun h2 => ?_⟩
  · rw [← hr, hre, if_pos h2, Fm.d_mk]; rfl
  rw [if_neg (by rw [h2]; simp)] at hre
  refine ⟨fun h3 => ?_, fun h3 => ?_⟩
  · have h3' : f.kind = 10 := by simpa using h3
    obtain ⟨x, hx⟩ := hl10 h3'
    rw [if_pos h3', hx] at hre
    rw [hx, agg_fm (i := Int.toNat 0) (f := x) rfl]
    refine ⟨⟨by decide, rfl⟩, ?_⟩
    refine (ih x (by rw [hx]; simp) (hall x (by rw [hx]; simp)) (!t)).mono ?_
    rintro rs rfl
    refine ⟨_, _, _, _, _, _, congrArg (fun z => [z]) (Fm.d_eq _), ?_⟩
    rw [← Fm.d_eq, ← hr, hre]; rfl
  have h3' : ¬ f.kind = 10 := by simpa using h3
  rw [if_neg h3'] at hre
  refine ⟨fun h4 => ?_, fun h4 => ?_⟩
  · have h4' : f.kind = 13 := by simpa using h4
    obtain ⟨x, y, hx⟩ := hl13 h4'
    rw [if_pos h4', hx] at hre
    rw [hx, agg_fm (i := Int.toNat 0) (f := x) rfl, agg_fm (i := Int.toNat 1) (f := y) rfl]
    refine ⟨⟨by decide, rfl⟩, ⟨by decide, rfl⟩, ?_⟩
    refine (ih x (by rw [hx]; simp) (hall x (by rw [hx]; simp)) (!t)).mono ?_
    rintro rs rfl
    refine ⟨_, _, _, _, _, _, congrArg (fun z => [z]) (Fm.d_eq _), ?_⟩
    refine (ih y (by rw [hx]; simp) (hall y (by rw [hx]; simp)) t).mono ?_
    rintro rs rfl
    refine ⟨_, _, _, _, _, _, congrArg (fun z => [z]) (Fm.d_eq _), fun ht => ?_, fun ht => ?_⟩
    · subst ht; rw [← Fm.d_eq, ← Fm.d_eq, ← hr, hre, Fm.d_mk]; rfl
    · subst ht; rw [← Fm.d_eq, ← Fm.d_eq, ← hr, hre, Fm.d_mk]; rfl
  have h4' : ¬ f.kind = 13 := by simpa using h4
  rw [if_neg h4'] at hre
  refine (fn42 f.kind).mono ?_
  rintro rs rfl
  refine ⟨_, rfl, ?_⟩
  rw [bif_and, bif_and]
  refine ⟨fun h5 => ?_, fun h5 => ?_⟩
  · rw [← hr, hre, if_pos h5, Fm.d_mk]
    simp only [List.map_cons, List.map_nil, f.d_eq]
  rw [if_neg (by rw [h5]; simp)] at hre
  refine (fn57 f.ts (by omega)).mono ?_
  rintro rs rfl
  refine ⟨_, rfl, ?_⟩
  refine (fn58 f.bs (by omega)).mono ?_
  rintro rs rfl
  refine ⟨_, rfl, ?_⟩
  have hdu : D.toInt (Option.getD (lookD M.du (.int .i64 f.kind)) (.int .i64 0)) = dualI f.kind := by rw [hM.duG, ← dual_look]; cases duL.lookup f.kind <;> rfl
  have hsi : f.kind = 9 → D.toStr (Option.getD (lookD M.si (.str f.name)) (.str (Array.toList (ByteArray.data { data := #[] })))) = turnS f.name := fun hk => by
    rw [hM.siG, ← sign_turn f.name (hsg hk)]; cases siL.lookup f.name <;> rfl
  have hsiA : (M.si.all fun kv => sameKind (.str f.name) kv.1 && Sh.ok .str kv.2) = true := by simp only [same_str f.name]; exact hM.siA
  have hduA : (M.du.all fun kv => sameKind (.int .i64 f.kind) kv.1 && Sh.ok (.int .i64) kv.2) = true := by simp only [same_int f.kind]; exact hM.duA
  have tr : ∀ {b : Bool}, b = true → ¬ b = false := fun h h' => by rw [h] at h'; cases h'
  refine ⟨fun ht => ⟨fun h9 => ⟨hsiA, fun hne => ?_, fun hne => ?_⟩, fun h9 => ⟨fun h16 => ⟨fun hne => ⟨hduA, ?_⟩, fun hne => ?_⟩, fun h16 => ⟨fun h17 => ⟨fun hne => ⟨hduA, ?_⟩, fun hne => ?_⟩, fun h17 => ⟨fun hne => ⟨hduA, ?_⟩, fun hne => ?_⟩⟩⟩⟩, fun ht => ?_⟩
  · simp [bne, h9] at hne
  · have hk : f.kind = 9 := by simpa using h9
    have hR : f.right t = Fm.mk f.kind (D.toStr (Option.getD (lookD M.si (.str f.name)) (.str (Array.toList (ByteArray.data { data := #[] }))))) f.n f.ts f.bs (f.l.map (·.right (t && !countB f.kind))) := by
      rw [hre, hsi hk, ht]; simp [hk]
    refine ⟨0, Nat.zero_le _, by simp, fun i hi => ⟨fun hlt => ?_, fun hge => ?_⟩⟩
    · simp only [List.length_map, decide_eq_true_eq] at hlt
      obtain ⟨z, hz, hm⟩ := get_nat (l := f.l) (x := i) (by omega)
      rw [Int.toNat_natCast, agg_fm hz]
      refine ⟨⟨by omega, by simp [hz]⟩, ?_⟩
      refine (fn44 f.kind).mono ?_
      rintro rs rfl
      refine ⟨_, rfl, ?_⟩
      rw [bif_and]
      refine (ih z hm (hall z hm) (t && !countB f.kind)).mono ?_
      rintro rs rfl
      refine ⟨_, _, _, _, _, _, congrArg (fun z => [z]) (Fm.d_eq _), ⟨?_, rfl, ?_, ?_⟩, i + 1, by omega, by omega, ⟨rfl, rfl, rfl, rfl, rfl, rfl, ?_, trivial⟩, ⟨rfl, rfl, rfl, rfl, rfl, rfl, trivial⟩, ⟨rfl, rfl, rfl, rfl, rfl, rfl, trivial⟩, ⟨rfl, rfl, rfl, rfl, rfl, ?_, trivial⟩, ?_, trivial⟩
      · simp; omega
      · rw [← Fm.d_eq]
        have := cells_fm ((f.l.take i).map (·.right (t && !countB f.kind)) ++ [z.right (t && !countB f.kind)])
        simpa using this
      · simp; omega
      · rw [wrap64 (by omega) (by omega)]; simp
      · show _ ++ [D.agg (fmCells (z.right (t && !countB f.kind)))] = _
        rw [← d_cells, List.take_add_one, hz]; simp
      · simp; omega
    · simp only [List.length_map, decide_eq_false_iff_not] at hge
      rw [List.take_of_length_le (by omega), ← hr, hR, Fm.d_mk]
  · have hk : f.kind = 16 := by simpa using h16
    have hw : IntKind.wrap IntKind.i64 (f.n - 1) = f.n - 1 := by
      have := hn0 (.inl hk); rw [wrap64 (by omega) (by omega)]
    have hR : f.right t = Fm.mk (D.toInt (Option.getD (lookD M.du (.int .i64 f.kind)) (.int .i64 0))) f.name (IntKind.wrap IntKind.i64 (f.n - 1)) f.ts f.bs (f.l.map (·.right (t && !countB f.kind))) := by
      rw [hre, hdu, hw, ht]; simp [hk]
    refine ⟨0, Nat.zero_le _, by simp, fun i hi => ⟨fun hlt => ?_, fun hge => ?_⟩⟩
    · simp only [List.length_map, decide_eq_true_eq] at hlt
      obtain ⟨z, hz, hm⟩ := get_nat (l := f.l) (x := i) (by omega)
      rw [Int.toNat_natCast, agg_fm hz]
      refine ⟨⟨by omega, by simp [hz]⟩, ?_⟩
      refine (fn44 f.kind).mono ?_
      rintro rs rfl
      refine ⟨_, rfl, ?_⟩
      rw [bif_and]
      refine (ih z hm (hall z hm) (t && !countB f.kind)).mono ?_
      rintro rs rfl
      refine ⟨_, _, _, _, _, _, congrArg (fun z => [z]) (Fm.d_eq _), ⟨?_, rfl, ?_, ?_⟩, i + 1, by omega, by omega, ⟨rfl, rfl, rfl, rfl, rfl, rfl, ?_, trivial⟩, ⟨rfl, rfl, rfl, rfl, rfl, rfl, trivial⟩, ⟨rfl, rfl, rfl, rfl, rfl, rfl, trivial⟩, ⟨rfl, rfl, rfl, rfl, rfl, ?_, trivial⟩, ?_, trivial⟩
      · simp; omega
      · rw [← Fm.d_eq]
        have := cells_fm ((f.l.take i).map (·.right (t && !countB f.kind)) ++ [z.right (t && !countB f.kind)])
        simpa using this
      · simp; omega
      · rw [wrap64 (by omega) (by omega)]; simp
      · show _ ++ [D.agg (fmCells (z.right (t && !countB f.kind)))] = _
        rw [← d_cells, List.take_add_one, hz]; simp
      · simp; omega
    · simp only [List.length_map, decide_eq_false_iff_not] at hge
      rw [List.take_of_length_le (by omega), ← hr, hR, Fm.d_mk]
  · simp [bne, h9] at hne
  · have hk : f.kind = 17 := by simpa using h17
    have hw : IntKind.wrap IntKind.i64 (f.n + 1) = f.n + 1 := by
      have := hn0 (.inr hk); rw [wrap64 (by omega) (by omega)]
    have hR : f.right t = Fm.mk (D.toInt (Option.getD (lookD M.du (.int .i64 f.kind)) (.int .i64 0))) f.name (IntKind.wrap IntKind.i64 (f.n + 1)) f.ts f.bs (f.l.map (·.right (t && !countB f.kind))) := by
      rw [hre, hdu, hw, ht]; simp [hk]
    refine ⟨0, Nat.zero_le _, by simp, fun i hi => ⟨fun hlt => ?_, fun hge => ?_⟩⟩
    · simp only [List.length_map, decide_eq_true_eq] at hlt
      obtain ⟨z, hz, hm⟩ := get_nat (l := f.l) (x := i) (by omega)
      rw [Int.toNat_natCast, agg_fm hz]
      refine ⟨⟨by omega, by simp [hz]⟩, ?_⟩
      refine (fn44 f.kind).mono ?_
      rintro rs rfl
      refine ⟨_, rfl, ?_⟩
      rw [bif_and]
      refine (ih z hm (hall z hm) (t && !countB f.kind)).mono ?_
      rintro rs rfl
      refine ⟨_, _, _, _, _, _, congrArg (fun z => [z]) (Fm.d_eq _), ⟨?_, rfl, ?_, ?_⟩, i + 1, by omega, by omega, ⟨rfl, rfl, rfl, rfl, rfl, rfl, ?_, trivial⟩, ⟨rfl, rfl, rfl, rfl, rfl, rfl, trivial⟩, ⟨rfl, rfl, rfl, rfl, rfl, rfl, trivial⟩, ⟨rfl, rfl, rfl, rfl, rfl, ?_, trivial⟩, ?_, trivial⟩
      · simp; omega
      · rw [← Fm.d_eq]
        have := cells_fm ((f.l.take i).map (·.right (t && !countB f.kind)) ++ [z.right (t && !countB f.kind)])
        simpa using this
      · simp; omega
      · rw [wrap64 (by omega) (by omega)]; simp
      · show _ ++ [D.agg (fmCells (z.right (t && !countB f.kind)))] = _
        rw [← d_cells, List.take_add_one, hz]; simp
      · simp; omega
    · simp only [List.length_map, decide_eq_false_iff_not] at hge
      rw [List.take_of_length_le (by omega), ← hr, hR, Fm.d_mk]
  · simp [bne, h9] at hne
  · have hk1 : ¬ f.kind = 16 := by simpa using h16
    have hk2 : ¬ f.kind = 17 := by simpa using h17
    have hk3 : ¬ f.kind = 9 := by simpa using h9
    have hR : f.right t = Fm.mk (D.toInt (Option.getD (lookD M.du (.int .i64 f.kind)) (.int .i64 0))) f.name f.n f.ts f.bs (f.l.map (·.right (t && !countB f.kind))) := by
      rw [hre, hdu, ht]; simp [hk1, hk2, hk3]
    refine ⟨0, Nat.zero_le _, by simp, fun i hi => ⟨fun hlt => ?_, fun hge => ?_⟩⟩
    · simp only [List.length_map, decide_eq_true_eq] at hlt
      obtain ⟨z, hz, hm⟩ := get_nat (l := f.l) (x := i) (by omega)
      rw [Int.toNat_natCast, agg_fm hz]
      refine ⟨⟨by omega, by simp [hz]⟩, ?_⟩
      refine (fn44 f.kind).mono ?_
      rintro rs rfl
      refine ⟨_, rfl, ?_⟩
      rw [bif_and]
      refine (ih z hm (hall z hm) (t && !countB f.kind)).mono ?_
      rintro rs rfl
      refine ⟨_, _, _, _, _, _, congrArg (fun z => [z]) (Fm.d_eq _), ⟨?_, rfl, ?_, ?_⟩, i + 1, by omega, by omega, ⟨rfl, rfl, rfl, rfl, rfl, rfl, ?_, trivial⟩, ⟨rfl, rfl, rfl, rfl, rfl, rfl, trivial⟩, ⟨rfl, rfl, rfl, rfl, rfl, rfl, trivial⟩, ⟨rfl, rfl, rfl, rfl, rfl, ?_, trivial⟩, ?_, trivial⟩
      · simp; omega
      · rw [← Fm.d_eq]
        have := cells_fm ((f.l.take i).map (·.right (t && !countB f.kind)) ++ [z.right (t && !countB f.kind)])
        simpa using this
      · simp; omega
      · rw [wrap64 (by omega) (by omega)]; simp
      · show _ ++ [D.agg (fmCells (z.right (t && !countB f.kind)))] = _
        rw [← d_cells, List.take_add_one, hz]; simp
      · simp; omega
    · simp only [List.length_map, decide_eq_false_iff_not] at hge
      rw [List.take_of_length_le (by omega), ← hr, hR, Fm.d_mk]
  · simp [bne, h9] at hne
  · have hR : f.right t = Fm.mk f.kind f.name f.n f.ts f.bs (f.l.map (·.right (t && !countB f.kind))) := by
      rw [hre, ht]; simp
    refine ⟨0, Nat.zero_le _, by simp, fun i hi => ⟨fun hlt => ?_, fun hge => ?_⟩⟩
    · simp only [List.length_map, decide_eq_true_eq] at hlt
      obtain ⟨z, hz, hm⟩ := get_nat (l := f.l) (x := i) (by omega)
      rw [Int.toNat_natCast, agg_fm hz]
      refine ⟨⟨by omega, by simp [hz]⟩, ?_⟩
      refine (fn44 f.kind).mono ?_
      rintro rs rfl
      refine ⟨_, rfl, ?_⟩
      rw [bif_and]
      refine (ih z hm (hall z hm) (t && !countB f.kind)).mono ?_
      rintro rs rfl
      refine ⟨_, _, _, _, _, _, congrArg (fun z => [z]) (Fm.d_eq _), ⟨?_, rfl, ?_, ?_⟩, i + 1, by omega, by omega, ⟨rfl, rfl, rfl, rfl, rfl, rfl, ?_, trivial⟩, ⟨rfl, rfl, rfl, rfl, rfl, rfl, trivial⟩, ⟨rfl, rfl, rfl, rfl, rfl, rfl, trivial⟩, ⟨rfl, rfl, rfl, rfl, rfl, ?_, trivial⟩, ?_, trivial⟩
      · simp; omega
      · rw [← Fm.d_eq]
        have := cells_fm ((f.l.take i).map (·.right (t && !countB f.kind)) ++ [z.right (t && !countB f.kind)])
        simpa using this
      · simp; omega
      · rw [wrap64 (by omega) (by omega)]; simp
      · show _ ++ [D.agg (fmCells (z.right (t && !countB f.kind)))] = _
        rw [← d_cells, List.take_add_one, hz]; simp
      · simp; omega
    · simp only [List.length_map, decide_eq_false_iff_not] at hge
      rw [List.take_of_length_le (by omega), ← hr, hR, Fm.d_mk]
end
end Go.Fo
