/- Joined texts: the walk by computed conditions, the contracts of the functions, the plain laws. -/
import Derived.Test.YtnnkldnhlebmmaaDoorP4
set_option linter.unusedVariables false
set_option linter.unusedSimpArgs false
/- The law's helpers; the examples. -/
namespace Go.Fo
open Go Go.Sx Go.Proofs
set_option maxRecDepth 100000
set_option maxHeartbeats 0

section
variable {G : Nat → Option (List D)} {M : Maps}
theorem g35 (f : Fm) (hf : f.wt < 4611686018427387904) : PFn Tryd.prog G 35 [f.d] (fun rs => ∃ b, rs = [.bool b]) := by
  induction f using Fm.induct with
  | h f ih =>
  have h55 := fn16 (G := G) f (by have := f.rank_le_wt; omega)
  have hwt := f.wt_eq
  have hwl := wts_len f.l
  rw [d_cells f] at h55 ⊢
  refine PFn.walk (fn := Tryd.f35) (code := bodyOf Tryd.f35) mixed
    (LL [(4, loopW (α := Nat) Tryd.prog G L0 0 (loopN (bodyOf Tryd.f35) 0) [1] (fun i => i ≤ f.l.length) (fun i => f.l.length - i)
      (fun i => [(3, .d (.int .i64 i))]) (fun H _ => H))])
    Tryd.func35 (by kernel_rfl) ⟨_, true, rfl⟩ (LoopsOk.one (b1 := loopN (bodyOf Tryd.f35) 0) (by kernel_rfl) (by kernel_rfl) (loopW_sound mixed (ok0 (by kernel_rfl)))) ?_
  apply @of_vc _ (
    PFn Tryd.prog G (55 : Nat) [D.agg [D.int IntKind.i64 (Fm.kind f), D.str (Fm.name f), D.int IntKind.i64 (Fm.n f), D.sl (List.map Tm.d (Fm.ts f)), D.sl (List.map Bd.d (Fm.bs f)), D.sl
    (List.map Fm.d (Fm.l f))]] fun (rs : List D) => ∃ (n : Int), rs = [D.int IntKind.i64 n] ∧ ((bif bif bif decide ((↑(List.length (List.map Fm.d (Fm.l f))) : Int) > (4 : Int)) then true
    else decide ((↑(List.length (List.map Tm.d (Fm.ts f))) : Int) > (4 : Int)) then true else decide ((↑(List.length (List.map Bd.d (Fm.bs f))) : Int) > (10 : Int)) then true else decide (n
    > (300 : Int))) = true → ∃ (b : Bool), [D.bool false] = [D.bool b]) ∧ ((bif bif bif decide ((↑(List.length (List.map Fm.d (Fm.l f))) : Int) > (4 : Int)) then true else decide
    ((↑(List.length (List.map Tm.d (Fm.ts f))) : Int) > (4 : Int)) then true else decide ((↑(List.length (List.map Bd.d (Fm.bs f))) : Int) > (10 : Int)) then true else decide (n > (300 :
    Int))) = false → ∃ (x0 : Nat), x0 ≤ List.length (Fm.l f) ∧ ((AV.ptr (0 : Nat) (0 : Nat) = AV.ptr (0 : Nat) (0 : Nat) ∧ (0 : Int) = (↑x0 : Int) ∧ True) ∧ (Fm.kind f = Fm.kind f ∧ Fm.name
    f = Fm.name f ∧ Fm.n f = Fm.n f ∧ List.map Tm.d (Fm.ts f) = List.map Tm.d (Fm.ts f) ∧ List.map Bd.d (Fm.bs f) = List.map Bd.d (Fm.bs f) ∧ List.map Fm.d (Fm.l f) = List.map Fm.d (Fm.l f)
    ∧ True) ∧ True) ∧ ∀ (x : Nat), x ≤ List.length (Fm.l f) → (decide ((↑x : Int) < (↑(List.length (List.map Fm.d (Fm.l f))) : Int)) = true → ((0 : Int) ≤ (↑x : Int) ∧ (List.map Fm.d (Fm.l
    f))[Int.toNat (↑x : Int)]? = some (aggAt [Sh.int IntKind.i64, Sh.str, Sh.int IntKind.i64, Sh.sl, Sh.sl, Sh.sl] (List.map Fm.d (Fm.l f)) (Int.toNat (↑x : Int)))) ∧ PFn Tryd.prog G (35 :
    Nat) [aggAt [Sh.int IntKind.i64, Sh.str, Sh.int IntKind.i64, Sh.sl, Sh.sl, Sh.sl] (List.map Fm.d (Fm.l f)) (Int.toNat (↑x : Int))] fun (rs : List D) => ∃ (b : Bool), rs = [D.bool b] ∧
    ((!b) = true → ∃ (b : Bool), [D.bool false] = [D.bool b]) ∧ ((!b) = false → ∃ (y : Nat), y ≤ List.length (Fm.l f) ∧ List.length (Fm.l f) - y < List.length (Fm.l f) - x ∧ (AV.ptr (0 :
    Nat) (0 : Nat) = AV.ptr (0 : Nat) (0 : Nat) ∧ IntKind.wrap IntKind.i64 ((↑x : Int) + (1 : Int)) = (↑y : Int) ∧ True) ∧ (Fm.kind f = Fm.kind f ∧ Fm.name f = Fm.name f ∧ Fm.n f = Fm.n f ∧
    List.map Tm.d (Fm.ts f) = List.map Tm.d (Fm.ts f) ∧ List.map Bd.d (Fm.bs f) = List.map Bd.d (Fm.bs f) ∧ List.map Fm.d (Fm.l f) = List.map Fm.d (Fm.l f) ∧ True) ∧ True)) ∧ (decide ((↑x :
    Int) < (↑(List.length (List.map Fm.d (Fm.l f))) : Int)) = false → ∃ (b : Bool), [D.bool true] = [D.bool b])))
  · kernel_rfl
  refine h55.use ⟨_, rfl, fun _ => ⟨_, rfl⟩, fun _ => ⟨0, by omega, ⟨⟨rfl, rfl, trivial⟩, ⟨rfl, rfl, rfl, rfl, rfl, rfl, trivial⟩, trivial⟩, fun i hi => ⟨fun hlt => ?_, fun _ => ⟨_, rfl⟩⟩⟩⟩
  simp only [List.length_map, decide_eq_true_eq] at hlt
  obtain ⟨z, hz, hm⟩ := get_nat (l := f.l) (x := i) (by omega)
  rw [Int.toNat_natCast, agg_fm hz]
  have hzw := Fm.wt_lt hm
  refine ⟨⟨by omega, by simp [hz]⟩, (ih z hm (by omega)).mono ?_⟩
  rintro rs ⟨b, rfl⟩
  refine ⟨b, rfl, fun _ => ⟨_, rfl⟩, fun _ => ⟨i + 1, by omega, by omega, ⟨rfl, ?_, trivial⟩, ⟨rfl, rfl, rfl, rfl, rfl, rfl, trivial⟩, trivial⟩⟩
  rw [wrap64 (by omega) (by omega)]; simp
theorem g15 (e : En) (f : Fm) (hf : f.wt < 4611686018427387904) : PFn Tryd.prog G 15 [.sl (e.map Bd.d), f.d] (fun rs => ∃ b, rs = [.bool b] ∧ (b = true → e.length ≤ 30)) := by
  have h35 := g35 (G := G) f hf
  rw [d_cells f] at h35 ⊢
  refine PFn.walk (fn := Tryd.f15) (code := bodyOf Tryd.f15) mixed L0 Tryd.func15 (by kernel_rfl) ⟨_, false, rfl, fun h => (by cases h)⟩ (ok0 (by kernel_rfl)) ?_
  apply @of_vc _ (
    PFn Tryd.prog G (35 : Nat) [D.agg [D.int IntKind.i64 (Fm.kind f), D.str (Fm.name f), D.int IntKind.i64 (Fm.n f), D.sl (List.map Tm.d (Fm.ts f)), D.sl (List.map Bd.d (Fm.bs f)), D.sl
    (List.map Fm.d (Fm.l f))]] fun (rs : List D) => ∃ (b : Bool), rs = [D.bool b] ∧ ∃ (b_1 : Bool), [D.bool (bif decide ((↑(List.length (List.map Bd.d e)) : Int) ≤ (30 : Int)) then b else
    false)] = [D.bool b_1] ∧ (b_1 = true → List.length e ≤ (30 : Nat)))
  · kernel_rfl
  refine h35.mono ?_
  rintro rs ⟨b, rfl⟩
  refine ⟨b, rfl, _, rfl, fun h => ?_⟩
  rw [bif_and, Bool.and_eq_true, decide_eq_true_eq, List.length_map] at h
  omega
theorem g23 (e : En) (nm : Nm) (hl : e.length < 4611686018427387904) : PFn Tryd.prog G 23 [.sl (e.map Bd.d), .str nm] (· = [.bool (hasE e nm)]) := by
  refine PFn.walk (fn := Tryd.f23) (code := bodyOf Tryd.f23) mixed
    (LL [(2, loopW (α := Nat) Tryd.prog G L0 0 (loopN (bodyOf Tryd.f23) 0) [0, 1] (fun i => i ≤ e.length ∧ hasE (e.take i) nm = false) (fun i => e.length - i)
      (fun i => [(5, .d (.int .i64 i))]) (fun H _ => H))])
    Tryd.func23 (by kernel_rfl) ⟨_, rfl⟩ (LoopsOk.one (b1 := loopN (bodyOf Tryd.f23) 0) (by kernel_rfl) (by kernel_rfl) (loopW_sound mixed (ok0 (by kernel_rfl)))) ?_
  apply @of_vc _ (
    ∃ (x0 : Nat), (x0 ≤ List.length e ∧ hasE (List.take x0 e) nm = false) ∧ ((List.map Bd.d e = List.map Bd.d e ∧ nm = nm ∧ (0 : Int) = (↑x0 : Int) ∧ True) ∧ True) ∧ ∀ (x : Nat), x ≤
    List.length e ∧ hasE (List.take x e) nm = false → (decide ((↑x : Int) < (↑(List.length (List.map Bd.d e)) : Int)) = true → ((0 : Int) ≤ (↑x : Int) ∧ (List.map Bd.d e)[Int.toNat (↑x :
    Int)]? = some (aggAt [Sh.str, Sh.int IntKind.i64] (List.map Bd.d e) (Int.toNat (↑x : Int)))) ∧ ((D.toStr (Option.getD (cellAt (List.map Bd.d e) (Int.toNat (↑x : Int)) (0 : Nat)) default)
    == nm) = true → [D.bool true] = [D.bool (hasE e nm)]) ∧ ((D.toStr (Option.getD (cellAt (List.map Bd.d e) (Int.toNat (↑x : Int)) (0 : Nat)) default) == nm) = false → ∃ (y : Nat), (y ≤
    List.length e ∧ hasE (List.take y e) nm = false) ∧ List.length e - y < List.length e - x ∧ (List.map Bd.d e = List.map Bd.d e ∧ nm = nm ∧ IntKind.wrap IntKind.i64 ((↑x : Int) + (1 :
    Int)) = (↑y : Int) ∧ True) ∧ True)) ∧ (decide ((↑x : Int) < (↑(List.length (List.map Bd.d e)) : Int)) = false → [D.bool false] = [D.bool (hasE e nm)]))
  · kernel_rfl
  refine ⟨0, ⟨by omega, rfl⟩, by simp, fun i hi => ⟨fun hlt => ?_, fun hge => ?_⟩⟩
  · simp only [List.length_map, decide_eq_true_eq] at hlt
    obtain ⟨z, hz, hm⟩ := get_nat (l := e) (x := i) (by omega)
    rw [Int.toNat_natCast, agg_bd hz, cell_bd0 hz]
    have e2 : D.toStr (Option.getD (some (D.str z.name)) default) = z.name := rfl
    rw [e2]
    refine ⟨⟨by omega, by simp [hz]⟩, fun h => by rw [hasE_get hm h], fun h => ⟨i + 1, ⟨by omega, by rw [hasE_take_succ hz, hi.2, h]; rfl⟩, by omega, ?_⟩⟩
    rw [wrap64 (by omega) (by omega)]; simp
  · simp only [List.length_map, decide_eq_false_iff_not] at hge
    have h2 := hi.2
    rw [List.take_of_length_le (by omega)] at h2
    rw [h2]
theorem g22 (f : Fm) (nm : Nm) (hf : f.wt < 4611686018427387904) : PFn Tryd.prog G 22 [f.d, .str nm] (· = [.bool (f.occ.contains nm)]) := by
  induction f using Fm.induct with
  | h f ih =>
  have hwt := f.wt_eq
  have hwl := wts_len f.l
  rw [d_cells f]
  refine PFn.walk (fn := Tryd.f22) (code := bodyOf Tryd.f22) mixed
    (LL [(4, loopW (α := Nat) Tryd.prog G L0 0 (loopN (bodyOf Tryd.f22) 0) [1, 2] (fun i => i ≤ f.ts.length ∧ ((f.ts.take i).map (·.name)).contains nm = false) (fun i => f.ts.length - i)
      (fun i => [(5, .d (.int .i64 i))]) (fun H _ => H)),
     (9, loopW (α := Nat) Tryd.prog G L0 0 (loopN (bodyOf Tryd.f22) 1) [1, 2] (fun i => i ≤ f.l.length ∧ (Fm.occs (f.l.take i)).contains nm = false) (fun i => f.l.length - i)
      (fun i => [(6, .d (.int .i64 i))]) (fun H _ => H))])
    Tryd.func22 (by kernel_rfl) ⟨_, rfl⟩ (LoopsOk.two (b1 := loopN (bodyOf Tryd.f22) 0) (b2 := loopN (bodyOf Tryd.f22) 1) (by kernel_rfl) (by kernel_rfl) (by kernel_rfl) (loopW_sound mixed (ok0 (by kernel_rfl))) (loopW_sound mixed (ok0 (by kernel_rfl)))) ?_
  apply @of_vc _ (
    PFn Tryd.prog G (23 : Nat) [D.sl (List.map Bd.d (Fm.bs f)), D.str nm] fun (rs : List D) => ∃ (b : Bool), rs = [D.bool b] ∧ (b = true → [D.bool true] = [D.bool (List.contains (Fm.occ f)
    nm)]) ∧ (b = false → ∃ (x0 : Nat), (x0 ≤ List.length (Fm.ts f) ∧ List.contains (List.map (fun (x : Tm) => Tm.name x) (List.take x0 (Fm.ts f))) nm = false) ∧ ((nm = nm ∧ AV.ptr (0 : Nat)
    (0 : Nat) = AV.ptr (0 : Nat) (0 : Nat) ∧ (0 : Int) = (↑x0 : Int) ∧ True) ∧ (Fm.kind f = Fm.kind f ∧ Fm.name f = Fm.name f ∧ Fm.n f = Fm.n f ∧ List.map Tm.d (Fm.ts f) = List.map Tm.d
    (Fm.ts f) ∧ List.map Bd.d (Fm.bs f) = List.map Bd.d (Fm.bs f) ∧ List.map Fm.d (Fm.l f) = List.map Fm.d (Fm.l f) ∧ True) ∧ True) ∧ ∀ (x : Nat), x ≤ List.length (Fm.ts f) ∧ List.contains
    (List.map (fun (x : Tm) => Tm.name x) (List.take x (Fm.ts f))) nm = false → (decide ((↑x : Int) < (↑(List.length (List.map Tm.d (Fm.ts f))) : Int)) = true → ((0 : Int) ≤ (↑x : Int) ∧
    (List.map Tm.d (Fm.ts f))[Int.toNat (↑x : Int)]? = some (aggAt [Sh.int IntKind.i64, Sh.str, Sh.int IntKind.i64] (List.map Tm.d (Fm.ts f)) (Int.toNat (↑x : Int)))) ∧ ((D.toStr
    (Option.getD (cellAt (List.map Tm.d (Fm.ts f)) (Int.toNat (↑x : Int)) ((0 : Nat) + (1 : Nat))) default) == nm) = true → [D.bool true] = [D.bool (List.contains (Fm.occ f) nm)]) ∧
    ((D.toStr (Option.getD (cellAt (List.map Tm.d (Fm.ts f)) (Int.toNat (↑x : Int)) ((0 : Nat) + (1 : Nat))) default) == nm) = false → ∃ (y : Nat), (y ≤ List.length (Fm.ts f) ∧ List.contains
    (List.map (fun (x : Tm) => Tm.name x) (List.take y (Fm.ts f))) nm = false) ∧ List.length (Fm.ts f) - y < List.length (Fm.ts f) - x ∧ (nm = nm ∧ AV.ptr (0 : Nat) (0 : Nat) = AV.ptr (0 :
    Nat) (0 : Nat) ∧ IntKind.wrap IntKind.i64 ((↑x : Int) + (1 : Int)) = (↑y : Int) ∧ True) ∧ (Fm.kind f = Fm.kind f ∧ Fm.name f = Fm.name f ∧ Fm.n f = Fm.n f ∧ List.map Tm.d (Fm.ts f) =
    List.map Tm.d (Fm.ts f) ∧ List.map Bd.d (Fm.bs f) = List.map Bd.d (Fm.bs f) ∧ List.map Fm.d (Fm.l f) = List.map Fm.d (Fm.l f) ∧ True) ∧ True)) ∧ (decide ((↑x : Int) < (↑(List.length
    (List.map Tm.d (Fm.ts f))) : Int)) = false → ∃ (x0 : Nat), (x0 ≤ List.length (Fm.l f) ∧ List.contains (Fm.occs (List.take x0 (Fm.l f))) nm = false) ∧ ((nm = nm ∧ AV.ptr (0 : Nat) (0 :
    Nat) = AV.ptr (0 : Nat) (0 : Nat) ∧ (0 : Int) = (↑x0 : Int) ∧ True) ∧ (Fm.kind f = Fm.kind f ∧ Fm.name f = Fm.name f ∧ Fm.n f = Fm.n f ∧ List.map Tm.d (Fm.ts f) = List.map Tm.d (Fm.ts f)
    ∧ List.map Bd.d (Fm.bs f) = List.map Bd.d (Fm.bs f) ∧ List.map Fm.d (Fm.l f) = List.map Fm.d (Fm.l f) ∧ True) ∧ True) ∧ ∀ (x : Nat), x ≤ List.length (Fm.l f) ∧ List.contains (Fm.occs
    (List.take x (Fm.l f))) nm = false → (decide ((↑x : Int) < (↑(List.length (List.map Fm.d (Fm.l f))) : Int)) = true → ((0 : Int) ≤ (↑x : Int) ∧ (List.map Fm.d (Fm.l f))[Int.toNat (↑x :
    Int)]? = some (aggAt [Sh.int IntKind.i64, Sh.str, Sh.int IntKind.i64, Sh.sl, Sh.sl, Sh.sl] (List.map Fm.d (Fm.l f)) (Int.toNat (↑x : Int)))) ∧ PFn Tryd.prog G (22 : Nat) [aggAt [Sh.int
    IntKind.i64, Sh.str, Sh.int IntKind.i64, Sh.sl, Sh.sl, Sh.sl] (List.map Fm.d (Fm.l f)) (Int.toNat (↑x : Int)), D.str nm] fun (rs : List D) => ∃ (b : Bool), rs = [D.bool b] ∧ (b = true →
    [D.bool true] = [D.bool (List.contains (Fm.occ f) nm)]) ∧ (b = false → ∃ (y : Nat), (y ≤ List.length (Fm.l f) ∧ List.contains (Fm.occs (List.take y (Fm.l f))) nm = false) ∧ List.length
    (Fm.l f) - y < List.length (Fm.l f) - x ∧ (nm = nm ∧ AV.ptr (0 : Nat) (0 : Nat) = AV.ptr (0 : Nat) (0 : Nat) ∧ IntKind.wrap IntKind.i64 ((↑x : Int) + (1 : Int)) = (↑y : Int) ∧ True) ∧
    (Fm.kind f = Fm.kind f ∧ Fm.name f = Fm.name f ∧ Fm.n f = Fm.n f ∧ List.map Tm.d (Fm.ts f) = List.map Tm.d (Fm.ts f) ∧ List.map Bd.d (Fm.bs f) = List.map Bd.d (Fm.bs f) ∧ List.map Fm.d
    (Fm.l f) = List.map Fm.d (Fm.l f) ∧ True) ∧ True)) ∧ (decide ((↑x : Int) < (↑(List.length (List.map Fm.d (Fm.l f))) : Int)) = false → [D.bool false] = [D.bool (List.contains (Fm.occ f)
    nm)]))))
  · kernel_rfl
  have hocc : f.occ.contains nm = ((f.ts.map (·.name)).contains nm || hasE f.bs nm || (Fm.occs f.l).contains nm) := by
    rw [f.occ_eq, Bool.eq_iff_iff]
    simp only [List.contains_eq_mem, List.mem_append, Bool.or_eq_true, decide_eq_true_eq, hasE_iff]
  refine (g23 f.bs nm (by omega)).use ⟨_, rfl, fun h => by rw [hocc, h]; simp, fun h => ?_⟩
  refine ⟨0, ⟨by omega, rfl⟩, ⟨⟨rfl, rfl, rfl, trivial⟩, ⟨rfl, rfl, rfl, rfl, rfl, rfl, trivial⟩, trivial⟩, fun i hi => ⟨fun hlt => ?_, fun hge => ?_⟩⟩
  · simp only [List.length_map, decide_eq_true_eq] at hlt
    obtain ⟨z, hz, hm⟩ := get_nat (l := f.ts) (x := i) (by omega)
    rw [Int.toNat_natCast, agg_tm hz, cell_tm1 hz]
    have e2 : D.toStr (Option.getD (some (D.str z.name)) default) = z.name := rfl
    rw [e2]
    refine ⟨⟨by omega, by simp [hz]⟩, fun h2 => ?_, fun h2 => ⟨i + 1, ⟨by omega, ?_⟩, by omega, ⟨rfl, rfl, ?_, trivial⟩, ⟨rfl, rfl, rfl, rfl, rfl, rfl, trivial⟩, trivial⟩⟩
    · have : (f.ts.map (·.name)).contains nm = true := by
        rw [List.contains_iff_mem, List.mem_map]
        exact ⟨z, hm, by simpa using h2⟩
      rw [hocc, this]; rfl
    · have h5 := hi.2
      have h6 : ¬ z.name = nm := by simpa using h2
      rw [List.take_add_one, hz]
      simp only [Option.toList_some, List.map_append, List.map_cons, List.map_nil, List.contains_eq_mem, List.mem_append, List.mem_singleton, decide_eq_false_iff_not] at h5 ⊢
      rintro (h7 | h7)
      · exact h5 h7
      · exact h6 h7.symm
    · rw [wrap64 (by omega) (by omega)]; simp
  · simp only [List.length_map, decide_eq_false_iff_not] at hge
    have ht := hi.2
    rw [List.take_of_length_le (by omega)] at ht
    refine ⟨0, ⟨by omega, by simp [Fm.occs]⟩, ⟨⟨rfl, rfl, rfl, trivial⟩, ⟨rfl, rfl, rfl, rfl, rfl, rfl, trivial⟩, trivial⟩, fun j hj => ⟨fun hlt => ?_, fun hge2 => ?_⟩⟩
    · simp only [List.length_map, decide_eq_true_eq] at hlt
      obtain ⟨z, hz, hm⟩ := get_nat (l := f.l) (x := j) (by omega)
      rw [Int.toNat_natCast, agg_fm hz]
      have hzw := Fm.wt_lt hm
      refine ⟨⟨by omega, by simp [hz]⟩, (ih z hm (by omega)).use ⟨_, rfl, fun h2 => ?_, fun h2 => ⟨j + 1, ⟨by omega, ?_⟩, by omega, ⟨rfl, rfl, ?_, trivial⟩, ⟨rfl, rfl, rfl, rfl, rfl, rfl, trivial⟩, trivial⟩⟩⟩
      · have : (Fm.occs f.l).contains nm = true := by
          rw [List.contains_iff_mem] at h2 ⊢
          exact occs_mem hm h2
        rw [hocc, this, Bool.or_true]
      · have h5 := hj.2
        have happ : ∀ (a : List Fm) (x : Fm), Fm.occs (a ++ [x]) = Fm.occs a ++ x.occ := by
          intro a x
          induction a with
          | nil => simp [Fm.occs]
          | cons y r ih => simp only [List.cons_append, Fm.occs, ih, List.append_assoc]
        rw [List.take_add_one, hz]
        simp only [Option.toList_some]
        rw [happ]
        simp only [List.contains_eq_mem, List.mem_append, decide_eq_false_iff_not] at h5 h2 ⊢
        rintro (h7 | h7)
        · exact h5 h7
        · exact h2 h7
      · rw [wrap64 (by omega) (by omega)]; simp
    · simp only [List.length_map, decide_eq_false_iff_not] at hge2
      have h5 := hj.2
      rw [List.take_of_length_le (by omega)] at h5
      rw [hocc, ht, h, h5]; rfl
theorem g52 (nm : Nm) : PFn Tryd.prog G 52 [.str nm] (· = [(⟨2, nm, 0⟩ : Tm).d]) := by
  refine PFn.walk (fn := Tryd.f52) (code := bodyOf Tryd.f52) mixed L0 Tryd.func52 (by kernel_rfl) ⟨_, rfl⟩ (ok0 (by kernel_rfl)) ?_
  apply @of_vc _ (
    [D.agg [D.int IntKind.i64 (2 : Int), D.str nm, D.int IntKind.i64 (0 : Int)]] = [D.agg [D.int IntKind.i64 (Tm.kind (Tm.mk (2 : Int) nm (0 : Int))), D.str (Tm.name (Tm.mk (2 : Int) nm (0 :
    Int))), D.int IntKind.i64 (Tm.n (Tm.mk (2 : Int) nm (0 : Int)))]])
  · kernel_rfl
  rfl
theorem g28 (a b : Nm) : PFn Tryd.prog G 28 [.str a, .str b] (· = [(Fm.mk 3 [] 0 [⟨2, a, 0⟩, ⟨2, b, 0⟩] [] []).d]) := by
  refine PFn.walk (fn := Tryd.f28) (code := bodyOf Tryd.f28) mixed L0 Tryd.func28 (by kernel_rfl) ⟨_, rfl⟩ (ok0 (by kernel_rfl)) ?_
  apply @of_vc _ (
    PFn Tryd.prog G (52 : Nat) [D.str a] fun (rs : List D) => ∃ (n : Int), ∃ (s : List UInt8), ∃ (n_1 : Int), rs = [D.agg [D.int IntKind.i64 n, D.str s, D.int IntKind.i64 n_1]] ∧ PFn
    Tryd.prog G (52 : Nat) [D.str b] fun (rs : List D) => ∃ (n_2 : Int), ∃ (s_1 : List UInt8), ∃ (n_3 : Int), rs = [D.agg [D.int IntKind.i64 n_2, D.str s_1, D.int IntKind.i64 n_3]] ∧ [D.agg
    [D.int IntKind.i64 (3 : Int), D.str (Array.toList (ByteArray.data (ByteArray.mk #[]))), D.int IntKind.i64 (0 : Int), D.sl [D.agg [D.int IntKind.i64 n, D.str s, D.int IntKind.i64 n_1],
    D.agg [D.int IntKind.i64 n_2, D.str s_1, D.int IntKind.i64 n_3]], D.sl [], D.sl []]] = [D.agg [D.int IntKind.i64 (3 : Int), D.str [], D.int IntKind.i64 (0 : Int), D.sl [D.agg [D.int
    IntKind.i64 (Tm.kind (Tm.mk (2 : Int) a (0 : Int))), D.str (Tm.name (Tm.mk (2 : Int) a (0 : Int))), D.int IntKind.i64 (Tm.n (Tm.mk (2 : Int) a (0 : Int)))], D.agg [D.int IntKind.i64
    (Tm.kind (Tm.mk (2 : Int) b (0 : Int))), D.str (Tm.name (Tm.mk (2 : Int) b (0 : Int))), D.int IntKind.i64 (Tm.n (Tm.mk (2 : Int) b (0 : Int)))]], D.sl [], D.sl []]])
  · kernel_rfl
  exact (g52 a).use ⟨_, _, _, rfl, (g52 b).use ⟨_, _, _, rfl, rfl⟩⟩
theorem g29 (k : Int) (a op : Nm) (n : Int) : PFn Tryd.prog G 29 [.int .i64 k, .str a, .str op, .int .i64 n] (· = [(Fm.mk 9 op 0 [⟨k, a, 0⟩, ⟨1, [], n⟩] [] []).d]) := by
  refine PFn.walk (fn := Tryd.f29) (code := bodyOf Tryd.f29) mixed L0 Tryd.func29 (by kernel_rfl) ⟨_, rfl⟩ (ok0 (by kernel_rfl)) ?_
  apply @of_vc _ (
    [D.agg [D.int IntKind.i64 (9 : Int), D.str op, D.int IntKind.i64 (0 : Int), D.sl [D.agg [D.int IntKind.i64 k, D.str a, D.int IntKind.i64 (0 : Int)], D.agg [D.int IntKind.i64 (1 : Int),
    D.str (Array.toList (ByteArray.data (ByteArray.mk #[]))), D.int IntKind.i64 n]], D.sl [], D.sl []]] = [D.agg [D.int IntKind.i64 (9 : Int), D.str op, D.int IntKind.i64 (0 : Int), D.sl
    [D.agg [D.int IntKind.i64 (Tm.kind (Tm.mk k a (0 : Int))), D.str (Tm.name (Tm.mk k a (0 : Int))), D.int IntKind.i64 (Tm.n (Tm.mk k a (0 : Int)))], D.agg [D.int IntKind.i64 (Tm.kind
    (Tm.mk (1 : Int) [] n)), D.str (Tm.name (Tm.mk (1 : Int) [] n)), D.int IntKind.i64 (Tm.n (Tm.mk (1 : Int) [] n))]], D.sl [], D.sl []]])
  · kernel_rfl
  rfl
end
end Go.Fo
/- The examples. -/
namespace Go.Fo
open Go Go.Sx Go.Proofs
set_option maxRecDepth 100000
set_option maxHeartbeats 0

def envL : En := [⟨[108], 1⟩, ⟨[115], 2⟩]
def atL (a b : Nm) : Fm := .mk 3 [] 0 [⟨2, a, 0⟩, ⟨2, b, 0⟩] [] []
def cmpL (k : Int) (a op : Nm) (n : Int) : Fm := .mk 9 op 0 [⟨k, a, 0⟩, ⟨1, [], n⟩] [] []
def allL : Fm := .mk 14 [] 0 [] [⟨[115], 2⟩] [atL [108] [115]]
def ruL : Ru := ⟨[114], true, 0, [⟨[108], 1⟩], allL⟩
def ru0 : Ru := ⟨[], false, 0, [], .mk 0 [] 0 [] [] []⟩
theorem l1 : termI envL ⟨3, [115], 0⟩ = (6, 0) := by decide +kernel
theorem l2 : rulesI [ruL, ruL] = (1, 82) := by decide +kernel
theorem l3 : (atL [108] [115]).tyI envL = 0 := by decide +kernel
theorem l4 : (atL [115] [108]).tyI envL = 80 := by decide +kernel
theorem l5 : (atL [108] [116]).tyI envL = 81 := by decide +kernel
theorem l6 : (cmpL 3 [115] [61] 1).tyI envL = 80 := by decide +kernel
theorem l7 : (cmpL 4 [115] [60] 3).tyI envL = 0 := by decide +kernel
theorem l8 : allL.tyI envL = 82 := by decide +kernel
theorem l9 : allL.tyI [⟨[108], 1⟩] = 0 := by decide +kernel
theorem l10 : ruL.tyI = 0 := by decide +kernel
theorem l11 : ru0.tyI = 1 := by decide +kernel
section
variable {M : Maps}
theorem g12 (hM : M.Ok) : PFn Tryd.prog (GG M) 12 [] (· = [.bool true]) := by
  refine PFn.walk (fn := Tryd.f12) (code := bodyOf Tryd.f12) mixed L0 Tryd.func12 (by kernel_rfl) ⟨_, rfl⟩ (ok0 (by kernel_rfl)) ?_
  apply @of_vc _ (
    (((0 : Int) ≤ (1 : Int) ∧ (1 : Int) ≤ (↑(List.length (List.reverse [D.agg (List.reverse [D.int IntKind.i64 (2 : Int), D.str (Array.toList (ByteArray.data (ByteArray.mk #[(115 :
    UInt8)])))]), D.agg (List.reverse [D.int IntKind.i64 (1 : Int), D.str (Array.toList (ByteArray.data (ByteArray.mk #[(108 : UInt8)])))])])) : Int)) ∧ allSz [D.agg [D.str (Array.toList
    (ByteArray.data (ByteArray.mk #[(108 : UInt8)]))), D.int IntKind.i64 (1 : Int)], D.agg [D.str (Array.toList (ByteArray.data (ByteArray.mk #[(115 : UInt8)]))), D.int IntKind.i64 (2 :
    Int)]] (2 : Nat) = true) ∧ PFn Tryd.prog (GG M) (28 : Nat) [D.str (Array.toList (ByteArray.data (ByteArray.mk #[(108 : UInt8)]))), D.str (Array.toList (ByteArray.data (ByteArray.mk
    #[(115 : UInt8)])))] fun (rs : List D) => ∃ (n : Int), ∃ (s : List UInt8), ∃ (n_1 : Int), ∃ (l : List D), ∃ (l_1 : List D), ∃ (l_2 : List D), rs = [D.agg [D.int IntKind.i64 n, D.str s,
    D.int IntKind.i64 n_1, D.sl l, D.sl l_1, D.sl l_2]] ∧ PFn Tryd.prog (GG M) (13 : Nat) [D.sl [D.agg [D.str (Array.toList (ByteArray.data (ByteArray.mk #[(108 : UInt8)]))), D.int
    IntKind.i64 (1 : Int)], D.agg [D.str (Array.toList (ByteArray.data (ByteArray.mk #[(115 : UInt8)]))), D.int IntKind.i64 (2 : Int)]], D.agg [D.int IntKind.i64 (3 : Int), D.str
    (Array.toList (ByteArray.data (ByteArray.mk #[(115 : UInt8)]))), D.int IntKind.i64 (0 : Int)]] fun (rs : List D) => ∃ (n_2 : Int), ∃ (n_3 : Int), rs = [D.int IntKind.i64 n_2, D.int
    IntKind.i64 n_3] ∧ (((0 : Int) ≤ (1 : Int) ∧ (1 : Int) ≤ (↑(List.length (List.reverse [D.agg (List.reverse [D.int IntKind.i64 (2 : Int), D.str (Array.toList (ByteArray.data (ByteArray.mk
    #[(115 : UInt8)])))]), D.agg (List.reverse [D.int IntKind.i64 (1 : Int), D.str (Array.toList (ByteArray.data (ByteArray.mk #[(108 : UInt8)])))])])) : Int)) ∧ allSz [D.agg [D.str
    (Array.toList (ByteArray.data (ByteArray.mk #[(108 : UInt8)]))), D.int IntKind.i64 (1 : Int)], D.agg [D.str (Array.toList (ByteArray.data (ByteArray.mk #[(115 : UInt8)]))), D.int
    IntKind.i64 (2 : Int)]] (2 : Nat) = true) ∧ PFn Tryd.prog (GG M) (18 : Nat) [D.sl [D.agg [D.str (Array.toList (ByteArray.data (ByteArray.mk #[(114 : UInt8)]))), D.bool true, D.int
    IntKind.i64 (0 : Int), D.sl [D.agg [D.str (Array.toList (ByteArray.data (ByteArray.mk #[(108 : UInt8)]))), D.int IntKind.i64 (1 : Int)]], D.int IntKind.i64 (14 : Int), D.str
    (Array.toList (ByteArray.data (ByteArray.mk #[]))), D.int IntKind.i64 (0 : Int), D.sl [], D.sl [D.agg [D.str (Array.toList (ByteArray.data (ByteArray.mk #[(115 : UInt8)]))), D.int
    IntKind.i64 (2 : Int)]], D.sl [D.agg [D.int IntKind.i64 n, D.str s, D.int IntKind.i64 n_1, D.sl l, D.sl l_1, D.sl l_2]]], D.agg [D.str (Array.toList (ByteArray.data (ByteArray.mk #[(114
    : UInt8)]))), D.bool true, D.int IntKind.i64 (0 : Int), D.sl [D.agg [D.str (Array.toList (ByteArray.data (ByteArray.mk #[(108 : UInt8)]))), D.int IntKind.i64 (1 : Int)]], D.int
    IntKind.i64 (14 : Int), D.str (Array.toList (ByteArray.data (ByteArray.mk #[]))), D.int IntKind.i64 (0 : Int), D.sl [], D.sl [D.agg [D.str (Array.toList (ByteArray.data (ByteArray.mk
    #[(115 : UInt8)]))), D.int IntKind.i64 (2 : Int)]], D.sl [D.agg [D.int IntKind.i64 n, D.str s, D.int IntKind.i64 n_1, D.sl l, D.sl l_1, D.sl l_2]]]]] fun (rs : List D) => ∃ (n_4 : Int),
    ∃ (n_5 : Int), rs = [D.int IntKind.i64 n_4, D.int IntKind.i64 n_5] ∧ PFn Tryd.prog (GG M) (28 : Nat) [D.str (Array.toList (ByteArray.data (ByteArray.mk #[(108 : UInt8)]))), D.str
    (Array.toList (ByteArray.data (ByteArray.mk #[(115 : UInt8)])))] fun (rs : List D) => ∃ (n_6 : Int), ∃ (s_1 : List UInt8), ∃ (n_7 : Int), ∃ (l_3 : List D), ∃ (l_4 : List D), ∃ (l_5 :
    List D), rs = [D.agg [D.int IntKind.i64 n_6, D.str s_1, D.int IntKind.i64 n_7, D.sl l_3, D.sl l_4, D.sl l_5]] ∧ PFn Tryd.prog (GG M) (16 : Nat) [D.sl [D.agg [D.str (Array.toList
    (ByteArray.data (ByteArray.mk #[(108 : UInt8)]))), D.int IntKind.i64 (1 : Int)], D.agg [D.str (Array.toList (ByteArray.data (ByteArray.mk #[(115 : UInt8)]))), D.int IntKind.i64 (2 :
    Int)]], D.agg [D.int IntKind.i64 n_6, D.str s_1, D.int IntKind.i64 n_7, D.sl l_3, D.sl l_4, D.sl l_5]] fun (rs : List D) => ∃ (n_8 : Int), rs = [D.int IntKind.i64 n_8] ∧ PFn Tryd.prog
    (GG M) (28 : Nat) [D.str (Array.toList (ByteArray.data (ByteArray.mk #[(115 : UInt8)]))), D.str (Array.toList (ByteArray.data (ByteArray.mk #[(108 : UInt8)])))] fun (rs : List D) => ∃
    (n_9 : Int), ∃ (s_2 : List UInt8), ∃ (n_10 : Int), ∃ (l_6 : List D), ∃ (l_7 : List D), ∃ (l_8 : List D), rs = [D.agg [D.int IntKind.i64 n_9, D.str s_2, D.int IntKind.i64 n_10, D.sl l_6,
    D.sl l_7, D.sl l_8]] ∧ PFn Tryd.prog (GG M) (16 : Nat) [D.sl [D.agg [D.str (Array.toList (ByteArray.data (ByteArray.mk #[(108 : UInt8)]))), D.int IntKind.i64 (1 : Int)], D.agg [D.str
    (Array.toList (ByteArray.data (ByteArray.mk #[(115 : UInt8)]))), D.int IntKind.i64 (2 : Int)]], D.agg [D.int IntKind.i64 n_9, D.str s_2, D.int IntKind.i64 n_10, D.sl l_6, D.sl l_7, D.sl
    l_8]] fun (rs : List D) => ∃ (n_11 : Int), rs = [D.int IntKind.i64 n_11] ∧ PFn Tryd.prog (GG M) (28 : Nat) [D.str (Array.toList (ByteArray.data (ByteArray.mk #[(108 : UInt8)]))), D.str
    (Array.toList (ByteArray.data (ByteArray.mk #[(116 : UInt8)])))] fun (rs : List D) => ∃ (n_12 : Int), ∃ (s_3 : List UInt8), ∃ (n_13 : Int), ∃ (l_9 : List D), ∃ (l_10 : List D), ∃ (l_11 :
    List D), rs = [D.agg [D.int IntKind.i64 n_12, D.str s_3, D.int IntKind.i64 n_13, D.sl l_9, D.sl l_10, D.sl l_11]] ∧ PFn Tryd.prog (GG M) (16 : Nat) [D.sl [D.agg [D.str (Array.toList
    (ByteArray.data (ByteArray.mk #[(108 : UInt8)]))), D.int IntKind.i64 (1 : Int)], D.agg [D.str (Array.toList (ByteArray.data (ByteArray.mk #[(115 : UInt8)]))), D.int IntKind.i64 (2 :
    Int)]], D.agg [D.int IntKind.i64 n_12, D.str s_3, D.int IntKind.i64 n_13, D.sl l_9, D.sl l_10, D.sl l_11]] fun (rs : List D) => ∃ (n_14 : Int), rs = [D.int IntKind.i64 n_14] ∧ PFn
    Tryd.prog (GG M) (29 : Nat) [D.int IntKind.i64 (3 : Int), D.str (Array.toList (ByteArray.data (ByteArray.mk #[(115 : UInt8)]))), D.str (Array.toList (ByteArray.data (ByteArray.mk #[(61 :
    UInt8)]))), D.int IntKind.i64 (1 : Int)] fun (rs : List D) => ∃ (n_15 : Int), ∃ (s_4 : List UInt8), ∃ (n_16 : Int), ∃ (l_12 : List D), ∃ (l_13 : List D), ∃ (l_14 : List D), rs = [D.agg
    [D.int IntKind.i64 n_15, D.str s_4, D.int IntKind.i64 n_16, D.sl l_12, D.sl l_13, D.sl l_14]] ∧ PFn Tryd.prog (GG M) (16 : Nat) [D.sl [D.agg [D.str (Array.toList (ByteArray.data
    (ByteArray.mk #[(108 : UInt8)]))), D.int IntKind.i64 (1 : Int)], D.agg [D.str (Array.toList (ByteArray.data (ByteArray.mk #[(115 : UInt8)]))), D.int IntKind.i64 (2 : Int)]], D.agg [D.int
    IntKind.i64 n_15, D.str s_4, D.int IntKind.i64 n_16, D.sl l_12, D.sl l_13, D.sl l_14]] fun (rs : List D) => ∃ (n_17 : Int), rs = [D.int IntKind.i64 n_17] ∧ PFn Tryd.prog (GG M) (29 :
    Nat) [D.int IntKind.i64 (4 : Int), D.str (Array.toList (ByteArray.data (ByteArray.mk #[(115 : UInt8)]))), D.str (Array.toList (ByteArray.data (ByteArray.mk #[(60 : UInt8)]))), D.int
    IntKind.i64 (3 : Int)] fun (rs : List D) => ∃ (n_18 : Int), ∃ (s_5 : List UInt8), ∃ (n_19 : Int), ∃ (l_15 : List D), ∃ (l_16 : List D), ∃ (l_17 : List D), rs = [D.agg [D.int IntKind.i64
    n_18, D.str s_5, D.int IntKind.i64 n_19, D.sl l_15, D.sl l_16, D.sl l_17]] ∧ PFn Tryd.prog (GG M) (16 : Nat) [D.sl [D.agg [D.str (Array.toList (ByteArray.data (ByteArray.mk #[(108 :
    UInt8)]))), D.int IntKind.i64 (1 : Int)], D.agg [D.str (Array.toList (ByteArray.data (ByteArray.mk #[(115 : UInt8)]))), D.int IntKind.i64 (2 : Int)]], D.agg [D.int IntKind.i64 n_18,
    D.str s_5, D.int IntKind.i64 n_19, D.sl l_15, D.sl l_16, D.sl l_17]] fun (rs : List D) => ∃ (n_20 : Int), rs = [D.int IntKind.i64 n_20] ∧ PFn Tryd.prog (GG M) (16 : Nat) [D.sl [D.agg
    [D.str (Array.toList (ByteArray.data (ByteArray.mk #[(108 : UInt8)]))), D.int IntKind.i64 (1 : Int)], D.agg [D.str (Array.toList (ByteArray.data (ByteArray.mk #[(115 : UInt8)]))), D.int
    IntKind.i64 (2 : Int)]], D.agg [D.int IntKind.i64 (14 : Int), D.str (Array.toList (ByteArray.data (ByteArray.mk #[]))), D.int IntKind.i64 (0 : Int), D.sl [], D.sl [D.agg [D.str
    (Array.toList (ByteArray.data (ByteArray.mk #[(115 : UInt8)]))), D.int IntKind.i64 (2 : Int)]], D.sl [D.agg [D.int IntKind.i64 n, D.str s, D.int IntKind.i64 n_1, D.sl l, D.sl l_1, D.sl
    l_2]]]] fun (rs : List D) => ∃ (n_21 : Int), rs = [D.int IntKind.i64 n_21] ∧ ((bif bif bif bif bif n_8 == (0 : Int) then n_11 == (80 : Int) else false then n_14 == (81 : Int) else false
    then n_17 == (80 : Int) else false then n_20 == (0 : Int) else false then n_21 == (82 : Int) else false) = true → ((0 : Int) ≤ (1 : Int) ∧ (1 : Int) ≤ (↑(List.length (List.reverse [D.agg
    (List.reverse [D.int IntKind.i64 (2 : Int), D.str (Array.toList (ByteArray.data (ByteArray.mk #[(115 : UInt8)])))]), D.agg (List.reverse [D.int IntKind.i64 (1 : Int), D.str (Array.toList
    (ByteArray.data (ByteArray.mk #[(108 : UInt8)])))])])) : Int)) ∧ allSz [D.agg [D.str (Array.toList (ByteArray.data (ByteArray.mk #[(108 : UInt8)]))), D.int IntKind.i64 (1 : Int)], D.agg
    [D.str (Array.toList (ByteArray.data (ByteArray.mk #[(115 : UInt8)]))), D.int IntKind.i64 (2 : Int)]] (2 : Nat) = true) ∧ PFn Tryd.prog (GG M) (16 : Nat) [D.sl [D.agg [D.str
    (Array.toList (ByteArray.data (ByteArray.mk #[(108 : UInt8)]))), D.int IntKind.i64 (1 : Int)]], D.agg [D.int IntKind.i64 (14 : Int), D.str (Array.toList (ByteArray.data (ByteArray.mk
    #[]))), D.int IntKind.i64 (0 : Int), D.sl [], D.sl [D.agg [D.str (Array.toList (ByteArray.data (ByteArray.mk #[(115 : UInt8)]))), D.int IntKind.i64 (2 : Int)]], D.sl [D.agg [D.int
    IntKind.i64 n, D.str s, D.int IntKind.i64 n_1, D.sl l, D.sl l_1, D.sl l_2]]]] fun (rs : List D) => ∃ (n_22 : Int), rs = [D.int IntKind.i64 n_22] ∧ PFn Tryd.prog (GG M) (20 : Nat) [D.agg
    [D.str (Array.toList (ByteArray.data (ByteArray.mk #[(114 : UInt8)]))), D.bool true, D.int IntKind.i64 (0 : Int), D.sl [D.agg [D.str (Array.toList (ByteArray.data (ByteArray.mk #[(108 :
    UInt8)]))), D.int IntKind.i64 (1 : Int)]], D.int IntKind.i64 (14 : Int), D.str (Array.toList (ByteArray.data (ByteArray.mk #[]))), D.int IntKind.i64 (0 : Int), D.sl [], D.sl [D.agg
    [D.str (Array.toList (ByteArray.data (ByteArray.mk #[(115 : UInt8)]))), D.int IntKind.i64 (2 : Int)]], D.sl [D.agg [D.int IntKind.i64 n, D.str s, D.int IntKind.i64 n_1, D.sl l, D.sl l_1,
    D.sl l_2]]]] fun (rs : List D) => ∃ (n : Int), rs = [D.int IntKind.i64 n] ∧ PFn Tryd.prog (GG M) (20 : Nat) [D.agg [D.str (Array.toList (ByteArray.data (ByteArray.mk #[]))), D.bool
    false, D.int IntKind.i64 (0 : Int), D.sl [], D.int IntKind.i64 (0 : Int), D.str (Array.toList (ByteArray.data (ByteArray.mk #[]))), D.int IntKind.i64 (0 : Int), D.sl [], D.sl [], D.sl
    []]] fun (rs : List D) => ∃ (n_23 : Int), rs = [D.int IntKind.i64 n_23] ∧ [D.bool (bif bif bif bif bif bif bif bif bif bif bif bif n_8 == (0 : Int) then n_11 == (80 : Int) else false
    then n_14 == (81 : Int) else false then n_17 == (80 : Int) else false then n_20 == (0 : Int) else false then n_21 == (82 : Int) else false then n_22 == (0 : Int) else false then n_2 ==
    (6 : Int) else false then n_3 == (0 : Int) else false then n == (0 : Int) else false then n_4 == (1 : Int) else false then n_5 == (82 : Int) else false then n_23 == (1 : Int) else
    false)] = [D.bool true])
  · kernel_rfl
  have c13 := g13 hM envL ⟨3, [115], 0⟩ (by decide +kernel) (by decide +kernel)
  have c18 := g18 hM [ruL, ruL] (by decide +kernel) (by decide +kernel)
  have c1 := g16 hM envL (atL [108] [115]) (by decide +kernel)
  have c2 := g16 hM envL (atL [115] [108]) (by decide +kernel)
  have c3 := g16 hM envL (atL [108] [116]) (by decide +kernel)
  have c4 := g16 hM envL (cmpL 3 [115] [61] 1) (by decide +kernel)
  have c5 := g16 hM envL (cmpL 4 [115] [60] 3) (by decide +kernel)
  have c6 := g16 hM envL allL (by decide +kernel)
  have c7 := g16 hM [⟨[108], 1⟩] allL (by decide +kernel)
  have c8 := g20 hM ruL (by decide +kernel)
  have c9 := g20 hM ru0 (by decide +kernel)
  rw [l1] at c13
  rw [l2] at c18
  rw [l3] at c1
  rw [l4] at c2
  rw [l5] at c3
  rw [l6] at c4
  rw [l7] at c5
  rw [l8] at c6
  rw [l9] at c7
  rw [l10] at c8
  rw [l11] at c9
  have a1 := g28 (G := GG M) [108] [115]
  have a2 := g28 (G := GG M) [115] [108]
  have a3 := g28 (G := GG M) [108] [116]
  have a4 := g29 (G := GG M) 3 [115] [61] 1
  have a5 := g29 (G := GG M) 4 [115] [60] 3
  refine ⟨by decide +kernel, PFn.use a1 ⟨_, _, _, _, _, _, rfl, PFn.use c13 ⟨_, _, rfl, by decide +kernel, PFn.use c18 ⟨_, _, rfl, ?_⟩⟩⟩⟩
  refine PFn.use a1 ⟨_, _, _, _, _, _, rfl, PFn.use c1 ⟨_, rfl, PFn.use a2 ⟨_, _, _, _, _, _, rfl, PFn.use c2 ⟨_, rfl, PFn.use a3 ⟨_, _, _, _, _, _, rfl, PFn.use c3 ⟨_, rfl, PFn.use a4 ⟨_, _, _, _, _, _, rfl, PFn.use c4 ⟨_, rfl, PFn.use a5 ⟨_, _, _, _, _, _, rfl, PFn.use c5 ⟨_, rfl, PFn.use c6 ⟨_, rfl, ?_⟩⟩⟩⟩⟩⟩⟩⟩⟩⟩⟩
  exact ⟨fun _ => ⟨by decide +kernel, by decide +kernel⟩, PFn.use c7 ⟨_, rfl, PFn.use c8 ⟨_, rfl, PFn.use c9 ⟨_, rfl, rfl⟩⟩⟩⟩
end
end Go.Fo
/- The laws: exactness, connectives, bodies. -/
namespace Go.Fo
open Go Go.Sx Go.Proofs
set_option maxRecDepth 100000
set_option maxHeartbeats 0

theorem check_sub {f x : Fm} (h : f.checkI = 0) (hx : x ∈ f.l) : x.checkI = 0 := by
  have hf := checkI_form h
  have hall : f.l.all Fm.formB = true := by
    rw [f.formB_eq, formsB_all, Bool.and_eq_true] at hf; exact hf.2
  have hxf := List.all_eq_true.1 hall x hx
  unfold Fm.checkI at h ⊢
  rw [if_pos (checkI_form (by unfold Fm.checkI; exact h))] at h
  rw [if_pos hxf]
  have hr := Fm.rank_lt hx
  have hd : x.depth < f.depth := by rw [f.depth_eq]; have := depths_mem hx; omega
  by_cases hc : 256 < f.rank ∨ 24 < f.depth
  · rw [if_pos hc] at h; cases h
  · rw [if_neg (by omega)]
theorem tyI_two {k : Int} {f g : Fm} {e : En} (hk : k = 11 ∨ k = 12 ∨ k = 13) (h : (Fm.mk k [] 0 [] [] [f, g]).checkI = 0) : (Fm.mk k [] 0 [] [] [f, g]).tyI e = if f.tyI e ≠ 0 then f.tyI e else g.tyI e := by
  have h1 := check_sub (x := f) h (by simp [Fm.l])
  have h2 := check_sub (x := g) h (by simp [Fm.l])
  unfold Fm.tyI
  rw [h, h1, h2, ty_two k hk]
  cases envB e <;> simp
theorem tyI_not {f : Fm} {e : En} (h : (Fm.mk 10 [] 0 [] [] [f]).checkI = 0) : (Fm.mk 10 [] 0 [] [] [f]).tyI e = f.tyI e := by
  have h1 := check_sub (x := f) h (by simp [Fm.l])
  unfold Fm.tyI
  rw [h, h1, ty_not]
theorem two_d (k : Int) (f g : Fm) : (Fm.mk k [] 0 [] [] [f, g]).d = .agg [.int .i64 k, .str [], .int .i64 0, .sl [], .sl [], .sl [.agg (fmCells f), .agg (fmCells g)]] := by
  rw [Fm.d_mk]; simp only [List.map, d_cells f, d_cells g]
theorem not_d (f : Fm) : (Fm.mk 10 [] 0 [] [] [f]).d = .agg [.int .i64 10, .str [], .int .i64 0, .sl [], .sl [], .sl [.agg (fmCells f)]] := by
  rw [Fm.d_mk]; simp only [List.map, d_cells f]
theorem two_wt (k : Int) (f g : Fm) : (Fm.mk k [] 0 [] [] [f, g]).wt ≤ f.wt + g.wt + 3 := by simp [Fm.wt, Fm.wts, sumT, sumB]; omega
theorem not_wt (f : Fm) : (Fm.mk 10 [] 0 [] [] [f]).wt ≤ f.wt + 3 := by simp [Fm.wt, Fm.wts, sumT, sumB]; omega
theorem kind3 {k : Int} (hk : 0 ≤ k ∧ k ≤ 255) : IntKind.i64.wrap (11 + (IntKind.i64.wrap k).tmod 3) = 11 + k % 3 := by
  rw [wrap64 (n := k) (by omega) (by omega), Int.tmod_eq_emod_of_nonneg hk.1, wrap64 (by omega) (by omega)]
section
variable {M : Maps}
theorem g3 (hM : M.Ok) (e : En) (t : Tm) (hl : ewt e ≤ 1099511627776) (ht : t.name.length ≤ 1099511627776) : PFn Tryd.prog (GG M) 3 [.sl (e.map Bd.d), t.d] (· = [.bool true]) := by
  have h13 := g13 hM e t hl ht
  have h14 := g14 (G := GG M) e t hl ht
  unfold Tm.d at h13 h14 ⊢
  refine PFn.walk (fn := Tryd.f3) (code := bodyOf Tryd.f3) mixed L0 Tryd.func3 (by kernel_rfl) ⟨_, rfl⟩ (ok0 (by kernel_rfl)) ?_
  apply @of_vc _ (
    PFn Tryd.prog (GG M) (12 : Nat) [] fun (rs : List D) => ∃ (b : Bool), rs = [D.bool b] ∧ ((!b) = true → [D.bool false] = [D.bool true]) ∧ ((!b) = false → (decide ((↑(List.length (List.map
    Bd.d e)) : Int) > (30 : Int)) = true → [D.bool true] = [D.bool true]) ∧ (decide ((↑(List.length (List.map Bd.d e)) : Int) > (30 : Int)) = false → PFn Tryd.prog (GG M) (13 : Nat) [D.sl
    (List.map Bd.d e), D.agg [D.int IntKind.i64 (Tm.kind t), D.str (Tm.name t), D.int IntKind.i64 (Tm.n t)]] fun (rs : List D) => ∃ (n : Int), ∃ (n_1 : Int), rs = [D.int IntKind.i64 n, D.int
    IntKind.i64 n_1] ∧ PFn Tryd.prog (GG M) (14 : Nat) [D.sl (List.map Bd.d e), D.agg [D.int IntKind.i64 (Tm.kind t), D.str (Tm.name t), D.int IntKind.i64 (Tm.n t)]] fun (rs : List D) => ∃
    (n_2 : Int), ∃ (n_3 : Int), rs = [D.int IntKind.i64 n_2, D.int IntKind.i64 n_3] ∧ [D.bool (bif n == n_2 then n_1 == n_3 else false)] = [D.bool true])))
  · kernel_rfl
  refine (g12 hM).use ⟨_, rfl, fun h => (by cases h), fun _ => ⟨fun _ => rfl, fun _ => h13.use ⟨_, _, rfl, h14.use ⟨_, _, rfl, ?_⟩⟩⟩⟩
  simp
theorem g4 (hM : M.Ok) (e : En) (f : Fm) (hl : ewt e + f.wt < 1099511627776) : PFn Tryd.prog (GG M) 4 [.sl (e.map Bd.d), f.d] (· = [.bool true]) := by
  have h15 := g15 (G := GG M) e f (by omega)
  have h16 := g16 hM e f hl
  have h17 := g17 (G := GG M) e f hl
  rw [d_cells f] at *
  refine PFn.walk (fn := Tryd.f4) (code := bodyOf Tryd.f4) mixed L0 Tryd.func4 (by kernel_rfl) ⟨_, rfl⟩ (ok0 (by kernel_rfl)) ?_
  apply @of_vc _ (
    PFn Tryd.prog (GG M) (12 : Nat) [] fun (rs : List D) => ∃ (b : Bool), rs = [D.bool b] ∧ ((!b) = true → [D.bool false] = [D.bool true]) ∧ ((!b) = false → PFn Tryd.prog (GG M) (15 : Nat)
    [D.sl (List.map Bd.d e), D.agg [D.int IntKind.i64 (Fm.kind f), D.str (Fm.name f), D.int IntKind.i64 (Fm.n f), D.sl (List.map Tm.d (Fm.ts f)), D.sl (List.map Bd.d (Fm.bs f)), D.sl
    (List.map Fm.d (Fm.l f))]] fun (rs : List D) => ∃ (b : Bool), rs = [D.bool b] ∧ ((!b) = true → [D.bool true] = [D.bool true]) ∧ ((!b) = false → PFn Tryd.prog (GG M) (16 : Nat) [D.sl
    (List.map Bd.d e), D.agg [D.int IntKind.i64 (Fm.kind f), D.str (Fm.name f), D.int IntKind.i64 (Fm.n f), D.sl (List.map Tm.d (Fm.ts f)), D.sl (List.map Bd.d (Fm.bs f)), D.sl (List.map
    Fm.d (Fm.l f))]] fun (rs : List D) => ∃ (n : Int), rs = [D.int IntKind.i64 n] ∧ PFn Tryd.prog (GG M) (17 : Nat) [D.sl (List.map Bd.d e), D.agg [D.int IntKind.i64 (Fm.kind f), D.str
    (Fm.name f), D.int IntKind.i64 (Fm.n f), D.sl (List.map Tm.d (Fm.ts f)), D.sl (List.map Bd.d (Fm.bs f)), D.sl (List.map Fm.d (Fm.l f))]] fun (rs : List D) => ∃ (n_1 : Int), rs = [D.int
    IntKind.i64 n_1] ∧ [D.bool (n == n_1)] = [D.bool true])))
  · kernel_rfl
  refine (g12 hM).use ⟨_, rfl, fun h => (by cases h), fun _ => h15.mono ?_⟩
  rintro rs ⟨b, rfl, _⟩
  refine ⟨b, rfl, fun _ => rfl, fun _ => h16.use ⟨_, rfl, h17.use ⟨_, rfl, ?_⟩⟩⟩
  simp
theorem g5 (hM : M.Ok) (l : List Ru) (hl : l.length < 1099511627776) (hw : rwts l < 1099511627776) : PFn Tryd.prog (GG M) 5 [.sl (l.map Ru.d)] (· = [.bool true]) := by
  refine PFn.walk (fn := Tryd.f5) (code := bodyOf Tryd.f5) mixed
    (LL [(4, loopW (α := Nat) Tryd.prog (GG M) L0 0 (loopN (bodyOf Tryd.f5) 0) [0] (fun x => x ≤ l.length) (fun x => l.length - x)
      (fun x => [(3, .d (.int .i64 x))]) (fun H _ => H)),
     (13, loopW (α := Nat) Tryd.prog (GG M) L0 0 (loopN (bodyOf Tryd.f5) 1) [0, 4, 5, 6, 7] (fun x => x ≤ l.length) (fun x => l.length - x)
      (fun x => [(8, .d (.int .i64 x))]) (fun H _ => H))])
    Tryd.func5 (by kernel_rfl) ⟨_, rfl⟩ (LoopsOk.two (b1 := loopN (bodyOf Tryd.f5) 0) (b2 := loopN (bodyOf Tryd.f5) 1) (by kernel_rfl) (by kernel_rfl) (by kernel_rfl) (loopW_sound mixed (ok0 (by kernel_rfl))) (loopW_sound mixed (ok0 (by kernel_rfl)))) ?_
  apply @of_vc _ (
    PFn Tryd.prog (GG M) (12 : Nat) [] fun (rs : List D) => ∃ (b : Bool), rs = [D.bool b] ∧ ((!b) = true → [D.bool false] = [D.bool true]) ∧ ((!b) = false → ∃ (x0 : Nat), x0 ≤ List.length l
    ∧ ((List.map Ru.d l = List.map Ru.d l ∧ (0 : Int) = (↑x0 : Int) ∧ True) ∧ True) ∧ ∀ (x : Nat), x ≤ List.length l → ((bif decide ((↑x : Int) < (↑(List.length (List.map Ru.d l)) : Int))
    then decide ((↑x : Int) < (12 : Int)) else false) = true → ((0 : Int) ≤ (↑x : Int) ∧ (List.map Ru.d l)[Int.toNat (↑x : Int)]? = some (aggAt [Sh.str, Sh.bool, Sh.int IntKind.i64, Sh.sl,
    Sh.int IntKind.i64, Sh.str, Sh.int IntKind.i64, Sh.sl, Sh.sl, Sh.sl] (List.map Ru.d l) (Int.toNat (↑x : Int)))) ∧ ((0 : Int) ≤ (↑x : Int) ∧ (List.map Ru.d l)[Int.toNat (↑x : Int)]? =
    some (aggAt [Sh.str, Sh.bool, Sh.int IntKind.i64, Sh.sl, Sh.int IntKind.i64, Sh.str, Sh.int IntKind.i64, Sh.sl, Sh.sl, Sh.sl] (List.map Ru.d l) (Int.toNat (↑x : Int)))) ∧ PFn Tryd.prog
    (GG M) (15 : Nat) [D.sl (D.toSl (Option.getD (cellAt (List.map Ru.d l) (Int.toNat (↑x : Int)) ((0 : Nat) + (1 : Nat) + (1 : Nat) + (1 : Nat))) default)), D.agg [D.int IntKind.i64
    (D.toInt (Option.getD (cellAt (List.map Ru.d l) (Int.toNat (↑x : Int)) ((0 : Nat) + (1 : Nat) + (1 : Nat) + (1 : Nat) + (1 : Nat))) default)), D.str (D.toStr (Option.getD (cellAt
    (List.map Ru.d l) (Int.toNat (↑x : Int)) ((0 : Nat) + (1 : Nat) + (1 : Nat) + (1 : Nat) + (1 : Nat) + (1 : Nat))) default)), D.int IntKind.i64 (D.toInt (Option.getD (cellAt (List.map
    Ru.d l) (Int.toNat (↑x : Int)) ((0 : Nat) + (1 : Nat) + (1 : Nat) + (1 : Nat) + (1 : Nat) + (1 : Nat) + (1 : Nat))) default)), D.sl (D.toSl (Option.getD (cellAt (List.map Ru.d l)
    (Int.toNat (↑x : Int)) ((0 : Nat) + (1 : Nat) + (1 : Nat) + (1 : Nat) + (1 : Nat) + (1 : Nat) + (1 : Nat) + (1 : Nat))) default)), D.sl (D.toSl (Option.getD (cellAt (List.map Ru.d l)
    (Int.toNat (↑x : Int)) ((0 : Nat) + (1 : Nat) + (1 : Nat) + (1 : Nat) + (1 : Nat) + (1 : Nat) + (1 : Nat) + (1 : Nat) + (1 : Nat))) default)), D.sl (D.toSl (Option.getD (cellAt (List.map
    Ru.d l) (Int.toNat (↑x : Int)) ((0 : Nat) + (1 : Nat) + (1 : Nat) + (1 : Nat) + (1 : Nat) + (1 : Nat) + (1 : Nat) + (1 : Nat) + (1 : Nat) + (1 : Nat))) default))]] fun (rs : List D) => ∃
    (b : Bool), rs = [D.bool b] ∧ ((!b) = true → [D.bool true] = [D.bool true]) ∧ ((!b) = false → ∃ (y : Nat), y ≤ List.length l ∧ List.length l - y < List.length l - x ∧ (List.map Ru.d l =
    List.map Ru.d l ∧ IntKind.wrap IntKind.i64 ((↑x : Int) + (1 : Int)) = (↑y : Int) ∧ True) ∧ True)) ∧ ((bif decide ((↑x : Int) < (↑(List.length (List.map Ru.d l)) : Int)) then decide ((↑x
    : Int) < (12 : Int)) else false) = false → (decide ((↑(List.length (List.map Ru.d l)) : Int) > (10 : Int)) = true → [D.bool true] = [D.bool true]) ∧ (decide ((↑(List.length (List.map
    Ru.d l)) : Int) > (10 : Int)) = false → PFn Tryd.prog (GG M) (18 : Nat) [D.sl (List.map Ru.d l)] fun (rs : List D) => ∃ (n : Int), ∃ (n_1 : Int), rs = [D.int IntKind.i64 n, D.int
    IntKind.i64 n_1] ∧ PFn Tryd.prog (GG M) (19 : Nat) [D.sl (List.map Ru.d l)] fun (rs : List D) => ∃ (n_2 : Int), ∃ (n_3 : Int), rs = [D.int IntKind.i64 n_2, D.int IntKind.i64 n_3] ∧ ∃ (x0
    : Nat), x0 ≤ List.length l ∧ ((List.map Ru.d l = List.map Ru.d l ∧ n = n ∧ n_1 = n_1 ∧ n_2 = n_2 ∧ n_3 = n_3 ∧ (0 : Int) = (↑x0 : Int) ∧ True) ∧ True) ∧ ∀ (x : Nat), x ≤ List.length l →
    (decide ((↑x : Int) < (↑(List.length (List.map Ru.d l)) : Int)) = true → ((0 : Int) ≤ (↑x : Int) ∧ (List.map Ru.d l)[Int.toNat (↑x : Int)]? = some (aggAt [Sh.str, Sh.bool, Sh.int
    IntKind.i64, Sh.sl, Sh.int IntKind.i64, Sh.str, Sh.int IntKind.i64, Sh.sl, Sh.sl, Sh.sl] (List.map Ru.d l) (Int.toNat (↑x : Int)))) ∧ ((0 : Int) ≤ (↑x : Int) ∧ (List.map Ru.d
    l)[Int.toNat (↑x : Int)]? = some (aggAt [Sh.str, Sh.bool, Sh.int IntKind.i64, Sh.sl, Sh.int IntKind.i64, Sh.str, Sh.int IntKind.i64, Sh.sl, Sh.sl, Sh.sl] (List.map Ru.d l) (Int.toNat (↑x
    : Int)))) ∧ PFn Tryd.prog (GG M) (20 : Nat) [aggAt [Sh.str, Sh.bool, Sh.int IntKind.i64, Sh.sl, Sh.int IntKind.i64, Sh.str, Sh.int IntKind.i64, Sh.sl, Sh.sl, Sh.sl] (List.map Ru.d l)
    (Int.toNat (↑x : Int))] fun (rs : List D) => ∃ (n_4 : Int), rs = [D.int IntKind.i64 n_4] ∧ PFn Tryd.prog (GG M) (21 : Nat) [aggAt [Sh.str, Sh.bool, Sh.int IntKind.i64, Sh.sl, Sh.int
    IntKind.i64, Sh.str, Sh.int IntKind.i64, Sh.sl, Sh.sl, Sh.sl] (List.map Ru.d l) (Int.toNat (↑x : Int))] fun (rs : List D) => ∃ (n_5 : Int), rs = [D.int IntKind.i64 n_5] ∧ ((n_4 != n_5) =
    true → [D.bool false] = [D.bool true]) ∧ ((n_4 != n_5) = false → ∃ (y : Nat), y ≤ List.length l ∧ List.length l - y < List.length l - x ∧ (List.map Ru.d l = List.map Ru.d l ∧ n = n ∧ n_1
    = n_1 ∧ n_2 = n_2 ∧ n_3 = n_3 ∧ IntKind.wrap IntKind.i64 ((↑x : Int) + (1 : Int)) = (↑y : Int) ∧ True) ∧ True)) ∧ (decide ((↑x : Int) < (↑(List.length (List.map Ru.d l)) : Int)) = false
    → [D.bool (bif n == n_2 then n_1 == n_3 else false)] = [D.bool true])))))
  · kernel_rfl
  refine (g12 hM).use ⟨_, rfl, fun h => (by cases h), fun _ => ?_⟩
  refine ⟨0, by omega, ⟨⟨rfl, rfl, trivial⟩, trivial⟩, fun i hi => ⟨fun hlt => ?_, fun _ => ⟨fun _ => rfl, fun _ => ?_⟩⟩⟩
  · rw [bif_and, Bool.and_eq_true, decide_eq_true_eq, List.length_map] at hlt
    obtain ⟨z, hz, hm⟩ := get_nat (l := l) (x := i) (by omega)
    have hzw := rwts_mem hm
    have h15 := g15 (G := GG M) z.each z.body (by unfold Ru.wt at hzw; omega)
    rw [d_cells z.body] at h15
    rw [Int.toNat_natCast, agg_ru hz, cell_ru3 hz, cell_ru4 hz, cell_ru5 hz, cell_ru6 hz, cell_ru7 hz, cell_ru8 hz, cell_ru9 hz]
    have hget : (l.map Ru.d)[i]? = some z.d := by simp [hz]
    refine ⟨⟨by omega, hget⟩, ⟨by omega, hget⟩, PFn.mono h15 ?_⟩
    rintro rs ⟨b, rfl, _⟩
    refine ⟨b, rfl, fun _ => rfl, fun _ => ⟨i + 1, by omega, by omega, ⟨rfl, ?_, trivial⟩, trivial⟩⟩
    rw [wrap64 (by omega) (by omega)]; simp
  · refine (g18 hM l hl hw).use ⟨_, _, rfl, (g19 l hl hw).use ⟨_, _, rfl, 0, by omega, ⟨⟨rfl, rfl, rfl, rfl, rfl, rfl, trivial⟩, trivial⟩, fun i hi => ⟨fun hlt => ?_, fun _ => ?_⟩⟩⟩
    · simp only [List.length_map, decide_eq_true_eq] at hlt
      obtain ⟨z, hz, hm⟩ := get_nat (l := l) (x := i) (by omega)
      have hzw := rwts_mem hm
      have hget : (l.map Ru.d)[i]? = some z.d := by simp [hz]
      rw [Int.toNat_natCast, agg_ru hz]
      refine ⟨⟨by omega, hget⟩, ⟨by omega, hget⟩, (g20 hM z (by omega)).use ⟨_, rfl, (g21 z (by omega)).use ⟨_, rfl, fun h => ?_, fun _ => ⟨i + 1, by omega, by omega, ⟨rfl, rfl, rfl, rfl, rfl, ?_, trivial⟩, trivial⟩⟩⟩⟩
      · simp at h
      · rw [wrap64 (by omega) (by omega)]; simp
    · simp
theorem g8 (hM : M.Ok) (e : En) (f g : Fm) (k : Int) (hk : 0 ≤ k ∧ k ≤ 255) (hl : ewt e + f.wt + g.wt + 10 < 1099511627776) : PFn Tryd.prog (GG M) 8 [.sl (e.map Bd.d), f.d, g.d, .int .u8 k] (· = [.bool true]) := by
  have h15 := g15 (G := GG M) e f (by omega)
  have h15' := g15 (G := GG M) e g (by omega)
  have h16 := g16 hM e f (by omega)
  have h16' := g16 hM e g (by omega)
  rw [d_cells f, d_cells g] at *
  refine PFn.walk (fn := Tryd.f8) (code := bodyOf Tryd.f8) mixed L0 Tryd.func8 (by kernel_rfl) ⟨_, rfl⟩ (ok0 (by kernel_rfl)) ?_
  apply @of_vc _ (
    PFn Tryd.prog (GG M) (12 : Nat) [] fun (rs : List D) => ∃ (b : Bool), rs = [D.bool b] ∧ ((!b) = true → [D.bool false] = [D.bool true]) ∧ ((!b) = false → PFn Tryd.prog (GG M) (15 : Nat)
    [D.sl (List.map Bd.d e), D.agg [D.int IntKind.i64 (Fm.kind f), D.str (Fm.name f), D.int IntKind.i64 (Fm.n f), D.sl (List.map Tm.d (Fm.ts f)), D.sl (List.map Bd.d (Fm.bs f)), D.sl
    (List.map Fm.d (Fm.l f))]] fun (rs : List D) => ∃ (b : Bool), rs = [D.bool b] ∧ PFn Tryd.prog (GG M) (15 : Nat) [D.sl (List.map Bd.d e), D.agg [D.int IntKind.i64 (Fm.kind g), D.str
    (Fm.name g), D.int IntKind.i64 (Fm.n g), D.sl (List.map Tm.d (Fm.ts g)), D.sl (List.map Bd.d (Fm.bs g)), D.sl (List.map Fm.d (Fm.l g))]] fun (rs : List D) => ∃ (b_1 : Bool), rs = [D.bool
    b_1] ∧ ((bif !b then true else !b_1) = true → [D.bool true] = [D.bool true]) ∧ ((bif !b then true else !b_1) = false → ((3 : Int) = (0 : Int) → False) ∧ PFn Tryd.prog (GG M) (25 : Nat)
    [D.agg [D.int IntKind.i64 (IntKind.wrap IntKind.i64 ((11 : Int) + Int.tmod (IntKind.wrap IntKind.i64 k) (3 : Int))), D.str (Array.toList (ByteArray.data (ByteArray.mk #[]))), D.int
    IntKind.i64 (0 : Int), D.sl [], D.sl [], D.sl [D.agg [D.int IntKind.i64 (Fm.kind f), D.str (Fm.name f), D.int IntKind.i64 (Fm.n f), D.sl (List.map Tm.d (Fm.ts f)), D.sl (List.map Bd.d
    (Fm.bs f)), D.sl (List.map Fm.d (Fm.l f))], D.agg [D.int IntKind.i64 (Fm.kind g), D.str (Fm.name g), D.int IntKind.i64 (Fm.n g), D.sl (List.map Tm.d (Fm.ts g)), D.sl (List.map Bd.d
    (Fm.bs g)), D.sl (List.map Fm.d (Fm.l g))]]]] fun (rs : List D) => ∃ (n : Int), rs = [D.int IntKind.i64 n] ∧ PFn Tryd.prog (GG M) (25 : Nat) [D.agg [D.int IntKind.i64 (10 : Int), D.str
    (Array.toList (ByteArray.data (ByteArray.mk #[]))), D.int IntKind.i64 (0 : Int), D.sl [], D.sl [], D.sl [D.agg [D.int IntKind.i64 (Fm.kind f), D.str (Fm.name f), D.int IntKind.i64 (Fm.n
    f), D.sl (List.map Tm.d (Fm.ts f)), D.sl (List.map Bd.d (Fm.bs f)), D.sl (List.map Fm.d (Fm.l f))]]]] fun (rs : List D) => ∃ (n_1 : Int), rs = [D.int IntKind.i64 n_1] ∧ ((bif n != (0 :
    Int) then true else n_1 != (0 : Int)) = true → [D.bool true] = [D.bool true]) ∧ ((bif n != (0 : Int) then true else n_1 != (0 : Int)) = false → PFn Tryd.prog (GG M) (16 : Nat) [D.sl
    (List.map Bd.d e), D.agg [D.int IntKind.i64 (Fm.kind f), D.str (Fm.name f), D.int IntKind.i64 (Fm.n f), D.sl (List.map Tm.d (Fm.ts f)), D.sl (List.map Bd.d (Fm.bs f)), D.sl (List.map
    Fm.d (Fm.l f))]] fun (rs : List D) => ∃ (n : Int), rs = [D.int IntKind.i64 n] ∧ ((n == (0 : Int)) = true → PFn Tryd.prog (GG M) (16 : Nat) [D.sl (List.map Bd.d e), D.agg [D.int
    IntKind.i64 (IntKind.wrap IntKind.i64 ((11 : Int) + Int.tmod (IntKind.wrap IntKind.i64 k) (3 : Int))), D.str (Array.toList (ByteArray.data (ByteArray.mk #[]))), D.int IntKind.i64 (0 :
    Int), D.sl [], D.sl [], D.sl [D.agg [D.int IntKind.i64 (Fm.kind f), D.str (Fm.name f), D.int IntKind.i64 (Fm.n f), D.sl (List.map Tm.d (Fm.ts f)), D.sl (List.map Bd.d (Fm.bs f)), D.sl
    (List.map Fm.d (Fm.l f))], D.agg [D.int IntKind.i64 (Fm.kind g), D.str (Fm.name g), D.int IntKind.i64 (Fm.n g), D.sl (List.map Tm.d (Fm.ts g)), D.sl (List.map Bd.d (Fm.bs g)), D.sl
    (List.map Fm.d (Fm.l g))]]]] fun (rs : List D) => ∃ (n : Int), rs = [D.int IntKind.i64 n] ∧ PFn Tryd.prog (GG M) (16 : Nat) [D.sl (List.map Bd.d e), D.agg [D.int IntKind.i64 (Fm.kind g),
    D.str (Fm.name g), D.int IntKind.i64 (Fm.n g), D.sl (List.map Tm.d (Fm.ts g)), D.sl (List.map Bd.d (Fm.bs g)), D.sl (List.map Fm.d (Fm.l g))]] fun (rs : List D) => ∃ (n_2 : Int), rs =
    [D.int IntKind.i64 n_2] ∧ PFn Tryd.prog (GG M) (16 : Nat) [D.sl (List.map Bd.d e), D.agg [D.int IntKind.i64 (10 : Int), D.str (Array.toList (ByteArray.data (ByteArray.mk #[]))), D.int
    IntKind.i64 (0 : Int), D.sl [], D.sl [], D.sl [D.agg [D.int IntKind.i64 (Fm.kind f), D.str (Fm.name f), D.int IntKind.i64 (Fm.n f), D.sl (List.map Tm.d (Fm.ts f)), D.sl (List.map Bd.d
    (Fm.bs f)), D.sl (List.map Fm.d (Fm.l f))]]]] fun (rs : List D) => ∃ (n_3 : Int), rs = [D.int IntKind.i64 n_3] ∧ [D.bool (bif n == n_2 then n_3 == (0 : Int) else false)] = [D.bool true])
    ∧ ((n == (0 : Int)) = false → PFn Tryd.prog (GG M) (16 : Nat) [D.sl (List.map Bd.d e), D.agg [D.int IntKind.i64 (IntKind.wrap IntKind.i64 ((11 : Int) + Int.tmod (IntKind.wrap IntKind.i64
    k) (3 : Int))), D.str (Array.toList (ByteArray.data (ByteArray.mk #[]))), D.int IntKind.i64 (0 : Int), D.sl [], D.sl [], D.sl [D.agg [D.int IntKind.i64 (Fm.kind f), D.str (Fm.name f),
    D.int IntKind.i64 (Fm.n f), D.sl (List.map Tm.d (Fm.ts f)), D.sl (List.map Bd.d (Fm.bs f)), D.sl (List.map Fm.d (Fm.l f))], D.agg [D.int IntKind.i64 (Fm.kind g), D.str (Fm.name g), D.int
    IntKind.i64 (Fm.n g), D.sl (List.map Tm.d (Fm.ts g)), D.sl (List.map Bd.d (Fm.bs g)), D.sl (List.map Fm.d (Fm.l g))]]]] fun (rs : List D) => ∃ (n_2 : Int), rs = [D.int IntKind.i64 n_2] ∧
    PFn Tryd.prog (GG M) (16 : Nat) [D.sl (List.map Bd.d e), D.agg [D.int IntKind.i64 (10 : Int), D.str (Array.toList (ByteArray.data (ByteArray.mk #[]))), D.int IntKind.i64 (0 : Int), D.sl
    [], D.sl [], D.sl [D.agg [D.int IntKind.i64 (Fm.kind f), D.str (Fm.name f), D.int IntKind.i64 (Fm.n f), D.sl (List.map Tm.d (Fm.ts f)), D.sl (List.map Bd.d (Fm.bs f)), D.sl (List.map
    Fm.d (Fm.l f))]]]] fun (rs : List D) => ∃ (n_3 : Int), rs = [D.int IntKind.i64 n_3] ∧ [D.bool (bif n_2 == n then n_3 == n else false)] = [D.bool true])))))
  · kernel_rfl
  refine (g12 hM).use ⟨_, rfl, fun h => (by cases h), fun _ => h15.mono ?_⟩
  rintro rs ⟨b, rfl, _⟩
  have hb := two_wt (11 + k % 3) f g
  have hn := not_wt f
  have b25 := fn13 hM (Fm.mk (11 + k % 3) [] 0 [] [] [f, g]) (by omega)
  have b16 := g16 hM e (Fm.mk (11 + k % 3) [] 0 [] [] [f, g]) (by omega)
  have n25 := fn13 hM (Fm.mk 10 [] 0 [] [] [f]) (by omega)
  have n16 := g16 hM e (Fm.mk 10 [] 0 [] [] [f]) (by omega)
  rw [two_d] at b25 b16
  rw [not_d] at n25 n16
  rw [kind3 hk]
  refine ⟨b, rfl, h15'.mono ?_⟩
  rintro rs ⟨b', rfl, _⟩
  refine ⟨b', rfl, fun _ => rfl, fun _ => ⟨fun h => (by cases h), ?_⟩⟩
  refine b25.use ⟨_, rfl, n25.use ⟨_, rfl, fun _ => rfl, fun h => ?_⟩⟩
  rw [bif_or, Bool.or_eq_false_iff] at h
  have c1 : (Fm.mk (11 + k % 3) [] 0 [] [] [f, g]).checkI = 0 := by simpa using h.1
  have c2 : (Fm.mk 10 [] 0 [] [] [f]).checkI = 0 := by simpa using h.2
  have t1 := tyI_two (e := e) (by omega : 11 + k % 3 = 11 ∨ 11 + k % 3 = 12 ∨ 11 + k % 3 = 13) c1
  have t2 := tyI_not (e := e) c2
  rw [t1] at b16
  rw [t2] at n16
  refine h16.use ⟨_, rfl, fun h => ?_, fun h => ?_⟩
  · have h0 : f.tyI e = 0 := by simpa using h
    rw [h0] at b16 n16
    refine b16.use ⟨_, rfl, h16'.use ⟨_, rfl, n16.use ⟨_, rfl, ?_⟩⟩⟩
    simp
  · have h0 : ¬ f.tyI e = 0 := by simpa using h
    rw [if_pos h0] at b16
    refine b16.use ⟨_, rfl, n16.use ⟨_, rfl, ?_⟩⟩
    simp
end
end Go.Fo
/- The laws: bodies, weakening. -/
namespace Go.Fo
open Go Go.Sx Go.Proofs
set_option maxRecDepth 100000
set_option maxHeartbeats 0

theorem rulesT_spec : ∀ (l : List Ru) (seen : List Nm) (i : Nat), ((rulesT seen i l).2 = 0 → (rulesT seen i l).1 = 0 ∧ ∀ r ∈ l, r.tyI = 0) ∧
    ((rulesT seen i l).2 ≠ 0 → ∃ j : Nat, (rulesT seen i l).1 = ((i + j : Nat) : Int) ∧ j < l.length ∧ (∀ (j' : Nat) z, j' < j → l[j']? = some z → z.tyI = 0) ∧ (∀ z, l[j]? = some z → z.tyI = (rulesT seen i l).2 ∨ (rulesT seen i l).2 = 82)) := by
  intro l
  induction l with
  | nil => intro seen i; simp [rulesT]
  | cons r l ih =>
    intro seen i
    rw [rulesT]
    by_cases h : r.tyI = 0
    · rw [if_neg (by simp [h])]
      by_cases h2 : seen.contains r.name = true
      · rw [if_pos h2]
        refine ⟨fun h3 => (by cases h3), fun _ => ⟨0, by simp, by simp, fun j' z hj => absurd hj (Nat.not_lt_zero _), fun _ _ => .inr rfl⟩⟩
      · rw [if_neg h2]
        obtain ⟨a, b⟩ := ih (seen ++ [r.name]) (i + 1)
        refine ⟨fun h3 => ⟨(a h3).1, fun x hx => ?_⟩, fun h3 => ?_⟩
        · rcases List.mem_cons.1 hx with rfl | hx
          · exact h
          · exact (a h3).2 x hx
        · obtain ⟨j, h4, h5, h6, h7⟩ := b h3
          refine ⟨j + 1, by rw [h4]; congr 1; omega, by simpa using h5, fun j' z hj hz => ?_, fun z hz => h7 z (by simpa using hz)⟩
          cases j' with
          | zero => simp at hz; subst hz; exact h
          | succ j' => exact h6 j' z (by omega) (by simpa using hz)
    · rw [if_pos h]
      refine ⟨fun h3 => absurd h3 h, fun _ => ⟨0, by simp, by simp, fun j' z hj => absurd hj (Nat.not_lt_zero _), fun z hz => ?_⟩⟩
      simp at hz; subst hz; exact .inl rfl
theorem ru_body {r : Ru} (h : r.tyI = 0) : r.body.tyI r.each = 0 ∧ r.body.checkI = 0 := by
  by_cases hh : r.headB = true
  · by_cases hc : r.body.checkI = 0
    · rw [Ru.tyI_env hh hc] at h
      cases he : envB r.each with
      | false => rw [he] at h; cases h
      | true =>
        rw [he] at h
        unfold Fm.tyI
        rw [he, hc]
        exact ⟨h, rfl⟩
    · rw [Ru.tyI_check hh hc] at h; exact absurd h hc
  · rw [Ru.tyI_bad (by simpa using hh)] at h; cases h
def backE (b : Bd) (e : En) : Nat → En
  | 0 => [b]
  | x + 1 => backE b e x ++ (e[e.length - 1 - x]?).toList
theorem backE_eq (b : Bd) (e : En) : ∀ x : Nat, x ≤ e.length → backE b e x = b :: e.reverse.take x
  | 0, _ => by simp [backE]
  | x + 1, h => by
    rw [backE, backE_eq b e x (by omega), List.take_add_one, List.getElem?_reverse (by omega)]
    rfl
theorem backE_len (b : Bd) (e : En) {x : Nat} (h : x ≤ e.length) : (backE b e x).length = x + 1 := by
  rw [backE_eq b e x h]; simp; omega
section
variable {M : Maps}
theorem g9 (hM : M.Ok) (l : List Ru) (hl : l.length < 1099511627776) (hw : rwts l < 1099511627776) : PFn Tryd.prog (GG M) 9 [.sl (l.map Ru.d)] (· = [.bool true]) := by
  refine PFn.walk (fn := Tryd.f9) (code := bodyOf Tryd.f9) mixed
    (LL [(4, loopW (α := Nat) Tryd.prog (GG M) L0 0 (loopN (bodyOf Tryd.f9) 0) [0] (fun x => x ≤ l.length) (fun x => l.length - x)
      (fun x => [(3, .d (.int .i64 x))]) (fun H _ => H)),
     (12, loopW (α := Nat) Tryd.prog (GG M) L0 0 (loopN (bodyOf Tryd.f9) 1) [0, 4, 5] (fun x => x ≤ l.length) (fun x => l.length - x)
      (fun x => [(6, .d (.int .i64 x))]) (fun H _ => H))])
    Tryd.func9 (by kernel_rfl) ⟨_, rfl⟩ (LoopsOk.two (b1 := loopN (bodyOf Tryd.f9) 0) (b2 := loopN (bodyOf Tryd.f9) 1) (by kernel_rfl) (by kernel_rfl) (by kernel_rfl) (loopW_sound mixed (ok0 (by kernel_rfl))) (loopW_sound mixed (ok0 (by kernel_rfl)))) ?_
  apply @of_vc _ (
    PFn Tryd.prog (GG M) (12 : Nat) [] fun (rs : List D) => ∃ (b : Bool), rs = [D.bool b] ∧ ((!b) = true → [D.bool false] = [D.bool true]) ∧ ((!b) = false → ∃ (x0 : Nat), x0 ≤ List.length l
    ∧ ((List.map Ru.d l = List.map Ru.d l ∧ (0 : Int) = (↑x0 : Int) ∧ True) ∧ True) ∧ ∀ (x : Nat), x ≤ List.length l → ((bif decide ((↑x : Int) < (↑(List.length (List.map Ru.d l)) : Int))
    then decide ((↑x : Int) < (12 : Int)) else false) = true → ((0 : Int) ≤ (↑x : Int) ∧ (List.map Ru.d l)[Int.toNat (↑x : Int)]? = some (aggAt [Sh.str, Sh.bool, Sh.int IntKind.i64, Sh.sl,
    Sh.int IntKind.i64, Sh.str, Sh.int IntKind.i64, Sh.sl, Sh.sl, Sh.sl] (List.map Ru.d l) (Int.toNat (↑x : Int)))) ∧ ((0 : Int) ≤ (↑x : Int) ∧ (List.map Ru.d l)[Int.toNat (↑x : Int)]? =
    some (aggAt [Sh.str, Sh.bool, Sh.int IntKind.i64, Sh.sl, Sh.int IntKind.i64, Sh.str, Sh.int IntKind.i64, Sh.sl, Sh.sl, Sh.sl] (List.map Ru.d l) (Int.toNat (↑x : Int)))) ∧ PFn Tryd.prog
    (GG M) (15 : Nat) [D.sl (D.toSl (Option.getD (cellAt (List.map Ru.d l) (Int.toNat (↑x : Int)) ((0 : Nat) + (1 : Nat) + (1 : Nat) + (1 : Nat))) default)), D.agg [D.int IntKind.i64
    (D.toInt (Option.getD (cellAt (List.map Ru.d l) (Int.toNat (↑x : Int)) ((0 : Nat) + (1 : Nat) + (1 : Nat) + (1 : Nat) + (1 : Nat))) default)), D.str (D.toStr (Option.getD (cellAt
    (List.map Ru.d l) (Int.toNat (↑x : Int)) ((0 : Nat) + (1 : Nat) + (1 : Nat) + (1 : Nat) + (1 : Nat) + (1 : Nat))) default)), D.int IntKind.i64 (D.toInt (Option.getD (cellAt (List.map
    Ru.d l) (Int.toNat (↑x : Int)) ((0 : Nat) + (1 : Nat) + (1 : Nat) + (1 : Nat) + (1 : Nat) + (1 : Nat) + (1 : Nat))) default)), D.sl (D.toSl (Option.getD (cellAt (List.map Ru.d l)
    (Int.toNat (↑x : Int)) ((0 : Nat) + (1 : Nat) + (1 : Nat) + (1 : Nat) + (1 : Nat) + (1 : Nat) + (1 : Nat) + (1 : Nat))) default)), D.sl (D.toSl (Option.getD (cellAt (List.map Ru.d l)
    (Int.toNat (↑x : Int)) ((0 : Nat) + (1 : Nat) + (1 : Nat) + (1 : Nat) + (1 : Nat) + (1 : Nat) + (1 : Nat) + (1 : Nat) + (1 : Nat))) default)), D.sl (D.toSl (Option.getD (cellAt (List.map
    Ru.d l) (Int.toNat (↑x : Int)) ((0 : Nat) + (1 : Nat) + (1 : Nat) + (1 : Nat) + (1 : Nat) + (1 : Nat) + (1 : Nat) + (1 : Nat) + (1 : Nat) + (1 : Nat))) default))]] fun (rs : List D) => ∃
    (b : Bool), rs = [D.bool b] ∧ ((!b) = true → [D.bool true] = [D.bool true]) ∧ ((!b) = false → ∃ (y : Nat), y ≤ List.length l ∧ List.length l - y < List.length l - x ∧ (List.map Ru.d l =
    List.map Ru.d l ∧ IntKind.wrap IntKind.i64 ((↑x : Int) + (1 : Int)) = (↑y : Int) ∧ True) ∧ True)) ∧ ((bif decide ((↑x : Int) < (↑(List.length (List.map Ru.d l)) : Int)) then decide ((↑x
    : Int) < (12 : Int)) else false) = false → (decide ((↑(List.length (List.map Ru.d l)) : Int) > (10 : Int)) = true → [D.bool true] = [D.bool true]) ∧ (decide ((↑(List.length (List.map
    Ru.d l)) : Int) > (10 : Int)) = false → PFn Tryd.prog (GG M) (18 : Nat) [D.sl (List.map Ru.d l)] fun (rs : List D) => ∃ (n : Int), ∃ (n_1 : Int), rs = [D.int IntKind.i64 n, D.int
    IntKind.i64 n_1] ∧ ∃ (x0 : Nat), x0 ≤ List.length l ∧ ((List.map Ru.d l = List.map Ru.d l ∧ n = n ∧ n_1 = n_1 ∧ (0 : Int) = (↑x0 : Int) ∧ True) ∧ True) ∧ ∀ (x : Nat), x ≤ List.length l →
    (decide ((↑x : Int) < (↑(List.length (List.map Ru.d l)) : Int)) = true → ((0 : Int) ≤ (↑x : Int) ∧ (List.map Ru.d l)[Int.toNat (↑x : Int)]? = some (aggAt [Sh.str, Sh.bool, Sh.int
    IntKind.i64, Sh.sl, Sh.int IntKind.i64, Sh.str, Sh.int IntKind.i64, Sh.sl, Sh.sl, Sh.sl] (List.map Ru.d l) (Int.toNat (↑x : Int)))) ∧ PFn Tryd.prog (GG M) (20 : Nat) [aggAt [Sh.str,
    Sh.bool, Sh.int IntKind.i64, Sh.sl, Sh.int IntKind.i64, Sh.str, Sh.int IntKind.i64, Sh.sl, Sh.sl, Sh.sl] (List.map Ru.d l) (Int.toNat (↑x : Int))] fun (rs : List D) => ∃ (n_2 : Int), rs
    = [D.int IntKind.i64 n_2] ∧ ((n_2 == (0 : Int)) = true → (0 : Int) ≤ (↑x : Int) ∧ (List.map Ru.d l)[Int.toNat (↑x : Int)]? = some (aggAt [Sh.str, Sh.bool, Sh.int IntKind.i64, Sh.sl,
    Sh.int IntKind.i64, Sh.str, Sh.int IntKind.i64, Sh.sl, Sh.sl, Sh.sl] (List.map Ru.d l) (Int.toNat (↑x : Int)))) ∧ ((n_2 == (0 : Int)) = true → (0 : Int) ≤ (↑x : Int) ∧ (List.map Ru.d
    l)[Int.toNat (↑x : Int)]? = some (aggAt [Sh.str, Sh.bool, Sh.int IntKind.i64, Sh.sl, Sh.int IntKind.i64, Sh.str, Sh.int IntKind.i64, Sh.sl, Sh.sl, Sh.sl] (List.map Ru.d l) (Int.toNat (↑x
    : Int)))) ∧ PFn Tryd.prog (GG M) (16 : Nat) [D.sl (D.toSl (Option.getD (cellAt (List.map Ru.d l) (Int.toNat (↑x : Int)) ((0 : Nat) + (1 : Nat) + (1 : Nat) + (1 : Nat))) default)), D.agg
    [D.int IntKind.i64 (D.toInt (Option.getD (cellAt (List.map Ru.d l) (Int.toNat (↑x : Int)) ((0 : Nat) + (1 : Nat) + (1 : Nat) + (1 : Nat) + (1 : Nat))) default)), D.str (D.toStr
    (Option.getD (cellAt (List.map Ru.d l) (Int.toNat (↑x : Int)) ((0 : Nat) + (1 : Nat) + (1 : Nat) + (1 : Nat) + (1 : Nat) + (1 : Nat))) default)), D.int IntKind.i64 (D.toInt (Option.getD
    (cellAt (List.map Ru.d l) (Int.toNat (↑x : Int)) ((0 : Nat) + (1 : Nat) + (1 : Nat) + (1 : Nat) + (1 : Nat) + (1 : Nat) + (1 : Nat))) default)), D.sl (D.toSl (Option.getD (cellAt
    (List.map Ru.d l) (Int.toNat (↑x : Int)) ((0 : Nat) + (1 : Nat) + (1 : Nat) + (1 : Nat) + (1 : Nat) + (1 : Nat) + (1 : Nat) + (1 : Nat))) default)), D.sl (D.toSl (Option.getD (cellAt
    (List.map Ru.d l) (Int.toNat (↑x : Int)) ((0 : Nat) + (1 : Nat) + (1 : Nat) + (1 : Nat) + (1 : Nat) + (1 : Nat) + (1 : Nat) + (1 : Nat) + (1 : Nat))) default)), D.sl (D.toSl (Option.getD
    (cellAt (List.map Ru.d l) (Int.toNat (↑x : Int)) ((0 : Nat) + (1 : Nat) + (1 : Nat) + (1 : Nat) + (1 : Nat) + (1 : Nat) + (1 : Nat) + (1 : Nat) + (1 : Nat) + (1 : Nat))) default))]] fun
    (rs : List D) => ∃ (n_3 : Int), rs = [D.int IntKind.i64 n_3] ∧ ((n_2 == (0 : Int)) = true ∧ (n_3 != (0 : Int)) = false → (0 : Int) ≤ (↑x : Int) ∧ (List.map Ru.d l)[Int.toNat (↑x : Int)]?
    = some (aggAt [Sh.str, Sh.bool, Sh.int IntKind.i64, Sh.sl, Sh.int IntKind.i64, Sh.str, Sh.int IntKind.i64, Sh.sl, Sh.sl, Sh.sl] (List.map Ru.d l) (Int.toNat (↑x : Int)))) ∧ PFn Tryd.prog
    (GG M) (25 : Nat) [D.agg [D.int IntKind.i64 (D.toInt (Option.getD (cellAt (List.map Ru.d l) (Int.toNat (↑x : Int)) ((0 : Nat) + (1 : Nat) + (1 : Nat) + (1 : Nat) + (1 : Nat))) default)),
    D.str (D.toStr (Option.getD (cellAt (List.map Ru.d l) (Int.toNat (↑x : Int)) ((0 : Nat) + (1 : Nat) + (1 : Nat) + (1 : Nat) + (1 : Nat) + (1 : Nat))) default)), D.int IntKind.i64
    (D.toInt (Option.getD (cellAt (List.map Ru.d l) (Int.toNat (↑x : Int)) ((0 : Nat) + (1 : Nat) + (1 : Nat) + (1 : Nat) + (1 : Nat) + (1 : Nat) + (1 : Nat))) default)), D.sl (D.toSl
    (Option.getD (cellAt (List.map Ru.d l) (Int.toNat (↑x : Int)) ((0 : Nat) + (1 : Nat) + (1 : Nat) + (1 : Nat) + (1 : Nat) + (1 : Nat) + (1 : Nat) + (1 : Nat))) default)), D.sl (D.toSl
    (Option.getD (cellAt (List.map Ru.d l) (Int.toNat (↑x : Int)) ((0 : Nat) + (1 : Nat) + (1 : Nat) + (1 : Nat) + (1 : Nat) + (1 : Nat) + (1 : Nat) + (1 : Nat) + (1 : Nat))) default)), D.sl
    (D.toSl (Option.getD (cellAt (List.map Ru.d l) (Int.toNat (↑x : Int)) ((0 : Nat) + (1 : Nat) + (1 : Nat) + (1 : Nat) + (1 : Nat) + (1 : Nat) + (1 : Nat) + (1 : Nat) + (1 : Nat) + (1 :
    Nat))) default))]] fun (rs : List D) => ∃ (n_4 : Int), rs = [D.int IntKind.i64 n_4] ∧ ((bif n_2 == (0 : Int) then bif n_3 != (0 : Int) then true else n_4 != (0 : Int) else false) = true
    → [D.bool false] = [D.bool true]) ∧ ((bif n_2 == (0 : Int) then bif n_3 != (0 : Int) then true else n_4 != (0 : Int) else false) = false → ((bif bif bif decide ((↑x : Int) < n) then n_2
    != (0 : Int) else false then true else bif bif bif (↑x : Int) == n then n_1 != (0 : Int) else false then n_2 != n_1 else false then n_1 != (82 : Int) else false then true else bif n_1 ==
    (0 : Int) then n_2 != (0 : Int) else false) = true → [D.bool false] = [D.bool true]) ∧ ((bif bif bif decide ((↑x : Int) < n) then n_2 != (0 : Int) else false then true else bif bif bif
    (↑x : Int) == n then n_1 != (0 : Int) else false then n_2 != n_1 else false then n_1 != (82 : Int) else false then true else bif n_1 == (0 : Int) then n_2 != (0 : Int) else false) =
    false → ∃ (y : Nat), y ≤ List.length l ∧ List.length l - y < List.length l - x ∧ (List.map Ru.d l = List.map Ru.d l ∧ n = n ∧ n_1 = n_1 ∧ IntKind.wrap IntKind.i64 ((↑x : Int) + (1 :
    Int)) = (↑y : Int) ∧ True) ∧ True))) ∧ (decide ((↑x : Int) < (↑(List.length (List.map Ru.d l)) : Int)) = false → [D.bool (bif bif n_1 == (0 : Int) then n == (0 : Int) else false then
    true else bif bif n_1 != (0 : Int) then decide (n ≥ (0 : Int)) else false then decide (n < (↑(List.length (List.map Ru.d l)) : Int)) else false)] = [D.bool true])))))
  · kernel_rfl
  refine (g12 hM).use ⟨_, rfl, fun h => (by cases h), fun _ => ?_⟩
  refine ⟨0, by omega, ⟨⟨rfl, rfl, trivial⟩, trivial⟩, fun i hi => ⟨fun hlt => ?_, fun _ => ⟨fun _ => rfl, fun _ => ?_⟩⟩⟩
  · rw [bif_and, Bool.and_eq_true, decide_eq_true_eq, List.length_map] at hlt
    obtain ⟨z, hz, hm⟩ := get_nat (l := l) (x := i) (by omega)
    have hzw := rwts_mem hm
    have h15 := g15 (G := GG M) z.each z.body (by unfold Ru.wt at hzw; omega)
    rw [d_cells z.body] at h15
    rw [Int.toNat_natCast, agg_ru hz, cell_ru3 hz, cell_ru4 hz, cell_ru5 hz, cell_ru6 hz, cell_ru7 hz, cell_ru8 hz, cell_ru9 hz]
    have hget : (l.map Ru.d)[i]? = some z.d := by simp [hz]
    refine ⟨⟨by omega, hget⟩, ⟨by omega, hget⟩, PFn.mono h15 ?_⟩
    rintro rs ⟨b, rfl, _⟩
    refine ⟨b, rfl, fun _ => rfl, fun _ => ⟨i + 1, by omega, by omega, ⟨rfl, ?_, trivial⟩, trivial⟩⟩
    rw [wrap64 (by omega) (by omega)]; simp
  · refine (g18 hM l hl hw).use ⟨_, _, rfl, 0, by omega, ⟨⟨rfl, rfl, rfl, rfl, trivial⟩, trivial⟩, fun i hi => ⟨fun hlt => ?_, fun _ => ?_⟩⟩
    · simp only [List.length_map, decide_eq_true_eq] at hlt
      obtain ⟨z, hz, hm⟩ := get_nat (l := l) (x := i) (by omega)
      have hzw := rwts_mem hm
      have hget : (l.map Ru.d)[i]? = some z.d := by simp [hz]
      rw [Int.toNat_natCast, agg_ru hz, cell_ru3 hz, cell_ru4 hz, cell_ru5 hz, cell_ru6 hz, cell_ru7 hz, cell_ru8 hz, cell_ru9 hz]
      refine ⟨⟨by omega, hget⟩, (g20 hM z (by omega)).use ⟨_, rfl, ?_⟩⟩
      have h16 := g16 hM z.each z.body (by unfold Ru.wt at hzw; omega)
      have h25 := fn13 hM z.body (by unfold Ru.wt at hzw; omega)
      rw [d_cells z.body] at h16 h25
      refine ⟨fun _ => ⟨by omega, hget⟩, fun _ => ⟨by omega, hget⟩, PFn.use h16 ⟨_, rfl, fun _ => ⟨by omega, hget⟩, PFn.use h25 ⟨_, rfl, fun h => ?_, fun _ => ⟨fun h => ?_, fun _ => ⟨i + 1, by omega, by omega, ⟨rfl, rfl, rfl, ?_, trivial⟩, trivial⟩⟩⟩⟩⟩
      · rw [bif_and, Bool.and_eq_true, bif_or, Bool.or_eq_true] at h
        have h0 : z.tyI = 0 := by simpa using h.1
        obtain ⟨h1, h2⟩ := ru_body h0
        rw [h1, h2] at h
        rcases h.2 with h3 | h3 <;> cases h3
      · exfalso
        simp only [bif_or, bif_and, Bool.or_eq_true, Bool.and_eq_true, decide_eq_true_eq, bne_iff_ne, ne_eq, beq_iff_eq] at h
        rcases h with (⟨h1, h2⟩ | ⟨⟨⟨h1, h2⟩, h3⟩, h4⟩) | ⟨h1, h2⟩
        · by_cases hz0 : (rulesI l).2 = 0
          · exact h2 ((rulesT_spec l [] 0).1 hz0 |>.2 z hm)
          · obtain ⟨j, a1, a2, a3, a4⟩ := (rulesT_spec l [] 0).2 hz0
            have a1' : (rulesI l).1 = ((0 + j : Nat) : Int) := a1
            exact h2 (a3 i z (by omega) hz)
        · obtain ⟨j, a1, a2, a3, a4⟩ := (rulesT_spec l [] 0).2 h2
          have a1' : (rulesI l).1 = ((0 + j : Nat) : Int) := a1
          have hij : i = j := by omega
          subst hij
          rcases a4 z hz with h5 | h5
          · exact h3 h5
          · exact h4 h5
        · exact h2 ((rulesT_spec l [] 0).1 h1 |>.2 z hm)
      · rw [wrap64 (by omega) (by omega)]; simp
    · rw [List.length_map]
      by_cases hz0 : (rulesI l).2 = 0
      · have := (rulesT_spec l [] 0).1 hz0 |>.1
        have h1 : (rulesI l).1 = 0 := this
        simp [hz0, h1]
      · obtain ⟨j, a1, a2, a3, a4⟩ := (rulesT_spec l [] 0).2 hz0
        have a1' : (rulesI l).1 = ((0 + j : Nat) : Int) := a1
        have h1 : (rulesI l).1 ≥ 0 := by omega
        have h2 : (rulesI l).1 < (l.length : Int) := by omega
        simp [hz0, h2, decide_eq_true h1]
end
end Go.Fo
/- The laws: quantifiers, free variables, normal forms. -/
namespace Go.Fo
open Go Go.Sx Go.Proofs
set_option maxRecDepth 100000
set_option maxHeartbeats 0

theorem add_nodup {e : En} {bs : List Bd} (he : (e.map (·.name)).Nodup) : addE e bs = if ((e ++ bs).map (·.name)).Nodup then some (e ++ bs) else none := by
  rw [addE_eq]
  have : ((bs.all fun b => !hasE e b.name) && decide ((bs.map (·.name)).Nodup)) = true ↔ ((e ++ bs).map (·.name)).Nodup := by
    rw [List.map_append, List.nodup_append]
    simp only [Bool.and_eq_true, List.all_eq_true, decide_eq_true_eq, Bool.not_eq_true', hasE_false]
    constructor
    · rintro ⟨h1, h2⟩
      refine ⟨he, h2, ?_⟩
      rintro a ha b hb rfl
      obtain ⟨x, hx, rfl⟩ := List.mem_map.1 hb
      exact h1 x hx ha
    · rintro ⟨_, h2, h3⟩
      exact ⟨fun b hb hm => h3 _ hm _ (List.mem_map.2 ⟨b, hb, rfl⟩) rfl, h2⟩
  by_cases h : ((e ++ bs).map (·.name)).Nodup
  · rw [if_pos (this.2 h), if_pos h]
  · rw [if_neg (fun h2 => h (this.1 h2)), if_neg h]
theorem tyI_quant {k n : Int} {e : En} {bs : List Bd} {f : Fm} (hk : k = 14 ∨ k = 15 ∨ k = 16 ∨ k = 17) (hc : (Fm.mk k [] n [] bs [f]).checkI = 0) (he : envB e = true) :
    (Fm.mk k [] n [] bs [f]).tyI e = if ((e ++ bs).map (·.name)).Nodup then f.tyI (e ++ bs) else 82 := by
  have h1 := check_sub (x := f) hc (by simp [Fm.l])
  have hb : ∀ b ∈ bs, bindB b = true := by
    have hf := checkI_form hc
    rw [Fm.formB_eq, Bool.and_eq_true] at hf
    have h := hf.1
    unfold nodeB at h
    rw [Bool.and_eq_true] at h
    have h2 := h.2
    unfold bindsB at h2
    have hq : quantB k = true := by rcases hk with rfl | rfl | rfl | rfl <;> rfl
    simp only [Fm.kind, Fm.bs, hq, if_true, Bool.and_eq_true, List.all_eq_true] at h2
    exact h2.1.1.1
  unfold Fm.tyI
  rw [he, hc, h1, ty_quant k n hk, add_nodup (envB_iff.1 he).2]
  by_cases hn : ((e ++ bs).map (·.name)).Nodup
  · have hE : envB (e ++ bs) = true := by
      rw [envB_iff]
      refine ⟨fun b h => ?_, hn⟩
      rcases List.mem_append.1 h with h | h
      · exact (envB_iff.1 he).1 b h
      · exact hb b h
    rw [if_pos hn, if_pos hn, hE]
    first | done | simp
  · rw [if_neg hn, if_neg hn]
    first | done | simp
theorem kind4 {k : Int} (hk : 0 ≤ k ∧ k ≤ 255) : IntKind.i64.wrap (14 + (IntKind.i64.wrap k).tmod 4) = 14 + k % 4 := by
  rw [wrap64 (n := k) (by omega) (by omega), Int.tmod_eq_emod_of_nonneg hk.1, wrap64 (by omega) (by omega)]
theorem quant_d (k n : Int) (bs : List Bd) (f : Fm) : (Fm.mk k [] n [] bs [f]).d = .agg [.int .i64 k, .str [], .int .i64 n, .sl [], .sl (bs.map Bd.d), .sl [.agg (fmCells f)]] := by
  rw [Fm.d_mk]; simp only [List.map, d_cells f]
theorem quant_wt (k n : Int) (bs : List Bd) (f : Fm) : (Fm.mk k [] n [] bs [f]).wt ≤ f.wt + ewt bs + 3 := by simp [Fm.wt, Fm.wts, sumT, ewt]; omega
theorem one_ty {e : En} (h : one1.tyI e = 0) : envB e = true := by
  unfold Fm.tyI at h
  cases he : envB e with
  | true => rfl
  | false => rw [he] at h; cases h
theorem one_d : one1.d = .agg [.int .i64 1, .str [], .int .i64 0, .sl [], .sl [], .sl []] := by unfold one1; rw [Fm.d_mk]; rfl
theorem sumB_app (a b : List Bd) : sumB (a ++ b) = sumB a + sumB b := by simp [sumB]
theorem one_wt : one1.wt = 1 := by decide +kernel
def nmK (f : Fm) (k : Int) : Nm := f.free.getD (k % (f.free.length : Int)).toNat []
theorem tyI_zero {f : Fm} {e : En} (ht : f.tyI e = 0) : envB e = true ∧ f.checkI = 0 ∧ f.ty e = 0 := by
  unfold Fm.tyI at ht
  cases he : envB e with
  | false => rw [he] at ht; cases ht
  | true =>
    rw [he] at ht
    by_cases hc : f.checkI = 0
    · refine ⟨rfl, hc, ?_⟩
      rw [hc] at ht
      simpa using ht
    · simp [hc] at ht
theorem ewt_cut (e : En) (p : Nm → Bool) : ewt (cutE e p) ≤ ewt e := by
  unfold ewt cutE sumB
  induction e with
  | nil => exact Nat.le_refl _
  | cons b r ih =>
    rw [List.filter_cons]
    split
    · simp only [List.length_cons, List.map_cons, List.sum_cons] at ih ⊢; omega
    · simp only [List.length_cons, List.map_cons, List.sum_cons] at ih ⊢; omega
theorem cut_succ {e : En} {i : Nat} {z : Bd} (p : Nm → Bool) (h : e[i]? = some z) : cutE (e.take (i + 1)) p = cutE (e.take i) p ++ if p z.name then [z] else [] := by
  unfold cutE
  rw [List.take_add_one, h, List.filter_append]
  cases hp : p z.name <;> simp [hp]
section
variable {M : Maps}
theorem g7 (hM : M.Ok) (e : En) (f : Fm) (bs : List Bd) (k n : Int) (hk : 0 ≤ k ∧ k ≤ 255) (hn : 0 ≤ n ∧ n ≤ 255) (hl : ewt e + f.wt + ewt bs + 10 < 1099511627776) : PFn Tryd.prog (GG M) 7 [.sl (e.map Bd.d), f.d, .sl (bs.map Bd.d), .int .u8 k, .int .u8 n] (· = [.bool true]) := by
  have h15 := g15 (G := GG M) e f (by omega)
  rw [d_cells f] at *
  refine PFn.walk (fn := Tryd.f7) (code := bodyOf Tryd.f7) mixed
    (LL [(13, loopW (α := Nat) Tryd.prog (GG M) L0 0 (loopN (bodyOf Tryd.f7) 0) [6, 12, 13] (fun x => x ≤ (e ++ bs).length ∧ (((e ++ bs).take x).map (·.name)).Nodup) (fun x => (e ++ bs).length - x)
      (fun x => [(14, .d (.int .i64 x))]) (fun H _ => H))])
    Tryd.func7 (by kernel_rfl) ⟨_, rfl⟩ (LoopsOk.one (b1 := loopN (bodyOf Tryd.f7) 0) (by kernel_rfl) (by kernel_rfl) (loopW_sound mixed (ok0 (by kernel_rfl)))) ?_
  apply @of_vc _ (
    PFn Tryd.prog (GG M) (12 : Nat) [] fun (rs : List D) => ∃ (b : Bool), rs = [D.bool b] ∧ ((!b) = true → [D.bool false] = [D.bool true]) ∧ ((!b) = false → PFn Tryd.prog (GG M) (15 : Nat)
    [D.sl (List.map Bd.d e), D.agg [D.int IntKind.i64 (Fm.kind f), D.str (Fm.name f), D.int IntKind.i64 (Fm.n f), D.sl (List.map Tm.d (Fm.ts f)), D.sl (List.map Bd.d (Fm.bs f)), D.sl
    (List.map Fm.d (Fm.l f))]] fun (rs : List D) => ∃ (b : Bool), rs = [D.bool b] ∧ ((bif !b then true else decide ((↑(List.length (List.map Bd.d bs)) : Int) > (6 : Int))) = true → [D.bool
    true] = [D.bool true]) ∧ ((bif !b then true else decide ((↑(List.length (List.map Bd.d bs)) : Int) > (6 : Int))) = false → ((4 : Int) = (0 : Int) → False) ∧ ((bif IntKind.wrap
    IntKind.i64 ((14 : Int) + Int.tmod (IntKind.wrap IntKind.i64 k) (4 : Int)) == (16 : Int) then true else IntKind.wrap IntKind.i64 ((14 : Int) + Int.tmod (IntKind.wrap IntKind.i64 k) (4 :
    Int)) == (17 : Int)) = true → PFn Tryd.prog (GG M) (25 : Nat) [D.agg [D.int IntKind.i64 (IntKind.wrap IntKind.i64 ((14 : Int) + Int.tmod (IntKind.wrap IntKind.i64 k) (4 : Int))), D.str
    (Array.toList (ByteArray.data (ByteArray.mk #[]))), D.int IntKind.i64 (IntKind.wrap IntKind.i64 n), D.sl [], D.sl (List.map Bd.d bs), D.sl [D.agg [D.int IntKind.i64 (Fm.kind f), D.str
    (Fm.name f), D.int IntKind.i64 (Fm.n f), D.sl (List.map Tm.d (Fm.ts f)), D.sl (List.map Bd.d (Fm.bs f)), D.sl (List.map Fm.d (Fm.l f))]]]] fun (rs : List D) => ∃ (n_1 : Int), rs = [D.int
    IntKind.i64 n_1] ∧ PFn Tryd.prog (GG M) (16 : Nat) [D.sl (List.map Bd.d e), D.agg [D.int IntKind.i64 (1 : Int), D.str (Array.toList (ByteArray.data (ByteArray.mk #[]))), D.int
    IntKind.i64 (0 : Int), D.sl [], D.sl [], D.sl []]] fun (rs : List D) => ∃ (n_2 : Int), rs = [D.int IntKind.i64 n_2] ∧ ((bif n_1 != (0 : Int) then true else n_2 != (0 : Int)) = true →
    [D.bool true] = [D.bool true]) ∧ ((bif n_1 != (0 : Int) then true else n_2 != (0 : Int)) = false → PFn Tryd.prog (GG M) (16 : Nat) [D.sl (List.map Bd.d e), D.agg [D.int IntKind.i64
    (IntKind.wrap IntKind.i64 ((14 : Int) + Int.tmod (IntKind.wrap IntKind.i64 k) (4 : Int))), D.str (Array.toList (ByteArray.data (ByteArray.mk #[]))), D.int IntKind.i64 (IntKind.wrap
    IntKind.i64 n), D.sl [], D.sl (List.map Bd.d bs), D.sl [D.agg [D.int IntKind.i64 (Fm.kind f), D.str (Fm.name f), D.int IntKind.i64 (Fm.n f), D.sl (List.map Tm.d (Fm.ts f)), D.sl
    (List.map Bd.d (Fm.bs f)), D.sl (List.map Fm.d (Fm.l f))]]]] fun (rs : List D) => ∃ (n_3 : Int), rs = [D.int IntKind.i64 n_3] ∧ FA [] (List.map Bd.d e) (nat_lit 2) (nat_lit 24) ∧
    (List.length (List.reverse ([] : List D)) + List.length (List.map Bd.d e) = List.length (List.reverse ([] : List D) ++ List.map Bd.d e) ∧ (2 : Nat) = (2 : Nat) ∧ FA (List.reverse ([] :
    List D) ++ List.map Bd.d e) (List.map Bd.d bs) (nat_lit 2) (nat_lit 24)) ∧ ∃ (x0 : Nat), (x0 ≤ List.length (e ++ bs) ∧ List.Nodup (List.map (fun (x : Bd) => Bd.name x) (List.take x0 (e
    ++ bs)))) ∧ ((AV.ptr (0 : Nat) (0 : Nat) = AV.ptr (0 : Nat) (0 : Nat) ∧ n_3 = n_3 ∧ List.reverse ([] : List D) ++ List.map Bd.d e ++ List.map Bd.d bs = List.reverse ([] : List D) ++
    List.map Bd.d e ++ List.map Bd.d bs ∧ (0 : Int) = (↑x0 : Int) ∧ True) ∧ (Fm.kind f = Fm.kind f ∧ Fm.name f = Fm.name f ∧ Fm.n f = Fm.n f ∧ List.map Tm.d (Fm.ts f) = List.map Tm.d (Fm.ts
    f) ∧ List.map Bd.d (Fm.bs f) = List.map Bd.d (Fm.bs f) ∧ List.map Fm.d (Fm.l f) = List.map Fm.d (Fm.l f) ∧ True) ∧ (IntKind.wrap IntKind.i64 ((14 : Int) + Int.tmod (IntKind.wrap
    IntKind.i64 k) (4 : Int)) = IntKind.wrap IntKind.i64 ((14 : Int) + Int.tmod (IntKind.wrap IntKind.i64 k) (4 : Int)) ∧ Array.toList (ByteArray.data (ByteArray.mk #[])) = Array.toList
    (ByteArray.data (ByteArray.mk #[])) ∧ IntKind.wrap IntKind.i64 n = IntKind.wrap IntKind.i64 n ∧ ([] : List D) = [] ∧ List.map Bd.d bs = List.map Bd.d bs ∧ [D.agg [D.int IntKind.i64
    (Fm.kind f), D.str (Fm.name f), D.int IntKind.i64 (Fm.n f), D.sl (List.map Tm.d (Fm.ts f)), D.sl (List.map Bd.d (Fm.bs f)), D.sl (List.map Fm.d (Fm.l f))]] = [D.agg [D.int IntKind.i64
    (Fm.kind f), D.str (Fm.name f), D.int IntKind.i64 (Fm.n f), D.sl (List.map Tm.d (Fm.ts f)), D.sl (List.map Bd.d (Fm.bs f)), D.sl (List.map Fm.d (Fm.l f))]] ∧ True) ∧ List.length
    (List.reverse ([] : List D) ++ List.map Bd.d e) + List.length (List.map Bd.d bs) = List.length (List.reverse ([] : List D) ++ List.map Bd.d e) + List.length (List.map Bd.d bs) ∧ True) ∧
    ∀ (x : Nat), x ≤ List.length (e ++ bs) ∧ List.Nodup (List.map (fun (x : Bd) => Bd.name x) (List.take x (e ++ bs))) → (decide ((↑x : Int) < (↑(List.length (List.reverse ([] : List D) ++
    List.map Bd.d e ++ List.map Bd.d bs)) : Int)) = true → (((0 : Int) ≤ (↑x : Int) ∧ (↑x : Int) ≤ (↑(List.length (List.reverse ([] : List D) ++ List.map Bd.d e ++ List.map Bd.d bs)) : Int))
    ∧ allSz (List.reverse ([] : List D) ++ List.map Bd.d e ++ List.map Bd.d bs) (2 : Nat) = true) ∧ ((0 : Int) ≤ (↑x : Int) ∧ (List.reverse ([] : List D) ++ List.map Bd.d e ++ List.map Bd.d
    bs)[Int.toNat (↑x : Int)]? = some (aggAt [Sh.str, Sh.int IntKind.i64] (List.reverse ([] : List D) ++ List.map Bd.d e ++ List.map Bd.d bs) (Int.toNat (↑x : Int)))) ∧ PFn Tryd.prog (GG M)
    (23 : Nat) [D.sl (List.drop (Int.toNat (0 : Int)) (List.take (Int.toNat (↑x : Int)) (List.reverse ([] : List D) ++ List.map Bd.d e ++ List.map Bd.d bs))), D.str (D.toStr (Option.getD
    (cellAt (List.reverse ([] : List D) ++ List.map Bd.d e ++ List.map Bd.d bs) (Int.toNat (↑x : Int)) (0 : Nat)) default))] fun (rs : List D) => ∃ (b : Bool), rs = [D.bool b] ∧ (b = true →
    [D.bool (n_3 == (82 : Int))] = [D.bool true]) ∧ (b = false → ∃ (y : Nat), (y ≤ List.length (e ++ bs) ∧ List.Nodup (List.map (fun (x : Bd) => Bd.name x) (List.take y (e ++ bs)))) ∧
    List.length (e ++ bs) - y < List.length (e ++ bs) - x ∧ (AV.ptr (0 : Nat) (0 : Nat) = AV.ptr (0 : Nat) (0 : Nat) ∧ n_3 = n_3 ∧ List.reverse ([] : List D) ++ List.map Bd.d e ++ List.map
    Bd.d bs = List.reverse ([] : List D) ++ List.map Bd.d e ++ List.map Bd.d bs ∧ IntKind.wrap IntKind.i64 ((↑x : Int) + (1 : Int)) = (↑y : Int) ∧ True) ∧ (Fm.kind f = Fm.kind f ∧ Fm.name f
    = Fm.name f ∧ Fm.n f = Fm.n f ∧ List.map Tm.d (Fm.ts f) = List.map Tm.d (Fm.ts f) ∧ List.map Bd.d (Fm.bs f) = List.map Bd.d (Fm.bs f) ∧ List.map Fm.d (Fm.l f) = List.map Fm.d (Fm.l f) ∧
    True) ∧ (IntKind.wrap IntKind.i64 ((14 : Int) + Int.tmod (IntKind.wrap IntKind.i64 k) (4 : Int)) = IntKind.wrap IntKind.i64 ((14 : Int) + Int.tmod (IntKind.wrap IntKind.i64 k) (4 : Int))
    ∧ Array.toList (ByteArray.data (ByteArray.mk #[])) = Array.toList (ByteArray.data (ByteArray.mk #[])) ∧ IntKind.wrap IntKind.i64 n = IntKind.wrap IntKind.i64 n ∧ ([] : List D) = [] ∧
    List.map Bd.d bs = List.map Bd.d bs ∧ [D.agg [D.int IntKind.i64 (Fm.kind f), D.str (Fm.name f), D.int IntKind.i64 (Fm.n f), D.sl (List.map Tm.d (Fm.ts f)), D.sl (List.map Bd.d (Fm.bs
    f)), D.sl (List.map Fm.d (Fm.l f))]] = [D.agg [D.int IntKind.i64 (Fm.kind f), D.str (Fm.name f), D.int IntKind.i64 (Fm.n f), D.sl (List.map Tm.d (Fm.ts f)), D.sl (List.map Bd.d (Fm.bs
    f)), D.sl (List.map Fm.d (Fm.l f))]] ∧ True) ∧ List.length (List.reverse ([] : List D) ++ List.map Bd.d e) + List.length (List.map Bd.d bs) = List.length (List.reverse ([] : List D) ++
    List.map Bd.d e) + List.length (List.map Bd.d bs) ∧ True)) ∧ (decide ((↑x : Int) < (↑(List.length (List.reverse ([] : List D) ++ List.map Bd.d e ++ List.map Bd.d bs)) : Int)) = false →
    PFn Tryd.prog (GG M) (16 : Nat) [D.sl (List.reverse ([] : List D) ++ List.map Bd.d e ++ List.map Bd.d bs), D.agg [D.int IntKind.i64 (Fm.kind f), D.str (Fm.name f), D.int IntKind.i64
    (Fm.n f), D.sl (List.map Tm.d (Fm.ts f)), D.sl (List.map Bd.d (Fm.bs f)), D.sl (List.map Fm.d (Fm.l f))]] fun (rs : List D) => ∃ (n : Int), rs = [D.int IntKind.i64 n] ∧ [D.bool (n_3 ==
    n)] = [D.bool true]))) ∧ ((bif IntKind.wrap IntKind.i64 ((14 : Int) + Int.tmod (IntKind.wrap IntKind.i64 k) (4 : Int)) == (16 : Int) then true else IntKind.wrap IntKind.i64 ((14 : Int) +
    Int.tmod (IntKind.wrap IntKind.i64 k) (4 : Int)) == (17 : Int)) = false → PFn Tryd.prog (GG M) (25 : Nat) [D.agg [D.int IntKind.i64 (IntKind.wrap IntKind.i64 ((14 : Int) + Int.tmod
    (IntKind.wrap IntKind.i64 k) (4 : Int))), D.str (Array.toList (ByteArray.data (ByteArray.mk #[]))), D.int IntKind.i64 (0 : Int), D.sl [], D.sl (List.map Bd.d bs), D.sl [D.agg [D.int
    IntKind.i64 (Fm.kind f), D.str (Fm.name f), D.int IntKind.i64 (Fm.n f), D.sl (List.map Tm.d (Fm.ts f)), D.sl (List.map Bd.d (Fm.bs f)), D.sl (List.map Fm.d (Fm.l f))]]]] fun (rs : List
    D) => ∃ (n : Int), rs = [D.int IntKind.i64 n] ∧ PFn Tryd.prog (GG M) (16 : Nat) [D.sl (List.map Bd.d e), D.agg [D.int IntKind.i64 (1 : Int), D.str (Array.toList (ByteArray.data
    (ByteArray.mk #[]))), D.int IntKind.i64 (0 : Int), D.sl [], D.sl [], D.sl []]] fun (rs : List D) => ∃ (n_1 : Int), rs = [D.int IntKind.i64 n_1] ∧ ((bif n != (0 : Int) then true else n_1
    != (0 : Int)) = true → [D.bool true] = [D.bool true]) ∧ ((bif n != (0 : Int) then true else n_1 != (0 : Int)) = false → PFn Tryd.prog (GG M) (16 : Nat) [D.sl (List.map Bd.d e), D.agg
    [D.int IntKind.i64 (IntKind.wrap IntKind.i64 ((14 : Int) + Int.tmod (IntKind.wrap IntKind.i64 k) (4 : Int))), D.str (Array.toList (ByteArray.data (ByteArray.mk #[]))), D.int IntKind.i64
    (0 : Int), D.sl [], D.sl (List.map Bd.d bs), D.sl [D.agg [D.int IntKind.i64 (Fm.kind f), D.str (Fm.name f), D.int IntKind.i64 (Fm.n f), D.sl (List.map Tm.d (Fm.ts f)), D.sl (List.map
    Bd.d (Fm.bs f)), D.sl (List.map Fm.d (Fm.l f))]]]] fun (rs : List D) => ∃ (n : Int), rs = [D.int IntKind.i64 n] ∧ FA [] (List.map Bd.d e) (nat_lit 2) (nat_lit 24) ∧ (List.length
    (List.reverse ([] : List D)) + List.length (List.map Bd.d e) = List.length (List.reverse ([] : List D) ++ List.map Bd.d e) ∧ (2 : Nat) = (2 : Nat) ∧ FA (List.reverse ([] : List D) ++
    List.map Bd.d e) (List.map Bd.d bs) (nat_lit 2) (nat_lit 24)) ∧ ∃ (x0 : Nat), (x0 ≤ List.length (e ++ bs) ∧ List.Nodup (List.map (fun (x : Bd) => Bd.name x) (List.take x0 (e ++ bs)))) ∧
    ((AV.ptr (0 : Nat) (0 : Nat) = AV.ptr (0 : Nat) (0 : Nat) ∧ n = n ∧ List.reverse ([] : List D) ++ List.map Bd.d e ++ List.map Bd.d bs = List.reverse ([] : List D) ++ List.map Bd.d e ++
    List.map Bd.d bs ∧ (0 : Int) = (↑x0 : Int) ∧ True) ∧ (Fm.kind f = Fm.kind f ∧ Fm.name f = Fm.name f ∧ Fm.n f = Fm.n f ∧ List.map Tm.d (Fm.ts f) = List.map Tm.d (Fm.ts f) ∧ List.map Bd.d
    (Fm.bs f) = List.map Bd.d (Fm.bs f) ∧ List.map Fm.d (Fm.l f) = List.map Fm.d (Fm.l f) ∧ True) ∧ (IntKind.wrap IntKind.i64 ((14 : Int) + Int.tmod (IntKind.wrap IntKind.i64 k) (4 : Int)) =
    IntKind.wrap IntKind.i64 ((14 : Int) + Int.tmod (IntKind.wrap IntKind.i64 k) (4 : Int)) ∧ Array.toList (ByteArray.data (ByteArray.mk #[])) = Array.toList (ByteArray.data (ByteArray.mk
    #[])) ∧ (0 : Int) = (0 : Int) ∧ ([] : List D) = [] ∧ List.map Bd.d bs = List.map Bd.d bs ∧ [D.agg [D.int IntKind.i64 (Fm.kind f), D.str (Fm.name f), D.int IntKind.i64 (Fm.n f), D.sl
    (List.map Tm.d (Fm.ts f)), D.sl (List.map Bd.d (Fm.bs f)), D.sl (List.map Fm.d (Fm.l f))]] = [D.agg [D.int IntKind.i64 (Fm.kind f), D.str (Fm.name f), D.int IntKind.i64 (Fm.n f), D.sl
    (List.map Tm.d (Fm.ts f)), D.sl (List.map Bd.d (Fm.bs f)), D.sl (List.map Fm.d (Fm.l f))]] ∧ True) ∧ List.length (List.reverse ([] : List D) ++ List.map Bd.d e) + List.length (List.map
    Bd.d bs) = List.length (List.reverse ([] : List D) ++ List.map Bd.d e) + List.length (List.map Bd.d bs) ∧ True) ∧ ∀ (x : Nat), x ≤ List.length (e ++ bs) ∧ List.Nodup (List.map (fun (x :
    Bd) => Bd.name x) (List.take x (e ++ bs))) → (decide ((↑x : Int) < (↑(List.length (List.reverse ([] : List D) ++ List.map Bd.d e ++ List.map Bd.d bs)) : Int)) = true → (((0 : Int) ≤ (↑x
    : Int) ∧ (↑x : Int) ≤ (↑(List.length (List.reverse ([] : List D) ++ List.map Bd.d e ++ List.map Bd.d bs)) : Int)) ∧ allSz (List.reverse ([] : List D) ++ List.map Bd.d e ++ List.map Bd.d
    bs) (2 : Nat) = true) ∧ ((0 : Int) ≤ (↑x : Int) ∧ (List.reverse ([] : List D) ++ List.map Bd.d e ++ List.map Bd.d bs)[Int.toNat (↑x : Int)]? = some (aggAt [Sh.str, Sh.int IntKind.i64]
    (List.reverse ([] : List D) ++ List.map Bd.d e ++ List.map Bd.d bs) (Int.toNat (↑x : Int)))) ∧ PFn Tryd.prog (GG M) (23 : Nat) [D.sl (List.drop (Int.toNat (0 : Int)) (List.take
    (Int.toNat (↑x : Int)) (List.reverse ([] : List D) ++ List.map Bd.d e ++ List.map Bd.d bs))), D.str (D.toStr (Option.getD (cellAt (List.reverse ([] : List D) ++ List.map Bd.d e ++
    List.map Bd.d bs) (Int.toNat (↑x : Int)) (0 : Nat)) default))] fun (rs : List D) => ∃ (b : Bool), rs = [D.bool b] ∧ (b = true → [D.bool (n == (82 : Int))] = [D.bool true]) ∧ (b = false →
    ∃ (y : Nat), (y ≤ List.length (e ++ bs) ∧ List.Nodup (List.map (fun (x : Bd) => Bd.name x) (List.take y (e ++ bs)))) ∧ List.length (e ++ bs) - y < List.length (e ++ bs) - x ∧ (AV.ptr (0
    : Nat) (0 : Nat) = AV.ptr (0 : Nat) (0 : Nat) ∧ n = n ∧ List.reverse ([] : List D) ++ List.map Bd.d e ++ List.map Bd.d bs = List.reverse ([] : List D) ++ List.map Bd.d e ++ List.map Bd.d
    bs ∧ IntKind.wrap IntKind.i64 ((↑x : Int) + (1 : Int)) = (↑y : Int) ∧ True) ∧ (Fm.kind f = Fm.kind f ∧ Fm.name f = Fm.name f ∧ Fm.n f = Fm.n f ∧ List.map Tm.d (Fm.ts f) = List.map Tm.d
    (Fm.ts f) ∧ List.map Bd.d (Fm.bs f) = List.map Bd.d (Fm.bs f) ∧ List.map Fm.d (Fm.l f) = List.map Fm.d (Fm.l f) ∧ True) ∧ (IntKind.wrap IntKind.i64 ((14 : Int) + Int.tmod (IntKind.wrap
    IntKind.i64 k) (4 : Int)) = IntKind.wrap IntKind.i64 ((14 : Int) + Int.tmod (IntKind.wrap IntKind.i64 k) (4 : Int)) ∧ Array.toList (ByteArray.data (ByteArray.mk #[])) = Array.toList
    (ByteArray.data (ByteArray.mk #[])) ∧ (0 : Int) = (0 : Int) ∧ ([] : List D) = [] ∧ List.map Bd.d bs = List.map Bd.d bs ∧ [D.agg [D.int IntKind.i64 (Fm.kind f), D.str (Fm.name f), D.int
    IntKind.i64 (Fm.n f), D.sl (List.map Tm.d (Fm.ts f)), D.sl (List.map Bd.d (Fm.bs f)), D.sl (List.map Fm.d (Fm.l f))]] = [D.agg [D.int IntKind.i64 (Fm.kind f), D.str (Fm.name f), D.int
    IntKind.i64 (Fm.n f), D.sl (List.map Tm.d (Fm.ts f)), D.sl (List.map Bd.d (Fm.bs f)), D.sl (List.map Fm.d (Fm.l f))]] ∧ True) ∧ List.length (List.reverse ([] : List D) ++ List.map Bd.d
    e) + List.length (List.map Bd.d bs) = List.length (List.reverse ([] : List D) ++ List.map Bd.d e) + List.length (List.map Bd.d bs) ∧ True)) ∧ (decide ((↑x : Int) < (↑(List.length
    (List.reverse ([] : List D) ++ List.map Bd.d e ++ List.map Bd.d bs)) : Int)) = false → PFn Tryd.prog (GG M) (16 : Nat) [D.sl (List.reverse ([] : List D) ++ List.map Bd.d e ++ List.map
    Bd.d bs), D.agg [D.int IntKind.i64 (Fm.kind f), D.str (Fm.name f), D.int IntKind.i64 (Fm.n f), D.sl (List.map Tm.d (Fm.ts f)), D.sl (List.map Bd.d (Fm.bs f)), D.sl (List.map Fm.d (Fm.l
    f))]] fun (rs : List D) => ∃ (n_2 : Int), rs = [D.int IntKind.i64 n_2] ∧ [D.bool (n == n_2)] = [D.bool true]))))))
  · kernel_rfl
  refine (g12 hM).use ⟨_, rfl, fun h => (by cases h), fun _ => h15.mono ?_⟩
  rintro rs ⟨b, rfl, _⟩
  rw [kind4 hk, wrap64 (n := n) (by omega) (by omega)]
  have f16 := g16 hM (e ++ bs) f (by unfold ewt at *; rw [List.length_append, sumB_app]; omega)
  have o16 := g16 hM e one1 (by have h0 := one_wt; omega)
  rw [one_d] at o16
  rw [d_cells f] at f16
  have hle : e.length ≤ ewt e := by unfold ewt; omega
  have hlb : bs.length ≤ ewt bs := by unfold ewt; omega
  have hlen : (e ++ bs).length = e.length + bs.length := List.length_append
  have hap : List.reverse ([] : List D) ++ List.map Bd.d e ++ List.map Bd.d bs = List.map Bd.d (e ++ bs) := by simp
  have hF0 : FA [] (List.map Bd.d e) 2 24 := by
    refine ⟨?_, by simp; omega⟩
    have := cells_bds e
    unfold allSz at this
    simpa using this
  have hF1 : FA (List.reverse ([] : List D) ++ List.map Bd.d e) (List.map Bd.d bs) 2 24 := by
    refine ⟨?_, by simp; omega⟩
    have := cells_bds (e ++ bs)
    unfold allSz at this
    simpa using this
  refine ⟨b, rfl, fun _ => rfl, fun _ => ⟨by decide, fun _ => ?_, fun _ => ?_⟩⟩
  · have b25 := fn13 hM (Fm.mk (14 + k % 4) [] n [] bs [f]) (by have := quant_wt (14 + k % 4) n bs f; omega)
    have b16 := g16 hM e (Fm.mk (14 + k % 4) [] n [] bs [f]) (by have := quant_wt (14 + k % 4) n bs f; omega)
    rw [quant_d] at b25 b16
    refine b25.use ⟨_, rfl, o16.use ⟨_, rfl, fun _ => rfl, fun h => ?_⟩⟩
    rw [bif_or, Bool.or_eq_false_iff] at h
    have hc : (Fm.mk (14 + k % 4) [] n [] bs [f]).checkI = 0 := by simpa using h.1
    have he := one_ty (by simpa using h.2)
    have hq := tyI_quant (by omega : 14 + k % 4 = 14 ∨ 14 + k % 4 = 15 ∨ 14 + k % 4 = 16 ∨ 14 + k % 4 = 17) hc he
    rw [hq] at b16
    refine b16.use ⟨_, rfl, hF0, ⟨by simp, rfl, hF1⟩, 0, ⟨by omega, by simp⟩, ⟨⟨rfl, rfl, rfl, rfl, trivial⟩, ⟨rfl, rfl, rfl, rfl, rfl, rfl, trivial⟩, ⟨rfl, rfl, rfl, rfl, rfl, rfl, trivial⟩, by simp, trivial⟩, fun i hi => ⟨fun hlt => ?_, fun hge => ?_⟩⟩
    · rw [hap] at hlt ⊢
      simp only [List.length_map, decide_eq_true_eq] at hlt
      obtain ⟨z, hz, hm⟩ := get_nat (l := e ++ bs) (x := i) (by omega)
      rw [Int.toNat_natCast, agg_bd hz, cell_bd0 hz]
      have e2 : D.toStr (Option.getD (some (D.str z.name)) default) = z.name := rfl
      have e3 : List.drop (Int.toNat 0) (List.take i (List.map Bd.d (e ++ bs))) = ((e ++ bs).take i).map Bd.d := by rw [List.map_take]; rfl
      rw [e2, e3]
      have hnt := nodup_take hz
      refine ⟨⟨⟨by omega, by rw [List.length_map]; omega⟩, cells_bds _⟩, ⟨by omega, by rw [List.getElem?_map, hz]; rfl⟩, (g23 ((e ++ bs).take i) z.name (by rw [List.length_take]; omega)).use ⟨_, rfl, fun h => ?_, fun h => ⟨i + 1, ⟨by omega, hnt.2 ⟨hi.2, h⟩⟩, by omega, ⟨rfl, rfl, rfl, ?_, trivial⟩, ⟨rfl, rfl, rfl, rfl, rfl, rfl, trivial⟩, ⟨rfl, rfl, rfl, rfl, rfl, rfl, trivial⟩, rfl, trivial⟩⟩⟩
      · rw [if_neg]
        · rfl
        · intro hn
          have h5 := (hnt.1 (hn.sublist (List.Sublist.map _ (List.take_sublist _ _)))).2
          rw [h] at h5; cases h5
      · rw [wrap64 (by omega) (by omega)]; simp
    · rw [hap] at hge ⊢
      simp only [List.length_map, decide_eq_false_iff_not] at hge
      have h3 := hi.2
      rw [List.take_of_length_le (by omega)] at h3
      rw [if_pos h3]
      refine f16.use ⟨_, rfl, ?_⟩
      simp
  · have b25 := fn13 hM (Fm.mk (14 + k % 4) [] 0 [] bs [f]) (by have := quant_wt (14 + k % 4) 0 bs f; omega)
    have b16 := g16 hM e (Fm.mk (14 + k % 4) [] 0 [] bs [f]) (by have := quant_wt (14 + k % 4) 0 bs f; omega)
    rw [quant_d] at b25 b16
    refine b25.use ⟨_, rfl, o16.use ⟨_, rfl, fun _ => rfl, fun h => ?_⟩⟩
    rw [bif_or, Bool.or_eq_false_iff] at h
    have hc : (Fm.mk (14 + k % 4) [] 0 [] bs [f]).checkI = 0 := by simpa using h.1
    have he := one_ty (by simpa using h.2)
    have hq := tyI_quant (by omega : 14 + k % 4 = 14 ∨ 14 + k % 4 = 15 ∨ 14 + k % 4 = 16 ∨ 14 + k % 4 = 17) hc he
    rw [hq] at b16
    refine b16.use ⟨_, rfl, hF0, ⟨by simp, rfl, hF1⟩, 0, ⟨by omega, by simp⟩, ⟨⟨rfl, rfl, rfl, rfl, trivial⟩, ⟨rfl, rfl, rfl, rfl, rfl, rfl, trivial⟩, ⟨rfl, rfl, rfl, rfl, rfl, rfl, trivial⟩, by simp, trivial⟩, fun i hi => ⟨fun hlt => ?_, fun hge => ?_⟩⟩
    · rw [hap] at hlt ⊢
      simp only [List.length_map, decide_eq_true_eq] at hlt
      obtain ⟨z, hz, hm⟩ := get_nat (l := e ++ bs) (x := i) (by omega)
      rw [Int.toNat_natCast, agg_bd hz, cell_bd0 hz]
      have e2 : D.toStr (Option.getD (some (D.str z.name)) default) = z.name := rfl
      have e3 : List.drop (Int.toNat 0) (List.take i (List.map Bd.d (e ++ bs))) = ((e ++ bs).take i).map Bd.d := by rw [List.map_take]; rfl
      rw [e2, e3]
      have hnt := nodup_take hz
      refine ⟨⟨⟨by omega, by rw [List.length_map]; omega⟩, cells_bds _⟩, ⟨by omega, by rw [List.getElem?_map, hz]; rfl⟩, (g23 ((e ++ bs).take i) z.name (by rw [List.length_take]; omega)).use ⟨_, rfl, fun h => ?_, fun h => ⟨i + 1, ⟨by omega, hnt.2 ⟨hi.2, h⟩⟩, by omega, ⟨rfl, rfl, rfl, ?_, trivial⟩, ⟨rfl, rfl, rfl, rfl, rfl, rfl, trivial⟩, ⟨rfl, rfl, rfl, rfl, rfl, rfl, trivial⟩, rfl, trivial⟩⟩⟩
      · rw [if_neg]
        · rfl
        · intro hn
          have h5 := (hnt.1 (hn.sublist (List.Sublist.map _ (List.take_sublist _ _)))).2
          rw [h] at h5; cases h5
      · rw [wrap64 (by omega) (by omega)]; simp
    · rw [hap] at hge ⊢
      simp only [List.length_map, decide_eq_false_iff_not] at hge
      have h3 := hi.2
      rw [List.take_of_length_le (by omega)] at h3
      rw [if_pos h3]
      refine f16.use ⟨_, rfl, ?_⟩
      simp
theorem g11 (hM : M.Ok) (e : En) (f : Fm) (hl : ewt e + 3 * f.wt + 10 < 1099511627776) : PFn Tryd.prog (GG M.on) 11 [.sl (e.map Bd.d), f.d] (· = [.bool true]) := by
  have h15 := g15 (G := GG M.on) e f (by omega)
  rw [d_cells f] at *
  refine PFn.walk (fn := Tryd.f11) (code := bodyOf Tryd.f11) mixed L0 Tryd.func11 (by kernel_rfl) ⟨_, rfl⟩ (ok0 (by kernel_rfl)) ?_
  apply @of_vc _ (
    PFn Tryd.prog (GG (Maps.on M)) (12 : Nat) [] fun (rs : List D) => ∃ (b : Bool), rs = [D.bool b] ∧ ((!b) = true → [D.bool false] = [D.bool true]) ∧ ((!b) = false → PFn Tryd.prog (GG
    (Maps.on M)) (15 : Nat) [D.sl (List.map Bd.d e), D.agg [D.int IntKind.i64 (Fm.kind f), D.str (Fm.name f), D.int IntKind.i64 (Fm.n f), D.sl (List.map Tm.d (Fm.ts f)), D.sl (List.map Bd.d
    (Fm.bs f)), D.sl (List.map Fm.d (Fm.l f))]] fun (rs : List D) => ∃ (b : Bool), rs = [D.bool b] ∧ PFn Tryd.prog (GG (Maps.on M)) (16 : Nat) [D.sl (List.map Bd.d e), D.agg [D.int
    IntKind.i64 (Fm.kind f), D.str (Fm.name f), D.int IntKind.i64 (Fm.n f), D.sl (List.map Tm.d (Fm.ts f)), D.sl (List.map Bd.d (Fm.bs f)), D.sl (List.map Fm.d (Fm.l f))]] fun (rs : List D)
    => ∃ (n : Int), rs = [D.int IntKind.i64 n] ∧ ((bif !b then true else n != (0 : Int)) = true → [D.bool true] = [D.bool true]) ∧ ((bif !b then true else n != (0 : Int)) = false → PFn
    Tryd.prog (GG (Maps.on M)) (27 : Nat) [D.agg [D.int IntKind.i64 (Fm.kind f), D.str (Fm.name f), D.int IntKind.i64 (Fm.n f), D.sl (List.map Tm.d (Fm.ts f)), D.sl (List.map Bd.d (Fm.bs
    f)), D.sl (List.map Fm.d (Fm.l f))]] fun (rs : List D) => ∃ (n : Int), ∃ (s : List UInt8), ∃ (n_1 : Int), ∃ (l : List D), ∃ (l_1 : List D), ∃ (l_2 : List D), ∃ (n_2 : Int), rs = [D.agg
    [D.int IntKind.i64 n, D.str s, D.int IntKind.i64 n_1, D.sl l, D.sl l_1, D.sl l_2], D.int IntKind.i64 n_2] ∧ ((n_2 != (0 : Int)) = true → [D.bool false] = [D.bool true]) ∧ ((n_2 != (0 :
    Int)) = false → PFn Tryd.prog (GG (Maps.on M)) (16 : Nat) [D.sl (List.map Bd.d e), D.agg [D.int IntKind.i64 n, D.str s, D.int IntKind.i64 n_1, D.sl l, D.sl l_1, D.sl l_2]] fun (rs : List
    D) => ∃ (n_3 : Int), rs = [D.int IntKind.i64 n_3] ∧ PFn Tryd.prog (GG (Maps.on M)) (25 : Nat) [D.agg [D.int IntKind.i64 n, D.str s, D.int IntKind.i64 n_1, D.sl l, D.sl l_1, D.sl l_2]]
    fun (rs : List D) => ∃ (n : Int), rs = [D.int IntKind.i64 n] ∧ [D.bool (bif n_3 == (0 : Int) then true else bif n_3 == (2 : Int) then n == (2 : Int) else false)] = [D.bool true]))))
  · kernel_rfl
  refine (g12 hM.on).use ⟨_, rfl, fun h => (by cases h), fun _ => ?_⟩
  have h16 := g16 hM.on e f (by omega)
  have hw := nnf_wt f
  have h16g := g16 hM.on e f.nnf (by omega)
  have h25 := fn13 hM.on f.nnf (by omega)
  have h27 := fn23 hM f (by omega)
  rw [d_cells f] at h16 h27
  rw [d_cells f.nnf] at h16g h25 h27
  refine h15.mono ?_
  rintro rs ⟨b, rfl, _⟩
  refine ⟨b, rfl, PFn.use h16 ⟨_, rfl, fun _ => rfl, fun h => ?_⟩⟩
  rw [bif_or, Bool.or_eq_false_iff] at h
  have ht : f.tyI e = 0 := by simpa using h.2
  have hc : f.checkI = 0 := by
    unfold Fm.tyI at ht
    by_cases he : envB e = false
    · rw [if_pos he] at ht; cases ht
    · rw [if_neg he] at ht
      by_cases hc : f.checkI = 0
      · exact hc
      · rw [if_pos hc] at ht; exact absurd ht hc
  have he : envB e = true := by
    cases he : envB e with
    | true => rfl
    | false => unfold Fm.tyI at ht; rw [he] at ht; cases ht
  have hty : f.ty e = 0 := by
    unfold Fm.tyI at ht
    rw [he, hc] at ht
    simpa using ht
  rw [hc] at h27
  refine PFn.use h27 ⟨_, _, _, _, _, _, _, rfl, fun h => (by cases h), fun _ => PFn.use h16g ⟨_, rfl, PFn.use h25 ⟨_, rfl, ?_⟩⟩⟩
  have hn : f.nnf = f.right false := if_pos hc
  have hgf : f.nnf.formB = true := by rw [hn]; exact right_formB f (checkI_form hc) _
  have hgt : f.nnf.ty e = 0 := by rw [hn]; exact right_ty f (checkI_form hc) _ e hty
  unfold Fm.tyI
  rw [he, hgt]
  unfold Fm.checkI
  rw [if_pos hgf]
  by_cases hh : 256 < f.nnf.rank ∨ 24 < f.nnf.depth
  · rw [if_pos hh]; rfl
  · rw [if_neg hh]; rfl
theorem g10 (hM : M.Ok) (e : En) (f : Fm) (k : Int) (hk : 0 ≤ k ∧ k ≤ 255) (hl : ewt e + f.wt < 1099511627776) : PFn Tryd.prog (GG M) 10 [.sl (e.map Bd.d), f.d, .int .u8 k] (· = [.bool true]) := by
  have h15 := g15 (G := GG M) e f (by omega)
  rw [d_cells f] at *
  refine PFn.walk (fn := Tryd.f10) (code := bodyOf Tryd.f10) mixed
    (LL [(7, loopW (α := Nat) Tryd.prog (GG M) L0 0 (loopN (bodyOf Tryd.f10) 0) [0, 2, 4, 7] (fun x => x ≤ f.free.length) (fun x => f.free.length - x)
      (fun x => [(8, .d (.int .i64 x))]) (fun H _ => H)),
     (16, loopW (α := Nat) Tryd.prog (GG M) L0 0 (loopN (bodyOf Tryd.f10) 1) [0, 4, 9] (fun x => x ≤ e.length) (fun x => e.length - x)
      (fun x => [(11, .d (.int .i64 x)), (10, .vec 1 ((cutE (e.take x) fun y => y != nmK f k).map Bd.d))]) (fun H x => [H.getD 0 .dead, .vec (cutE (e.take x) fun y => y != nmK f k).length 2]))])
    Tryd.func10 (by kernel_rfl) ⟨_, rfl⟩ (LoopsOk.two (b1 := loopN (bodyOf Tryd.f10) 0) (b2 := loopN (bodyOf Tryd.f10) 1) (by kernel_rfl) (by kernel_rfl) (by kernel_rfl) (loopW_sound mixed (ok0 (by kernel_rfl))) (loopW_sound mixed (ok0 (by kernel_rfl)))) ?_
  apply @of_vc _ (
    PFn Tryd.prog (GG M) (12 : Nat) [] fun (rs : List D) => ∃ (b : Bool), rs = [D.bool b] ∧ ((!b) = true → [D.bool false] = [D.bool true]) ∧ ((!b) = false → PFn Tryd.prog (GG M) (15 : Nat) [D.sl (List.map Bd.d e), D.agg [D.int IntKind.i64 (Fm.kind f), D.str (Fm.name f), D.int IntKind.i64 (Fm.n f), D.sl (List.map Tm.d (Fm.ts f)), D.sl (List.map Bd.d (Fm.bs f)), D.sl (List.map Fm.d (Fm.l f))]] fun (rs : List D) => ∃ (b : Bool), rs = [D.bool b] ∧ PFn Tryd.prog (GG M) (16 : Nat) [D.sl (List.map Bd.d e), D.agg [D.int IntKind.i64 (Fm.kind f), D.str (Fm.name f), D.int IntKind.i64 (Fm.n f), D.sl (List.map Tm.d (Fm.ts f)), D.sl (List.map Bd.d (Fm.bs f)), D.sl (List.map Fm.d (Fm.l f))]] fun (rs : List D) => ∃ (n : Int), rs = [D.int IntKind.i64 n] ∧ ((bif !b then true else n != (0 : Int)) = true → [D.bool true] = [D.bool true]) ∧ ((bif !b then true else n != (0 : Int)) = false → PFn Tryd.prog (GG M) (26 : Nat) [D.agg [D.int IntKind.i64 (Fm.kind f), D.str (Fm.name f), D.int IntKind.i64 (Fm.n f), D.sl (List.map Tm.d (Fm.ts f)), D.sl (List.map Bd.d (Fm.bs f)), D.sl (List.map Fm.d (Fm.l f))]] fun (rs : List D) => ∃ (l : List D), rs = [D.sl l] ∧ ∃ (x0 : Nat), x0 ≤ List.length (Fm.free f) ∧ ((List.map Bd.d e = List.map Bd.d e ∧ k = k ∧ AV.ptr (0 : Nat) (0 : Nat) = AV.ptr (0 : Nat) (0 : Nat) ∧ l = l ∧ (0 : Int) = (↑x0 : Int) ∧ True) ∧ (Fm.kind f = Fm.kind f ∧ Fm.name f = Fm.name f ∧ Fm.n f = Fm.n f ∧ List.map Tm.d (Fm.ts f) = List.map Tm.d (Fm.ts f) ∧ List.map Bd.d (Fm.bs f) = List.map Bd.d (Fm.bs f) ∧ List.map Fm.d (Fm.l f) = List.map Fm.d (Fm.l f) ∧ True) ∧ True) ∧ ∀ (x : Nat), x ≤ List.length (Fm.free f) → (decide ((↑x : Int) < (↑(List.length l) : Int)) = true → ((0 : Int) ≤ (↑x : Int) ∧ l[Int.toNat (↑x : Int)]? = some (D.str (D.toStr (Option.getD (cellAt l (Int.toNat (↑x : Int)) (0 : Nat)) default)))) ∧ PFn Tryd.prog (GG M) (23 : Nat) [D.sl (List.map Bd.d e), D.str (D.toStr (Option.getD (cellAt l (Int.toNat (↑x : Int)) (0 : Nat)) default))] fun (rs : List D) => ∃ (b : Bool), rs = [D.bool b] ∧ ((!b) = true → [D.bool false] = [D.bool true]) ∧ ((!b) = false → ∃ (y : Nat), y ≤ List.length (Fm.free f) ∧ List.length (Fm.free f) - y < List.length (Fm.free f) - x ∧ (List.map Bd.d e = List.map Bd.d e ∧ k = k ∧ AV.ptr (0 : Nat) (0 : Nat) = AV.ptr (0 : Nat) (0 : Nat) ∧ l = l ∧ IntKind.wrap IntKind.i64 ((↑x : Int) + (1 : Int)) = (↑y : Int) ∧ True) ∧ (Fm.kind f = Fm.kind f ∧ Fm.name f = Fm.name f ∧ Fm.n f = Fm.n f ∧ List.map Tm.d (Fm.ts f) = List.map Tm.d (Fm.ts f) ∧ List.map Bd.d (Fm.bs f) = List.map Bd.d (Fm.bs f) ∧ List.map Fm.d (Fm.l f) = List.map Fm.d (Fm.l f) ∧ True) ∧ True)) ∧ (decide ((↑x : Int) < (↑(List.length l) : Int)) = false → (((↑(List.length l) : Int) == (0 : Int)) = true → PFn Tryd.prog (GG M) (16 : Nat) [D.sl [], D.agg [D.int IntKind.i64 (Fm.kind f), D.str (Fm.name f), D.int IntKind.i64 (Fm.n f), D.sl (List.map Tm.d (Fm.ts f)), D.sl (List.map Bd.d (Fm.bs f)), D.sl (List.map Fm.d (Fm.l f))]] fun (rs : List D) => ∃ (n : Int), rs = [D.int IntKind.i64 n] ∧ [D.bool (n == (0 : Int))] = [D.bool true]) ∧ (((↑(List.length l) : Int) == (0 : Int)) = false → ((↑(List.length l) : Int) = (0 : Int) → False) ∧ ((0 : Int) ≤ Int.tmod (IntKind.wrap IntKind.i64 k) (↑(List.length l) : Int) ∧ l[Int.toNat (Int.tmod (IntKind.wrap IntKind.i64 k) (↑(List.length l) : Int))]? = some (D.str (D.toStr (Option.getD (cellAt l (Int.toNat (Int.tmod (IntKind.wrap IntKind.i64 k) (↑(List.length l) : Int))) (0 : Nat)) default)))) ∧ ∃ (x0 : Nat), x0 ≤ List.length e ∧ ((List.map Bd.d e = List.map Bd.d e ∧ AV.ptr (0 : Nat) (0 : Nat) = AV.ptr (0 : Nat) (0 : Nat) ∧ D.toStr (Option.getD (cellAt l (Int.toNat (Int.tmod (IntKind.wrap IntKind.i64 k) (↑(List.length l) : Int))) (0 : Nat)) default) = D.toStr (Option.getD (cellAt l (Int.toNat (Int.tmod (IntKind.wrap IntKind.i64 k) (↑(List.length l) : Int))) (0 : Nat)) default) ∧ ([] = List.map Bd.d (cutE (List.take x0 e) fun (y : Nm) => y != nmK f k) ∧ List.length ([] : List D) ≤ List.length (cutE (List.take x0 e) fun (y : Nm) => y != nmK f k)) ∧ (0 : Int) = (↑x0 : Int) ∧ True) ∧ (Fm.kind f = Fm.kind f ∧ Fm.name f = Fm.name f ∧ Fm.n f = Fm.n f ∧ List.map Tm.d (Fm.ts f) = List.map Tm.d (Fm.ts f) ∧ List.map Bd.d (Fm.bs f) = List.map Bd.d (Fm.bs f) ∧ List.map Fm.d (Fm.l f) = List.map Fm.d (Fm.l f) ∧ True) ∧ True) ∧ ∀ (x : Nat), x ≤ List.length e → (decide ((↑x : Int) < (↑(List.length (List.map Bd.d e)) : Int)) = true → ((0 : Int) ≤ (↑x : Int) ∧ (List.map Bd.d e)[Int.toNat (↑x : Int)]? = some (aggAt [Sh.str, Sh.int IntKind.i64] (List.map Bd.d e) (Int.toNat (↑x : Int)))) ∧ ((!D.toStr (Option.getD (cellAt (List.map Bd.d e) (Int.toNat (↑x : Int)) (0 : Nat)) default) == D.toStr (Option.getD (cellAt l (Int.toNat (Int.tmod (IntKind.wrap IntKind.i64 k) (↑(List.length l) : Int))) (0 : Nat)) default)) = true → ((0 : Int) ≤ (↑x : Int) ∧ (List.map Bd.d e)[Int.toNat (↑x : Int)]? = some (aggAt [Sh.str, Sh.int IntKind.i64] (List.map Bd.d e) (Int.toNat (↑x : Int)))) ∧ (List.length (cutE (List.take x e) fun (y : Nm) => y != nmK f k) = List.length (List.map Bd.d (cutE (List.take x e) fun (y : Nm) => y != nmK f k)) ∧ (2 : Nat) = (2 : Nat) ∧ FA (List.map Bd.d (cutE (List.take x e) fun (y : Nm) => y != nmK f k)) [aggAt [Sh.str, Sh.int IntKind.i64] (List.map Bd.d e) (Int.toNat (↑x : Int))] (nat_lit 2) (nat_lit 24)) ∧ ∃ (y : Nat), y ≤ List.length e ∧ List.length e - y < List.length e - x ∧ (List.map Bd.d e = List.map Bd.d e ∧ AV.ptr (0 : Nat) (0 : Nat) = AV.ptr (0 : Nat) (0 : Nat) ∧ D.toStr (Option.getD (cellAt l (Int.toNat (Int.tmod (IntKind.wrap IntKind.i64 k) (↑(List.length l) : Int))) (0 : Nat)) default) = D.toStr (Option.getD (cellAt l (Int.toNat (Int.tmod (IntKind.wrap IntKind.i64 k) (↑(List.length l) : Int))) (0 : Nat)) default) ∧ List.map Bd.d (cutE (List.take x e) fun (y : Nm) => y != nmK f k) ++ List.reverse [D.agg (List.reverse [(fun (x_1 : Sh × Nat) => match x_1 with | (sh, j) => Sh.norm sh (Option.getD (cellAt (List.map Bd.d e) (Int.toNat (↑x : Int)) j) default)) (Sh.int IntKind.i64, (0 : Nat) + (1 : Nat)), (fun (x_1 : Sh × Nat) => match x_1 with | (sh, j) => Sh.norm sh (Option.getD (cellAt (List.map Bd.d e) (Int.toNat (↑x : Int)) j) default)) (Sh.str, (0 : Nat))])] = List.map Bd.d (cutE (List.take y e) fun (y : Nm) => y != nmK f k) ∧ IntKind.wrap IntKind.i64 ((↑x : Int) + (1 : Int)) = (↑y : Int) ∧ True) ∧ (Fm.kind f = Fm.kind f ∧ Fm.name f = Fm.name f ∧ Fm.n f = Fm.n f ∧ List.map Tm.d (Fm.ts f) = List.map Tm.d (Fm.ts f) ∧ List.map Bd.d (Fm.bs f) = List.map Bd.d (Fm.bs f) ∧ List.map Fm.d (Fm.l f) = List.map Fm.d (Fm.l f) ∧ True) ∧ List.length (List.map Bd.d (cutE (List.take x e) fun (y : Nm) => y != nmK f k)) + List.length (List.reverse [D.agg (List.reverse [(fun (x_1 : Sh × Nat) => match x_1 with | (sh, j) => Sh.norm sh (Option.getD (cellAt (List.map Bd.d e) (Int.toNat (↑x : Int)) j) default)) (Sh.int IntKind.i64, (0 : Nat) + (1 : Nat)), (fun (x_1 : Sh × Nat) => match x_1 with | (sh, j) => Sh.norm sh (Option.getD (cellAt (List.map Bd.d e) (Int.toNat (↑x : Int)) j) default)) (Sh.str, (0 : Nat))])]) = List.length (cutE (List.take y e) fun (y : Nm) => y != nmK f k) ∧ True) ∧ ((!D.toStr (Option.getD (cellAt (List.map Bd.d e) (Int.toNat (↑x : Int)) (0 : Nat)) default) == D.toStr (Option.getD (cellAt l (Int.toNat (Int.tmod (IntKind.wrap IntKind.i64 k) (↑(List.length l) : Int))) (0 : Nat)) default)) = false → ∃ (y : Nat), y ≤ List.length e ∧ List.length e - y < List.length e - x ∧ (List.map Bd.d e = List.map Bd.d e ∧ AV.ptr (0 : Nat) (0 : Nat) = AV.ptr (0 : Nat) (0 : Nat) ∧ D.toStr (Option.getD (cellAt l (Int.toNat (Int.tmod (IntKind.wrap IntKind.i64 k) (↑(List.length l) : Int))) (0 : Nat)) default) = D.toStr (Option.getD (cellAt l (Int.toNat (Int.tmod (IntKind.wrap IntKind.i64 k) (↑(List.length l) : Int))) (0 : Nat)) default) ∧ List.map Bd.d (cutE (List.take x e) fun (y : Nm) => y != nmK f k) = List.map Bd.d (cutE (List.take y e) fun (y : Nm) => y != nmK f k) ∧ IntKind.wrap IntKind.i64 ((↑x : Int) + (1 : Int)) = (↑y : Int) ∧ True) ∧ (Fm.kind f = Fm.kind f ∧ Fm.name f = Fm.name f ∧ Fm.n f = Fm.n f ∧ List.map Tm.d (Fm.ts f) = List.map Tm.d (Fm.ts f) ∧ List.map Bd.d (Fm.bs f) = List.map Bd.d (Fm.bs f) ∧ List.map Fm.d (Fm.l f) = List.map Fm.d (Fm.l f) ∧ True) ∧ List.length (cutE (List.take x e) fun (y : Nm) => y != nmK f k) = List.length (cutE (List.take y e) fun (y : Nm) => y != nmK f k) ∧ True)) ∧ (decide ((↑x : Int) < (↑(List.length (List.map Bd.d e)) : Int)) = false → PFn Tryd.prog (GG M) (16 : Nat) [D.sl (List.map Bd.d (cutE (List.take x e) fun (y : Nm) => y != nmK f k)), D.agg [D.int IntKind.i64 (Fm.kind f), D.str (Fm.name f), D.int IntKind.i64 (Fm.n f), D.sl (List.map Tm.d (Fm.ts f)), D.sl (List.map Bd.d (Fm.bs f)), D.sl (List.map Fm.d (Fm.l f))]] fun (rs : List D) => ∃ (n : Int), rs = [D.int IntKind.i64 n] ∧ [D.bool (n == (81 : Int))] = [D.bool true]))))))
  · kernel_rfl
  refine (g12 hM).use ⟨_, rfl, fun h => (by cases h), fun _ => h15.mono ?_⟩
  rintro rs ⟨b, rfl, _⟩
  have h16 := g16 hM e f hl
  have h26 := fn19 (G := GG M) f (by omega)
  rw [look_nil] at h26
  rw [d_cells f] at h16 h26
  have hfl := f.free_len
  have hle : e.length ≤ ewt e := by unfold ewt; omega
  refine ⟨b, rfl, PFn.use h16 ⟨_, rfl, fun _ => rfl, fun h => ?_⟩⟩
  rw [bif_or, Bool.or_eq_false_iff] at h
  obtain ⟨he, hc, hty⟩ := tyI_zero (by simpa using h.2 : f.tyI e = 0)
  refine PFn.use h26 ⟨_, rfl, 0, by omega, ⟨⟨rfl, rfl, rfl, rfl, rfl, trivial⟩, ⟨rfl, rfl, rfl, rfl, rfl, rfl, trivial⟩, trivial⟩, fun i hi => ⟨fun hlt => ?_, fun hge => ⟨fun h0 => ?_, fun h0 => ?_⟩⟩⟩
  · simp only [List.length_map, decide_eq_true_eq] at hlt
    obtain ⟨z, hz, hm⟩ := get_nat (l := f.free) (x := i) (by omega)
    rw [Int.toNat_natCast, cell_str hz]
    have e2 : D.toStr (Option.getD (some (D.str z)) default) = z := rfl
    rw [e2]
    refine ⟨⟨by omega, by rw [List.getElem?_map, hz]; rfl⟩, (g23 e z (by omega)).use ⟨_, rfl, fun h => ?_, fun _ => ⟨i + 1, by omega, by omega, ⟨rfl, rfl, rfl, rfl, ?_, trivial⟩, ⟨rfl, rfl, rfl, rfl, rfl, rfl, trivial⟩, trivial⟩⟩⟩
    · rw [ty_free (checkI_form hc) hty hm] at h; cases h
    · rw [wrap64 (by omega) (by omega)]; simp
  · have hnil : f.free = [] := by simpa using h0
    have n16 := g16 hM [] f (by have : ewt [] = 0 := rfl
                                omega)
    have ht : f.tyI [] = 0 := by
      have h1 := ty_cut f (checkI_form hc) e (fun _ => false) hty
      have h2 : cutE e (fun _ => false) = [] := by unfold cutE; simp
      rw [h2, hnil] at h1
      unfold Fm.tyI
      rw [hc, h1]; rfl
    rw [ht, d_cells f] at n16
    exact PFn.use n16 ⟨_, rfl, rfl⟩
  · have hne : f.free.length ≠ 0 := by simpa using h0
    have hmod : (IntKind.i64.wrap k).tmod ((List.map D.str f.free).length : Int) = k % (f.free.length : Int) := by
      rw [wrap64 (by omega) (by omega), Int.tmod_eq_emod_of_nonneg hk.1, List.length_map]
    have hm0 := Int.emod_nonneg k (by omega : (f.free.length : Int) ≠ 0)
    have hm1 := Int.emod_lt_of_pos k (by omega : (0 : Int) < (f.free.length : Int))
    obtain ⟨z, hz, hm⟩ := get_nat (l := f.free) (x := (k % (f.free.length : Int)).toNat) (by omega)
    have hzk : nmK f k = z := by unfold nmK; rw [List.getD_eq_getElem?_getD, hz]; rfl
    rw [hmod, cell_str hz, hzk]
    have e2 : D.toStr (Option.getD (some (D.str z)) default) = z := rfl
    rw [e2]
    have hcl : ∀ x, (cutE (e.take x) fun y => y != z).length ≤ e.length := fun x => by
      unfold cutE
      exact Nat.le_trans (List.length_filter_le _ _) (by rw [List.length_take]; omega)
    refine ⟨fun h0 => hne (by rw [List.length_map] at h0; omega), ⟨by omega, by rw [List.getElem?_map, hz]; rfl⟩, 0, by omega, ⟨⟨rfl, rfl, rfl, ⟨rfl, by simp⟩, rfl, trivial⟩, ⟨rfl, rfl, rfl, rfl, rfl, rfl, trivial⟩, trivial⟩, fun x hx => ⟨fun hlt => ?_, fun hge2 => ?_⟩⟩
    · simp only [List.length_map, decide_eq_true_eq] at hlt
      obtain ⟨w, hw, hwm⟩ := get_nat (l := e) (x := x) (by omega)
      have hget : (List.map Bd.d e)[x]? = some w.d := by simp [hw]
      rw [Int.toNat_natCast, agg_bd hw, cell_bd0 hw]
      have e3 : D.toStr (Option.getD (some (D.str w.name)) default) = w.name := rfl
      rw [e3]
      have hcx := hcl x
      have hs := cut_succ (fun y => y != z) hw
      refine ⟨⟨by omega, hget⟩, fun hd => ?_, fun hd => ?_⟩
      · have hp : (w.name != z) = true := hd
        rw [if_pos hp] at hs
        have hF : FA (List.map Bd.d (cutE (e.take x) fun y => y != z)) [w.d] 2 24 := by
          refine ⟨?_, by rw [List.length_map]; simp; omega⟩
          have := cells_bds ((cutE (e.take x) fun y => y != z) ++ [w])
          unfold allSz at this
          simpa using this
        refine ⟨⟨by omega, hget⟩, ⟨by rw [List.length_map], rfl, hF⟩, x + 1, by omega, by omega, ⟨rfl, rfl, rfl, ?_, ?_, trivial⟩, ⟨rfl, rfl, rfl, rfl, rfl, rfl, trivial⟩, ?_, trivial⟩
        · rw [hs, List.map_append (l₂ := [w])]
          simp only [cell_bd0 hw, cell_bd1 hw]
          rfl
        · rw [wrap64 (by omega) (by omega)]; simp
        · rw [hs, List.length_map, List.length_append]; rfl
      · have hp : (w.name != z) = false := hd
        rw [if_neg (by rw [hp]; simp), List.append_nil] at hs
        refine ⟨x + 1, by omega, by omega, ⟨rfl, rfl, rfl, by rw [hs], ?_, trivial⟩, ⟨rfl, rfl, rfl, rfl, rfl, rfl, trivial⟩, by rw [hs], trivial⟩
        rw [wrap64 (by omega) (by omega)]; simp
    · simp only [List.length_map, decide_eq_false_iff_not] at hge2
      rw [List.take_of_length_le (by omega : e.length ≤ x)]
      have hsub : ewt (cutE e fun y => y != z) ≤ ewt e := ewt_cut e _
      have n16 := g16 hM (cutE e fun y => y != z) f (by omega)
      have ht : f.tyI (cutE e fun y => y != z) = 81 := by
        have h1 := ty_cut f (checkI_form hc) e (fun y => y != z) hty
        rw [if_neg] at h1
        · unfold Fm.tyI
          rw [envB_cut _ he, hc, h1]; rfl
        · intro ha
          have := List.all_eq_true.1 ha z hm
          simp at this
      rw [ht, d_cells f] at n16
      exact PFn.use n16 ⟨_, rfl, rfl⟩
end
end Go.Fo
/- The laws: weakening. -/
namespace Go.Fo
open Go Go.Sx Go.Proofs
set_option maxRecDepth 100000
set_option maxHeartbeats 0
theorem ewt_snoc (e : En) (b : Bd) : ewt (e ++ [b]) = ewt e + b.name.length + 1 := by unfold ewt; rw [sumB_app, List.length_append]; simp [sumB]; omega
theorem sumB_rev (a : List Bd) : sumB a.reverse = sumB a := by unfold sumB; rw [List.map_reverse, List.sum_reverse]
theorem ewt_back (e : En) (b : Bd) : ewt (b :: e.reverse) = ewt e + b.name.length + 1 := by
  unfold ewt
  have : sumB (b :: e.reverse) = b.name.length + sumB e.reverse := by simp [sumB]
  rw [this, sumB_rev, List.length_cons, List.length_reverse]; omega
section
variable {M : Maps}
theorem g6 (hM : M.Ok) (e : En) (f : Fm) (b : Bd) (hl : ewt e + f.wt + b.name.length + 10 < 1099511627776) : PFn Tryd.prog (GG M) 6 [.sl (e.map Bd.d), f.d, b.d] (· = [.bool true]) := by
  have h15 := g15 (G := GG M) e f (by omega)
  have h22 := g22 (G := GG M) f b.name (by omega)
  rw [d_cells f] at *
  have hbd : b.d = .agg [.str b.name, .int .i64 b.sort] := rfl
  rw [hbd]
  refine PFn.walk (fn := Tryd.f6) (code := bodyOf Tryd.f6) mixed
    (LL [(7, loopW (α := Nat) Tryd.prog (GG M) L0 0 (loopN (bodyOf Tryd.f6) 0) [0, 4, 5] (fun x => x ≤ e.length) (fun x => e.length - x)
      (fun x => [(8, .d (.int .i64 ((e.length : Int) - 1 - x))), (7, .vec 2 ((backE b e x).map Bd.d))]) (fun H x => [H.getD 0 .dead, H.getD 1 .dead, .vec (x + 1) 2]))])
    Tryd.func6 (by kernel_rfl) ⟨_, rfl⟩ (LoopsOk.one (b1 := loopN (bodyOf Tryd.f6) 0) (by kernel_rfl) (by kernel_rfl) (loopW_sound mixed (ok0 (by kernel_rfl)))) ?_
  apply @of_vc _ (
    PFn Tryd.prog (GG M) (12 : Nat) [] fun (rs : List D) => ∃ (b_1 : Bool), rs = [D.bool b_1] ∧ ((!b_1) = true → [D.bool false] = [D.bool true]) ∧ ((!b_1) = false → PFn Tryd.prog (GG M) (15 : Nat) [D.sl (List.map Bd.d e), D.agg [D.int IntKind.i64 (Fm.kind f), D.str (Fm.name f), D.int IntKind.i64 (Fm.n f), D.sl (List.map Tm.d (Fm.ts f)), D.sl (List.map Bd.d (Fm.bs f)), D.sl (List.map Fm.d (Fm.l f))]] fun (rs : List D) => ∃ (b_2 : Bool), rs = [D.bool b_2] ∧ PFn Tryd.prog (GG M) (22 : Nat) [D.agg [D.int IntKind.i64 (Fm.kind f), D.str (Fm.name f), D.int IntKind.i64 (Fm.n f), D.sl (List.map Tm.d (Fm.ts f)), D.sl (List.map Bd.d (Fm.bs f)), D.sl (List.map Fm.d (Fm.l f))], D.str (Bd.name b)] fun (rs : List D) => ∃ (b_3 : Bool), rs = [D.bool b_3] ∧ PFn Tryd.prog (GG M) (23 : Nat) [D.sl (List.map Bd.d e), D.str (Bd.name b)] fun (rs : List D) => ∃ (b_4 : Bool), rs = [D.bool b_4] ∧ PFn Tryd.prog (GG M) (24 : Nat) [D.str (Bd.name b)] fun (rs : List D) => ∃ (b_5 : Bool), rs = [D.bool b_5] ∧ ((bif bif bif bif bif !b_2 then true else b_3 then true else b_4 then true else decide (Bd.sort b < (1 : Int)) then true else decide (Bd.sort b > (7 : Int)) then true else !b_5) = true → [D.bool true] = [D.bool true]) ∧ ((bif bif bif bif bif !b_2 then true else b_3 then true else b_4 then true else decide (Bd.sort b < (1 : Int)) then true else decide (Bd.sort b > (7 : Int)) then true else !b_5) = false → ∃ (x0 : Nat), x0 ≤ List.length e ∧ ((List.map Bd.d e = List.map Bd.d e ∧ AV.ptr (0 : Nat) (0 : Nat) = AV.ptr (0 : Nat) (0 : Nat) ∧ AV.ptr (1 : Nat) (0 : Nat) = AV.ptr (1 : Nat) (0 : Nat) ∧ ([D.agg [D.str (Bd.name b), D.int IntKind.i64 (Bd.sort b)]] = List.map Bd.d (backE b e x0) ∧ List.length [D.agg [D.str (Bd.name b), D.int IntKind.i64 (Bd.sort b)]] ≤ x0 + (1 : Nat)) ∧ IntKind.wrap IntKind.i64 ((↑(List.length (List.map Bd.d e)) : Int) - (1 : Int)) = (↑(List.length e) : Int) - (1 : Int) - (↑x0 : Int) ∧ True) ∧ (Fm.kind f = Fm.kind f ∧ Fm.name f = Fm.name f ∧ Fm.n f = Fm.n f ∧ List.map Tm.d (Fm.ts f) = List.map Tm.d (Fm.ts f) ∧ List.map Bd.d (Fm.bs f) = List.map Bd.d (Fm.bs f) ∧ List.map Fm.d (Fm.l f) = List.map Fm.d (Fm.l f) ∧ True) ∧ (Bd.name b = Bd.name b ∧ Bd.sort b = Bd.sort b ∧ True) ∧ True) ∧ ∀ (x : Nat), x ≤ List.length e → (decide ((↑(List.length e) : Int) - (1 : Int) - (↑x : Int) ≥ (0 : Int)) = true → ((0 : Int) ≤ (↑(List.length e) : Int) - (1 : Int) - (↑x : Int) ∧ (List.map Bd.d e)[Int.toNat ((↑(List.length e) : Int) - (1 : Int) - (↑x : Int))]? = some (aggAt [Sh.str, Sh.int IntKind.i64] (List.map Bd.d e) (Int.toNat ((↑(List.length e) : Int) - (1 : Int) - (↑x : Int))))) ∧ (x + (1 : Nat) = List.length (List.map Bd.d (backE b e x)) ∧ (2 : Nat) = (2 : Nat) ∧ FA (List.map Bd.d (backE b e x)) [aggAt [Sh.str, Sh.int IntKind.i64] (List.map Bd.d e) (Int.toNat ((↑(List.length e) : Int) - (1 : Int) - (↑x : Int)))] (nat_lit 2) (nat_lit 24)) ∧ ∃ (y : Nat), y ≤ List.length e ∧ List.length e - y < List.length e - x ∧ (List.map Bd.d e = List.map Bd.d e ∧ AV.ptr (0 : Nat) (0 : Nat) = AV.ptr (0 : Nat) (0 : Nat) ∧ AV.ptr (1 : Nat) (0 : Nat) = AV.ptr (1 : Nat) (0 : Nat) ∧ List.map Bd.d (backE b e x) ++ List.reverse [D.agg (List.reverse [(fun (x_1 : Sh × Nat) => match x_1 with | (sh, j) => Sh.norm sh (Option.getD (cellAt (List.map Bd.d e) (Int.toNat ((↑(List.length e) : Int) - (1 : Int) - (↑x : Int))) j) default)) (Sh.int IntKind.i64, (0 : Nat) + (1 : Nat)), (fun (x_1 : Sh × Nat) => match x_1 with | (sh, j) => Sh.norm sh (Option.getD (cellAt (List.map Bd.d e) (Int.toNat ((↑(List.length e) : Int) - (1 : Int) - (↑x : Int))) j) default)) (Sh.str, (0 : Nat))])] = List.map Bd.d (backE b e y) ∧ IntKind.wrap IntKind.i64 ((↑(List.length e) : Int) - (1 : Int) - (↑x : Int) - (1 : Int)) = (↑(List.length e) : Int) - (1 : Int) - (↑y : Int) ∧ True) ∧ (Fm.kind f = Fm.kind f ∧ Fm.name f = Fm.name f ∧ Fm.n f = Fm.n f ∧ List.map Tm.d (Fm.ts f) = List.map Tm.d (Fm.ts f) ∧ List.map Bd.d (Fm.bs f) = List.map Bd.d (Fm.bs f) ∧ List.map Fm.d (Fm.l f) = List.map Fm.d (Fm.l f) ∧ True) ∧ (Bd.name b = Bd.name b ∧ Bd.sort b = Bd.sort b ∧ True) ∧ List.length (List.map Bd.d (backE b e x)) + List.length (List.reverse [D.agg (List.reverse [(fun (x_1 : Sh × Nat) => match x_1 with | (sh, j) => Sh.norm sh (Option.getD (cellAt (List.map Bd.d e) (Int.toNat ((↑(List.length e) : Int) - (1 : Int) - (↑x : Int))) j) default)) (Sh.int IntKind.i64, (0 : Nat) + (1 : Nat)), (fun (x_1 : Sh × Nat) => match x_1 with | (sh, j) => Sh.norm sh (Option.getD (cellAt (List.map Bd.d e) (Int.toNat ((↑(List.length e) : Int) - (1 : Int) - (↑x : Int))) j) default)) (Sh.str, (0 : Nat))])]) = y + (1 : Nat) ∧ True) ∧ (decide ((↑(List.length e) : Int) - (1 : Int) - (↑x : Int) ≥ (0 : Int)) = false → FA [] (List.map Bd.d e) (nat_lit 2) (nat_lit 24) ∧ (List.length (List.reverse ([] : List D)) + List.length (List.map Bd.d e) = List.length (List.reverse ([] : List D) ++ List.map Bd.d e) ∧ (2 : Nat) = (2 : Nat) ∧ FA (List.reverse ([] : List D) ++ List.map Bd.d e) [D.agg [D.str (Bd.name b), D.int IntKind.i64 (Bd.sort b)]] (nat_lit 2) (nat_lit 24)) ∧ PFn Tryd.prog (GG M) (16 : Nat) [D.sl (List.reverse ([] : List D) ++ List.map Bd.d e ++ List.reverse [D.agg (List.reverse [D.int IntKind.i64 (Bd.sort b), D.str (Bd.name b)])]), D.agg [D.int IntKind.i64 (Fm.kind f), D.str (Fm.name f), D.int IntKind.i64 (Fm.n f), D.sl (List.map Tm.d (Fm.ts f)), D.sl (List.map Bd.d (Fm.bs f)), D.sl (List.map Fm.d (Fm.l f))]] fun (rs : List D) => ∃ (n : Int), rs = [D.int IntKind.i64 n] ∧ PFn Tryd.prog (GG M) (16 : Nat) [D.sl (List.map Bd.d e), D.agg [D.int IntKind.i64 (Fm.kind f), D.str (Fm.name f), D.int IntKind.i64 (Fm.n f), D.sl (List.map Tm.d (Fm.ts f)), D.sl (List.map Bd.d (Fm.bs f)), D.sl (List.map Fm.d (Fm.l f))]] fun (rs : List D) => ∃ (n_1 : Int), rs = [D.int IntKind.i64 n_1] ∧ PFn Tryd.prog (GG M) (16 : Nat) [D.sl (List.map Bd.d (backE b e x)), D.agg [D.int IntKind.i64 (Fm.kind f), D.str (Fm.name f), D.int IntKind.i64 (Fm.n f), D.sl (List.map Tm.d (Fm.ts f)), D.sl (List.map Bd.d (Fm.bs f)), D.sl (List.map Fm.d (Fm.l f))]] fun (rs : List D) => ∃ (n_2 : Int), rs = [D.int IntKind.i64 n_2] ∧ PFn Tryd.prog (GG M) (16 : Nat) [D.sl (List.map Bd.d e), D.agg [D.int IntKind.i64 (Fm.kind f), D.str (Fm.name f), D.int IntKind.i64 (Fm.n f), D.sl (List.map Tm.d (Fm.ts f)), D.sl (List.map Bd.d (Fm.bs f)), D.sl (List.map Fm.d (Fm.l f))]] fun (rs : List D) => ∃ (n_3 : Int), rs = [D.int IntKind.i64 n_3] ∧ [D.bool (bif n == n_1 then n_2 == n_3 else false)] = [D.bool true]))))
  · kernel_rfl
  refine (g12 hM).use ⟨_, rfl, fun h => (by cases h), fun _ => h15.mono ?_⟩
  rintro rs ⟨b0, rfl, hb0⟩
  have hle : e.length ≤ ewt e := by unfold ewt; omega
  have h23 := g23 (G := GG M) e b.name (by omega)
  have h24 := fn69 (G := GG M) b.name (by omega)
  refine ⟨b0, rfl, h22.use ⟨_, rfl, h23.use ⟨_, rfl, h24.use ⟨_, rfl, fun _ => rfl, fun hc => ?_⟩⟩⟩⟩
  simp only [bif_or, Bool.or_eq_false_iff, Bool.not_eq_false', decide_eq_false_iff_not] at hc
  obtain ⟨⟨⟨⟨⟨c1, c2⟩, c3⟩, c4⟩, c5⟩, c6⟩ := hc
  have hbb : bindB b = true := by
    unfold bindB
    simp only [c6, Bool.true_and, Bool.and_eq_true, decide_eq_true_eq]
    omega
  have ho : b.name ∉ f.occ := by
    intro hm
    rw [List.contains_iff_mem.2 hm] at c2; cases c2
  have hlen : ((List.map Bd.d e).length : Int) = e.length := by simp
  refine ⟨0, by omega, ⟨⟨rfl, rfl, rfl, ⟨rfl, by simp⟩, by rw [hlen, wrap64 (by omega) (by omega)]; omega, trivial⟩, ⟨rfl, rfl, rfl, rfl, rfl, rfl, trivial⟩, ⟨rfl, rfl, trivial⟩, trivial⟩, fun x hx => ⟨fun hge => ?_, fun hlt => ?_⟩⟩
  · have hxl : x < e.length := by have := of_decide_eq_true hge; omega
    have ei : ((e.length : Int) - 1 - x).toNat = e.length - 1 - x := by omega
    rw [ei]
    obtain ⟨z, hz, hm⟩ := get_nat (l := e) (x := e.length - 1 - x) (by omega)
    rw [agg_bd hz]
    have hbl := backE_len b e hx
    refine ⟨⟨by omega, by rw [List.getElem?_map, hz]; rfl⟩, ⟨by simp [hbl], rfl, ?_⟩, x + 1, by omega, by omega, ⟨rfl, rfl, rfl, ?_, by rw [wrap64 (by omega) (by omega)]; omega, trivial⟩, ⟨rfl, rfl, rfl, rfl, rfl, rfl, trivial⟩, ⟨rfl, rfl, trivial⟩, ?_, trivial⟩
    · refine ⟨?_, by simp [hbl]; omega⟩
      have := cells_bds (backE b e x ++ [z])
      unfold allSz at this
      simpa using this
    · dsimp only
      rw [cell_bd0 hz, cell_bd1 hz, backE, hz, List.map_append]
      rfl
    · simp [hbl]
  · have hxe : x = e.length := by
      have := of_decide_eq_false hlt; omega
    subst hxe
    have hback : backE b e e.length = b :: e.reverse := by rw [backE_eq b e _ (Nat.le_refl _), List.take_of_length_le (by simp)]
    have hap : List.reverse ([] : List D) ++ List.map Bd.d e ++ [D.agg (List.reverse [D.int .i64 b.sort, D.str b.name])].reverse = List.map Bd.d (e ++ [b]) := by simp [Bd.d]
    have f1 := g16 hM (e ++ [b]) f (by rw [ewt_snoc]; omega)
    have f2 := g16 hM e f (by omega)
    have f3 := g16 hM (b :: e.reverse) f (by rw [ewt_back]; omega)
    rw [tyI_snoc hbb c3 ho] at f1
    rw [tyI_back hbb c3 ho] at f3
    rw [d_cells f] at f1 f2 f3
    rw [hback]
    refine ⟨⟨?_, by simp; omega⟩, ⟨by simp, rfl, ?_, by simp; omega⟩, ?_⟩
    · have := cells_bds e
      unfold allSz at this
      simpa using this
    · have := cells_bds (e ++ [b])
      unfold allSz at this
      simpa [Bd.d] using this
    · rw [hap]
      refine f1.use ⟨_, rfl, f2.use ⟨_, rfl, f3.use ⟨_, rfl, f2.use ⟨_, rfl, ?_⟩⟩⟩⟩
      simp
end
end Go.Fo
