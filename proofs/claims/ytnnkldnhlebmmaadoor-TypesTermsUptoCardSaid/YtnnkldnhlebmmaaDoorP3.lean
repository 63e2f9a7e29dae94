/- Joined texts: the walk by computed conditions, the contracts of the functions, the plain laws. -/
import Derived.Test.YtnnkldnhlebmmaaDoorP2
import Derived.Shelf.Strings.SlTrimAscii
import Derived.Test.YtnnkldnhlebmmaaDoorProg
import Derived.Lib.SlTrimSet
import Derived.Test.YtnnkldnhlebmmaaDoorRows
import Derived.ChangeArms
import Derived.Deep.Slices
import Derived.WideKeyElems2
import Derived.WideKeyArgs2
import Derived.MakeChecks
import Derived.FnData
import Derived.OpenShut
import Derived.Carry
import Derived.WideShapes
import Derived.RowKit
import Derived.LaidMore
import Derived.Deep.DeepHandedRow
import Derived.Deep.DeepWitnessRowRef
import Derived.Test.YtnnkldnhlebmmaaDoorCards
import Derived.Test.YtnnkldnhlebmmaaDoorTie
import Derived.ProofKit
set_option linter.unusedVariables false
set_option linter.unusedSimpArgs false
/- Size: the range over all subformulas. -/
namespace Go.Fo
open Go Go.Sx Go.Proofs
set_option maxRecDepth 100000

def fmCells (f : Fm) : List D := [.int .i64 f.kind, .str f.name, .int .i64 f.n, .sl (f.ts.map Tm.d), .sl (f.bs.map Bd.d), .sl (f.l.map Fm.d)]
theorem d_cells (f : Fm) : f.d = .agg (fmCells f) := f.d_eq
def fmAVs (f : Fm) : List AV := [.d (.int .i64 f.kind), .d (.str f.name), .d (.int .i64 f.n), .d (.sl (f.ts.map Tm.d)), .d (.sl (f.bs.map Bd.d)), .d (.sl (f.l.map Fm.d))]
def itAll (ds : List D) : AV := .clo 66 [] [.iptr (ds.getD 0 default).cells]

section
variable {G : Nat → Option (List D)}

theorem fn30 (f : Fm) : PFnA Tryd.prog G 45 [.agg (fmCells f)] (· = .clo 66 [] [.iptr (fmCells f)]) := by
  refine PFnA.walk (fn := Tryd.f45) (code := bodyOf Tryd.f45) mixed L0 Tryd.func45 (by kernel_rfl) (ok0 (by kernel_rfl)) ?_
  apply @of_vc _ (
    AV.clo (66 : Nat) [] [AV.iptr [D.int IntKind.i64 (Fm.kind f), D.str (Fm.name f), D.int IntKind.i64 (Fm.n f), D.sl (List.map Tm.d (Fm.ts f)), D.sl (List.map Bd.d (Fm.bs f)), D.sl
    (List.map Fm.d (Fm.l f))]] = AV.clo (66 : Nat) [] [AV.iptr [D.int IntKind.i64 (Fm.kind f), D.str (Fm.name f), D.int IntKind.i64 (Fm.n f), D.sl (List.map Tm.d (Fm.ts f)), D.sl (List.map
    Bd.d (Fm.bs f)), D.sl (List.map Fm.d (Fm.l f))]])
  · kernel_rfl
  rfl

noncomputable def c15 : Code := unScope (loopN (bodyOf Tryd.f47) 0)
def tm15 : List AV := [.any, .any, .any, .ptr 1 0, .any, .any, .any, .any, .any, .any]
noncomputable def h15 (f0 : Fm) (k : Int) : List Box := [.cells 33 (fmAVs f0), .cells 3 [.d (.int .i64 k)], .loop tm15 (rpPs c15) (rpAsn c15) (rpBd c15) none .ready]

theorem yld15 (f0 x : Fm) (k : Int) : PYield Tryd.prog G 2 [.d (.agg (fmCells x))] (h15 f0 k) (fun rs H' => rs = [.bool true] ∧ H' = h15 f0 (IntKind.wrap .i64 (k + 1))) := by
  refine PYield.walk (tm := tm15) (ps := rpPs c15) (asn := rpAsn c15) (bd := rpBd c15) mixed L0 rfl (by kernel_rfl) rfl rfl ⟨_, _, rfl, rfl⟩ (fun _ => ok0 (by kernel_rfl)) (fun _ => ok0 (by kernel_rfl)) ?_
  apply @of_vc _ (
    [D.bool true] = [D.bool true] ∧ [Box.cells (33 : Nat) [AV.d (D.int IntKind.i64 (Fm.kind f0)), AV.d (D.str (Fm.name f0)), AV.d (D.int IntKind.i64 (Fm.n f0)), AV.d (D.sl (List.map Tm.d
    (Fm.ts f0))), AV.d (D.sl (List.map Bd.d (Fm.bs f0))), AV.d (D.sl (List.map Fm.d (Fm.l f0)))], Box.cells (3 : Nat) [AV.d (D.int IntKind.i64 (IntKind.wrap IntKind.i64 (k + (1 : Int))))],
    Box.loop [AV.any, AV.any, AV.any, AV.ptr (1 : Nat) (0 : Nat), AV.any, AV.any, AV.any, AV.any, AV.any, AV.any] (rpPs c15) (rpAsn c15) (rpBd c15) none LoopState.ready] = [Box.cells (33 :
    Nat) [AV.d (D.int IntKind.i64 (Fm.kind f0)), AV.d (D.str (Fm.name f0)), AV.d (D.int IntKind.i64 (Fm.n f0)), AV.d (D.sl (List.map Tm.d (Fm.ts f0))), AV.d (D.sl (List.map Bd.d (Fm.bs
    f0))), AV.d (D.sl (List.map Fm.d (Fm.l f0)))], Box.cells (3 : Nat) [AV.d (D.int IntKind.i64 (IntKind.wrap IntKind.i64 (k + (1 : Int))))], Box.loop [AV.any, AV.any, AV.any, AV.ptr (1 :
    Nat) (0 : Nat), AV.any, AV.any, AV.any, AV.any, AV.any, AV.any] (rpPs c15) (rpAsn c15) (rpBd c15) none LoopState.ready])
  · kernel_rfl
  exact ⟨rfl, rfl⟩

theorem fn41s (f0 x : Fm) (k : Int) (h0 : 0 ≤ k) (hk : k + x.rank < 4611686018427387904) : PCall Tryd.prog G 67 [.d x.d, .yld 2] (h15 f0 k) (fun rs H' => rs = [.bool true] ∧ H' = h15 f0 (k + x.rank)) := by
  induction x using Fm.induct generalizing k with
  | h x ih =>
  have hr := x.rank_eq
  rw [d_cells]
  refine PCall.walk (fn := Tryd.f67) (code := bodyOf Tryd.f67) mixed
    (LL [(4, loopW (α := Nat) Tryd.prog G L0 3 (loopN (bodyOf Tryd.f67) 0) [1, 2, 12, 13] (fun i => i ≤ x.l.length) (fun i => x.l.length - i)
      (fun i => [(14, .d (.int .i64 i))]) (fun H i => h15 f0 (k + 1 + (Fm.ranks (x.l.take i) : Int)) ++ H.drop 3))])
    Tryd.func67 (by kernel_rfl) rfl ⟨_, _, rfl, rfl⟩ (LoopsOk.one (b1 := loopN (bodyOf Tryd.f67) 0) (by kernel_rfl) (by kernel_rfl) (loopW_sound mixed (ok0 (by kernel_rfl)))) ?_
  apply @of_vc _ (
    PYield Tryd.prog G (2 : Nat) [AV.d (D.agg [D.int IntKind.i64 (Fm.kind x), D.str (Fm.name x), D.int IntKind.i64 (Fm.n x), D.sl (List.map Tm.d (Fm.ts x)), D.sl (List.map Bd.d (Fm.bs x)),
    D.sl (List.map Fm.d (Fm.l x))])] [Box.cells (33 : Nat) [AV.d (D.int IntKind.i64 (Fm.kind f0)), AV.d (D.str (Fm.name f0)), AV.d (D.int IntKind.i64 (Fm.n f0)), AV.d (D.sl (List.map Tm.d
    (Fm.ts f0))), AV.d (D.sl (List.map Bd.d (Fm.bs f0))), AV.d (D.sl (List.map Fm.d (Fm.l f0)))], Box.cells (3 : Nat) [AV.d (D.int IntKind.i64 k)], Box.loop [AV.any, AV.any, AV.any, AV.ptr
    (1 : Nat) (0 : Nat), AV.any, AV.any, AV.any, AV.any, AV.any, AV.any] (rpPs c15) (rpAsn c15) (rpBd c15) none LoopState.ready] fun (rs : List D) (H' : List Box) => ∃ (b : Bool), rs =
    [D.bool b] ∧ ∃ (n : Int), ∃ (s : List UInt8), ∃ (n_1 : Int), ∃ (l : List D), ∃ (l_1 : List D), ∃ (l_2 : List D), ∃ (n_2 : Int), ∃ (pend : Option Code), ∃ (st : LoopState), H' =
    [Box.cells (33 : Nat) [AV.d (D.int IntKind.i64 n), AV.d (D.str s), AV.d (D.int IntKind.i64 n_1), AV.d (D.sl l), AV.d (D.sl l_1), AV.d (D.sl l_2)], Box.cells (3 : Nat) [AV.d (D.int
    IntKind.i64 n_2)], Box.loop [AV.any, AV.any, AV.any, AV.ptr (1 : Nat) (0 : Nat), AV.any, AV.any, AV.any, AV.any, AV.any, AV.any] (rpPs c15) (rpAsn c15) (rpBd c15) pend st] ∧ ((!b) = true
    → [D.bool false] = [D.bool true] ∧ [Box.cells (33 : Nat) [AV.d (D.int IntKind.i64 n), AV.d (D.str s), AV.d (D.int IntKind.i64 n_1), AV.d (D.sl l), AV.d (D.sl l_1), AV.d (D.sl l_2)],
    Box.cells (3 : Nat) [AV.d (D.int IntKind.i64 n_2)], Box.loop [AV.any, AV.any, AV.any, AV.ptr (1 : Nat) (0 : Nat), AV.any, AV.any, AV.any, AV.any, AV.any, AV.any] (rpPs c15) (rpAsn c15)
    (rpBd c15) pend st] = [Box.cells (33 : Nat) [AV.d (D.int IntKind.i64 (Fm.kind f0)), AV.d (D.str (Fm.name f0)), AV.d (D.int IntKind.i64 (Fm.n f0)), AV.d (D.sl (List.map Tm.d (Fm.ts f0))),
    AV.d (D.sl (List.map Bd.d (Fm.bs f0))), AV.d (D.sl (List.map Fm.d (Fm.l f0)))], Box.cells (3 : Nat) [AV.d (D.int IntKind.i64 (k + (↑(Fm.rank x) : Int)))], Box.loop [AV.any, AV.any,
    AV.any, AV.ptr (1 : Nat) (0 : Nat), AV.any, AV.any, AV.any, AV.any, AV.any, AV.any] (rpPs c15) (rpAsn c15) (rpBd c15) none LoopState.ready]) ∧ ((!b) = false → ∃ (x0 : Nat), x0 ≤
    List.length (Fm.l x) ∧ ((AV.yld (2 : Nat) = AV.yld (2 : Nat) ∧ AV.ptr (3 : Nat) (0 : Nat) = AV.ptr (3 : Nat) (0 : Nat) ∧ List.map Fm.d (Fm.l x) = List.map Fm.d (Fm.l x) ∧ (↑(List.length
    (List.map Fm.d (Fm.l x))) : Int) = (↑(List.length (List.map Fm.d (Fm.l x))) : Int) ∧ (0 : Int) = (↑x0 : Int) ∧ True) ∧ (n = Fm.kind f0 ∧ s = Fm.name f0 ∧ n_1 = Fm.n f0 ∧ l = List.map
    Tm.d (Fm.ts f0) ∧ l_1 = List.map Bd.d (Fm.bs f0) ∧ l_2 = List.map Fm.d (Fm.l f0) ∧ True) ∧ (n_2 = k + (1 : Int) + (↑(Fm.ranks (List.take x0 (Fm.l x))) : Int) ∧ True) ∧ Box.loop [AV.any,
    AV.any, AV.any, AV.ptr (1 : Nat) (0 : Nat), AV.any, AV.any, AV.any, AV.any, AV.any, AV.any] (rpPs c15) (rpAsn c15) (rpBd c15) pend st = Box.loop [AV.any, AV.any, AV.any, AV.ptr (1 : Nat)
    (0 : Nat), AV.any, AV.any, AV.any, AV.any, AV.any, AV.any] (rpPs c15) (rpAsn c15) (rpBd c15) none LoopState.ready ∧ (Fm.kind x = Fm.kind x ∧ Fm.name x = Fm.name x ∧ Fm.n x = Fm.n x ∧
    List.map Tm.d (Fm.ts x) = List.map Tm.d (Fm.ts x) ∧ List.map Bd.d (Fm.bs x) = List.map Bd.d (Fm.bs x) ∧ List.map Fm.d (Fm.l x) = List.map Fm.d (Fm.l x) ∧ True) ∧ True) ∧ ∀ (x_1 : Nat),
    x_1 ≤ List.length (Fm.l x) → (decide ((↑x_1 : Int) < (↑(List.length (List.map Fm.d (Fm.l x))) : Int)) = true → ((0 : Int) ≤ (↑x_1 : Int) ∧ (List.map Fm.d (Fm.l x))[Int.toNat (↑x_1 :
    Int)]? = some (aggAt [Sh.int IntKind.i64, Sh.str, Sh.int IntKind.i64, Sh.sl, Sh.sl, Sh.sl] (List.map Fm.d (Fm.l x)) (Int.toNat (↑x_1 : Int)))) ∧ PCall Tryd.prog G (67 : Nat) [AV.d (aggAt
    [Sh.int IntKind.i64, Sh.str, Sh.int IntKind.i64, Sh.sl, Sh.sl, Sh.sl] (List.map Fm.d (Fm.l x)) (Int.toNat (↑x_1 : Int))), AV.yld (2 : Nat)] [Box.cells (33 : Nat) [AV.d (D.int IntKind.i64
    (Fm.kind f0)), AV.d (D.str (Fm.name f0)), AV.d (D.int IntKind.i64 (Fm.n f0)), AV.d (D.sl (List.map Tm.d (Fm.ts f0))), AV.d (D.sl (List.map Bd.d (Fm.bs f0))), AV.d (D.sl (List.map Fm.d
    (Fm.l f0)))], Box.cells (3 : Nat) [AV.d (D.int IntKind.i64 (k + (1 : Int) + (↑(Fm.ranks (List.take x_1 (Fm.l x))) : Int)))], Box.loop [AV.any, AV.any, AV.any, AV.ptr (1 : Nat) (0 : Nat),
    AV.any, AV.any, AV.any, AV.any, AV.any, AV.any] (rpPs c15) (rpAsn c15) (rpBd c15) none LoopState.ready] fun (rs : List D) (H' : List Box) => ∃ (b : Bool), rs = [D.bool b] ∧ ∃ (n : Int),
    ∃ (s : List UInt8), ∃ (n_3 : Int), ∃ (l : List D), ∃ (l_3 : List D), ∃ (l_4 : List D), ∃ (n_4 : Int), ∃ (pend : Option Code), ∃ (st : LoopState), H' = [Box.cells (33 : Nat) [AV.d (D.int
    IntKind.i64 n), AV.d (D.str s), AV.d (D.int IntKind.i64 n_3), AV.d (D.sl l), AV.d (D.sl l_3), AV.d (D.sl l_4)], Box.cells (3 : Nat) [AV.d (D.int IntKind.i64 n_4)], Box.loop [AV.any,
    AV.any, AV.any, AV.ptr (1 : Nat) (0 : Nat), AV.any, AV.any, AV.any, AV.any, AV.any, AV.any] (rpPs c15) (rpAsn c15) (rpBd c15) pend st] ∧ ((!b) = true → [D.bool false] = [D.bool true] ∧
    [Box.cells (33 : Nat) [AV.d (D.int IntKind.i64 n), AV.d (D.str s), AV.d (D.int IntKind.i64 n_3), AV.d (D.sl l), AV.d (D.sl l_3), AV.d (D.sl l_4)], Box.cells (3 : Nat) [AV.d (D.int
    IntKind.i64 n_4)], Box.loop [AV.any, AV.any, AV.any, AV.ptr (1 : Nat) (0 : Nat), AV.any, AV.any, AV.any, AV.any, AV.any, AV.any] (rpPs c15) (rpAsn c15) (rpBd c15) pend st] = [Box.cells
    (33 : Nat) [AV.d (D.int IntKind.i64 (Fm.kind f0)), AV.d (D.str (Fm.name f0)), AV.d (D.int IntKind.i64 (Fm.n f0)), AV.d (D.sl (List.map Tm.d (Fm.ts f0))), AV.d (D.sl (List.map Bd.d (Fm.bs
    f0))), AV.d (D.sl (List.map Fm.d (Fm.l f0)))], Box.cells (3 : Nat) [AV.d (D.int IntKind.i64 (k + (↑(Fm.rank x) : Int)))], Box.loop [AV.any, AV.any, AV.any, AV.ptr (1 : Nat) (0 : Nat),
    AV.any, AV.any, AV.any, AV.any, AV.any, AV.any] (rpPs c15) (rpAsn c15) (rpBd c15) none LoopState.ready]) ∧ ((!b) = false → ∃ (y : Nat), y ≤ List.length (Fm.l x) ∧ List.length (Fm.l x) -
    y < List.length (Fm.l x) - x_1 ∧ (AV.yld (2 : Nat) = AV.yld (2 : Nat) ∧ AV.ptr (3 : Nat) (0 : Nat) = AV.ptr (3 : Nat) (0 : Nat) ∧ List.map Fm.d (Fm.l x) = List.map Fm.d (Fm.l x) ∧
    (↑(List.length (List.map Fm.d (Fm.l x))) : Int) = (↑(List.length (List.map Fm.d (Fm.l x))) : Int) ∧ IntKind.wrap IntKind.i64 ((↑x_1 : Int) + (1 : Int)) = (↑y : Int) ∧ True) ∧ (n =
    Fm.kind f0 ∧ s = Fm.name f0 ∧ n_3 = Fm.n f0 ∧ l = List.map Tm.d (Fm.ts f0) ∧ l_3 = List.map Bd.d (Fm.bs f0) ∧ l_4 = List.map Fm.d (Fm.l f0) ∧ True) ∧ (n_4 = k + (1 : Int) + (↑(Fm.ranks
    (List.take y (Fm.l x))) : Int) ∧ True) ∧ Box.loop [AV.any, AV.any, AV.any, AV.ptr (1 : Nat) (0 : Nat), AV.any, AV.any, AV.any, AV.any, AV.any, AV.any] (rpPs c15) (rpAsn c15) (rpBd c15)
    pend st = Box.loop [AV.any, AV.any, AV.any, AV.ptr (1 : Nat) (0 : Nat), AV.any, AV.any, AV.any, AV.any, AV.any, AV.any] (rpPs c15) (rpAsn c15) (rpBd c15) none LoopState.ready ∧ (Fm.kind
    x = Fm.kind x ∧ Fm.name x = Fm.name x ∧ Fm.n x = Fm.n x ∧ List.map Tm.d (Fm.ts x) = List.map Tm.d (Fm.ts x) ∧ List.map Bd.d (Fm.bs x) = List.map Bd.d (Fm.bs x) ∧ List.map Fm.d (Fm.l x) =
    List.map Fm.d (Fm.l x) ∧ True) ∧ True)) ∧ (decide ((↑x_1 : Int) < (↑(List.length (List.map Fm.d (Fm.l x))) : Int)) = false → [D.bool true] = [D.bool true] ∧ [Box.cells (33 : Nat) [AV.d
    (D.int IntKind.i64 (Fm.kind f0)), AV.d (D.str (Fm.name f0)), AV.d (D.int IntKind.i64 (Fm.n f0)), AV.d (D.sl (List.map Tm.d (Fm.ts f0))), AV.d (D.sl (List.map Bd.d (Fm.bs f0))), AV.d
    (D.sl (List.map Fm.d (Fm.l f0)))], Box.cells (3 : Nat) [AV.d (D.int IntKind.i64 (k + (1 : Int) + (↑(Fm.ranks (List.take x_1 (Fm.l x))) : Int)))], Box.loop [AV.any, AV.any, AV.any, AV.ptr
    (1 : Nat) (0 : Nat), AV.any, AV.any, AV.any, AV.any, AV.any, AV.any] (rpPs c15) (rpAsn c15) (rpBd c15) none LoopState.ready] = [Box.cells (33 : Nat) [AV.d (D.int IntKind.i64 (Fm.kind
    f0)), AV.d (D.str (Fm.name f0)), AV.d (D.int IntKind.i64 (Fm.n f0)), AV.d (D.sl (List.map Tm.d (Fm.ts f0))), AV.d (D.sl (List.map Bd.d (Fm.bs f0))), AV.d (D.sl (List.map Fm.d (Fm.l
    f0)))], Box.cells (3 : Nat) [AV.d (D.int IntKind.i64 (k + (↑(Fm.rank x) : Int)))], Box.loop [AV.any, AV.any, AV.any, AV.ptr (1 : Nat) (0 : Nat), AV.any, AV.any, AV.any, AV.any, AV.any,
    AV.any] (rpPs c15) (rpAsn c15) (rpBd c15) none LoopState.ready])))
  · kernel_rfl
  refine (yld15 f0 x k).mono ?_
  rintro rs H' ⟨rfl, rfl⟩
  refine ⟨true, rfl, _, _, _, _, _, _, _, _, _, rfl, fun h => absurd h (by decide), fun _ => ⟨0, by omega, ⟨⟨rfl, rfl, rfl, rfl, rfl, trivial⟩, ⟨rfl, rfl, rfl, rfl, rfl, rfl, trivial⟩, ⟨?_, trivial⟩, rfl, ⟨rfl, rfl, rfl, rfl, rfl, rfl, trivial⟩, trivial⟩, fun i hi => ⟨fun hlt => ?_, fun hge => ?_⟩⟩⟩
  · rw [wrap64 (by omega) (by omega)]; simp [Fm.ranks]
  · simp only [List.length_map, decide_eq_true_eq] at hlt
    obtain ⟨z, hz, hm⟩ := get_nat (l := x.l) (x := i) (by omega)
    rw [Int.toNat_natCast, agg_fm hz]
    refine ⟨⟨by omega, by simp [hz]⟩, ?_⟩
    have h1 := ranks_take_succ hz
    have h2 := ranks_take_le x.l (i + 1)
    have h3 := ranks_len x.l
    refine (ih z hm _ (by omega) (by omega)).mono ?_
    rintro rs H' ⟨rfl, rfl⟩
    refine ⟨true, rfl, _, _, _, _, _, _, _, _, _, rfl, fun h => absurd h (by decide), fun _ => ⟨i + 1, by omega, by omega, ⟨rfl, rfl, rfl, rfl, ?_, trivial⟩, ⟨rfl, rfl, rfl, rfl, rfl, rfl, trivial⟩, ⟨?_, trivial⟩, rfl, ⟨rfl, rfl, rfl, rfl, rfl, rfl, trivial⟩, trivial⟩⟩
    · rw [wrap64 (by omega) (by omega)]; simp
    · rw [h1]; omega
  · simp only [List.length_map, decide_eq_false_iff_not] at hge
    rw [List.take_of_length_le (by omega)]
    have e : k + 1 + (Fm.ranks x.l : Int) = k + x.rank := by omega
    rw [e]
    exact ⟨rfl, rfl⟩

theorem fn40s (f0 x : Fm) (k : Int) (h0 : 0 ≤ k) (hk : k + x.rank < 4611686018427387904) : PCall Tryd.prog G 66 [.yld 2, .iptr (fmCells x)] (h15 f0 k) (fun _ H' => H' = h15 f0 (k + x.rank)) := by
  refine PCall.walk (fn := Tryd.f66) (code := bodyOf Tryd.f66) mixed L0 Tryd.func66 (by kernel_rfl) rfl ⟨[], _, rfl⟩ (ok0 (by kernel_rfl)) ?_
  apply @of_vc _ (
    PCall Tryd.prog G (67 : Nat) [AV.d (D.agg [D.int IntKind.i64 (Fm.kind x), D.str (Fm.name x), D.int IntKind.i64 (Fm.n x), D.sl (List.map Tm.d (Fm.ts x)), D.sl (List.map Bd.d (Fm.bs x)),
    D.sl (List.map Fm.d (Fm.l x))]), AV.yld (2 : Nat)] [Box.cells (33 : Nat) [AV.d (D.int IntKind.i64 (Fm.kind f0)), AV.d (D.str (Fm.name f0)), AV.d (D.int IntKind.i64 (Fm.n f0)), AV.d (D.sl
    (List.map Tm.d (Fm.ts f0))), AV.d (D.sl (List.map Bd.d (Fm.bs f0))), AV.d (D.sl (List.map Fm.d (Fm.l f0)))], Box.cells (3 : Nat) [AV.d (D.int IntKind.i64 k)], Box.loop [AV.any, AV.any,
    AV.any, AV.ptr (1 : Nat) (0 : Nat), AV.any, AV.any, AV.any, AV.any, AV.any, AV.any] (rpPs c15) (rpAsn c15) (rpBd c15) none LoopState.ready] fun (rs : List D) (H' : List Box) => ∃ (b :
    Bool), rs = [D.bool b] ∧ ∃ (n : Int), ∃ (s : List UInt8), ∃ (n_1 : Int), ∃ (l : List D), ∃ (l_1 : List D), ∃ (l_2 : List D), ∃ (n_2 : Int), ∃ (pend : Option Code), ∃ (st : LoopState), H'
    = [Box.cells (33 : Nat) [AV.d (D.int IntKind.i64 n), AV.d (D.str s), AV.d (D.int IntKind.i64 n_1), AV.d (D.sl l), AV.d (D.sl l_1), AV.d (D.sl l_2)], Box.cells (3 : Nat) [AV.d (D.int
    IntKind.i64 n_2)], Box.loop [AV.any, AV.any, AV.any, AV.ptr (1 : Nat) (0 : Nat), AV.any, AV.any, AV.any, AV.any, AV.any, AV.any] (rpPs c15) (rpAsn c15) (rpBd c15) pend st] ∧ [Box.cells
    (33 : Nat) [AV.d (D.int IntKind.i64 n), AV.d (D.str s), AV.d (D.int IntKind.i64 n_1), AV.d (D.sl l), AV.d (D.sl l_1), AV.d (D.sl l_2)], Box.cells (3 : Nat) [AV.d (D.int IntKind.i64
    n_2)], Box.loop [AV.any, AV.any, AV.any, AV.ptr (1 : Nat) (0 : Nat), AV.any, AV.any, AV.any, AV.any, AV.any, AV.any] (rpPs c15) (rpAsn c15) (rpBd c15) pend st] = [Box.cells (33 : Nat)
    [AV.d (D.int IntKind.i64 (Fm.kind f0)), AV.d (D.str (Fm.name f0)), AV.d (D.int IntKind.i64 (Fm.n f0)), AV.d (D.sl (List.map Tm.d (Fm.ts f0))), AV.d (D.sl (List.map Bd.d (Fm.bs f0))),
    AV.d (D.sl (List.map Fm.d (Fm.l f0)))], Box.cells (3 : Nat) [AV.d (D.int IntKind.i64 (k + (↑(Fm.rank x) : Int)))], Box.loop [AV.any, AV.any, AV.any, AV.ptr (1 : Nat) (0 : Nat), AV.any,
    AV.any, AV.any, AV.any, AV.any, AV.any] (rpPs c15) (rpAsn c15) (rpBd c15) none LoopState.ready])
  · kernel_rfl
  have h := fn41s (G := G) f0 x k h0 hk
  rw [d_cells] at h
  refine h.mono ?_
  rintro rs H' ⟨rfl, rfl⟩
  exact ⟨true, rfl, _, _, _, _, _, _, _, _, _, rfl, rfl⟩

theorem fn15 (f : Fm) (hf : f.rank < 4611686018427387904) : PFn Tryd.prog G 47 [f.d] (· = [.int .i64 f.rank]) := by
  rw [f.d_eq]
  refine PFn.walk (fn := Tryd.f47) (code := bodyOf Tryd.f47) mixed
    (LL [(1000002, rangeW Tryd.prog G [3] itAll c15)])
    Tryd.func47 (by kernel_rfl) ⟨_, rfl⟩ (LoopsOk.one (b1 := loopN (bodyOf Tryd.f47) 0) (by kernel_rfl) (by kernel_rfl) (rangeW_sound (by kernel_rfl))) ?_
  apply @of_vc _ (
    (PFnA Tryd.prog G (45 : Nat) [D.agg [D.int IntKind.i64 (Fm.kind f), D.str (Fm.name f), D.int IntKind.i64 (Fm.n f), D.sl (List.map Tm.d (Fm.ts f)), D.sl (List.map Bd.d (Fm.bs f)), D.sl
    (List.map Fm.d (Fm.l f))]] fun (av : AV) => av = AV.clo (66 : Nat) [] [AV.iptr [D.int IntKind.i64 (Fm.kind f), D.str (Fm.name f), D.int IntKind.i64 (Fm.n f), D.sl (List.map Tm.d (Fm.ts
    f)), D.sl (List.map Bd.d (Fm.bs f)), D.sl (List.map Fm.d (Fm.l f))]]) ∧ PCall Tryd.prog G (66 : Nat) [AV.yld (2 : Nat), AV.iptr [D.int IntKind.i64 (Fm.kind f), D.str (Fm.name f), D.int
    IntKind.i64 (Fm.n f), D.sl (List.map Tm.d (Fm.ts f)), D.sl (List.map Bd.d (Fm.bs f)), D.sl (List.map Fm.d (Fm.l f))]] [Box.cells (33 : Nat) [AV.d (D.int IntKind.i64 (Fm.kind f)), AV.d
    (D.str (Fm.name f)), AV.d (D.int IntKind.i64 (Fm.n f)), AV.d (D.sl (List.map Tm.d (Fm.ts f))), AV.d (D.sl (List.map Bd.d (Fm.bs f))), AV.d (D.sl (List.map Fm.d (Fm.l f)))], Box.cells (3
    : Nat) [AV.d (D.int IntKind.i64 (0 : Int))], Box.loop [AV.any, AV.any, AV.any, AV.ptr (1 : Nat) (0 : Nat), AV.any, AV.any, AV.any, AV.any, AV.any, AV.any] (rpPs c15) (rpAsn c15) (rpBd
    c15) none LoopState.ready] fun (x : List D) (H' : List Box) => ∃ (n : Int), ∃ (s : List UInt8), ∃ (n_1 : Int), ∃ (l : List D), ∃ (l_1 : List D), ∃ (l_2 : List D), ∃ (n_2 : Int), ∃ (pend
    : Option Code), ∃ (st : LoopState), H' = [Box.cells (33 : Nat) [AV.d (D.int IntKind.i64 n), AV.d (D.str s), AV.d (D.int IntKind.i64 n_1), AV.d (D.sl l), AV.d (D.sl l_1), AV.d (D.sl
    l_2)], Box.cells (3 : Nat) [AV.d (D.int IntKind.i64 n_2)], Box.loop [AV.any, AV.any, AV.any, AV.ptr (1 : Nat) (0 : Nat), AV.any, AV.any, AV.any, AV.any, AV.any, AV.any] (rpPs c15) (rpAsn
    c15) (rpBd c15) pend st] ∧ st ≠ LoopState.busy ∧ (pend = none ∧ [D.int IntKind.i64 n_2] = [D.int IntKind.i64 (↑(Fm.rank f) : Int)] ∨ pend = some Code.ret ∧ [D.int IntKind.i64 (0 : Int)]
    = [D.int IntKind.i64 (↑(Fm.rank f) : Int)] ∨ pend = some (Code.exit (rpJ c15)) ∧ [D.int IntKind.i64 n_2] = [D.int IntKind.i64 (↑(Fm.rank f) : Int)]))
  · kernel_rfl
  refine ⟨fn30 f, ?_⟩
  refine (fn40s f f 0 (by omega) (by omega)).mono ?_
  rintro rs H' rfl
  exact ⟨_, _, _, _, _, _, _, _, _, rfl, by decide, .inl ⟨rfl, by simp⟩⟩
end
end Go.Fo
/- The laying of strings.Trim and all that it calls at this program: written by the kit's tool lay-plain. -/
namespace Go.Proofs
open Go.Shelf
def Tryd.lays160_ren : Go.Shelf.Ren := ⟨fun | 160 => 88 | 232 => 93 | 231 => 92 | 227 => 94 | 234 => 96 | 233 => 95 | 236 => 98 | 235 => 97 | 228 => 99 | 271 => 102 | 151 => 101 | 197 => 100 | 120 => 105 | 152 => 104 | 260 => 103 | 137 => 106 | 119 => 107 | 224 => 108 | 225 => 109 | 217 => 110 | 266 => 111 | n => n, fun | 9 => 9 | 4 => 4 | 3 => 3 | 5 => 5 | 117 => 107 | 116 => 106 | 0 => 0 | 124 => 110 | 21 => 21 | 105 => 112 | 46 => 117 | 119 => 116 | 139 => 120 | 138 => 119 | n => n, fun | 3 => 6 | 4 => 7 | n => n⟩
theorem Tryd.lays160 : Go.Proofs.Lays.n160 Tryd.prog Tryd.lays160_ren := {
  mixed := by kernel_rfl
  f119 := Tryd.func107.trans (congrArg some (by kernel_rfl))
  f120 := Tryd.func105.trans (congrArg some (by kernel_rfl))
  f137 := Tryd.func106.trans (congrArg some (by kernel_rfl))
  f151 := Tryd.func101.trans (congrArg some (by kernel_rfl))
  f152 := Tryd.func104.trans (congrArg some (by kernel_rfl))
  f160 := Tryd.func88.trans (congrArg some (by kernel_rfl))
  f197 := Tryd.func100.trans (congrArg some (by kernel_rfl))
  f217 := Tryd.func110.trans (congrArg some (by kernel_rfl))
  f224 := Tryd.func108.trans (congrArg some (by kernel_rfl))
  f225 := Tryd.func109.trans (congrArg some (by kernel_rfl))
  f227 := Tryd.func94.trans (congrArg some (by kernel_rfl))
  f228 := Tryd.func99.trans (congrArg some (by kernel_rfl))
  f231 := Tryd.func92.trans (congrArg some (by kernel_rfl))
  f232 := Tryd.func93.trans (congrArg some (by kernel_rfl))
  f233 := Tryd.func95.trans (congrArg some (by kernel_rfl))
  f234 := Tryd.func96.trans (congrArg some (by kernel_rfl))
  f235 := Tryd.func97.trans (congrArg some (by kernel_rfl))
  f236 := Tryd.func98.trans (congrArg some (by kernel_rfl))
  f260 := Tryd.func103.trans (congrArg some (by kernel_rfl))
  f266 := Tryd.func111.trans (congrArg some (by kernel_rfl))
  f271 := Tryd.func102.trans (congrArg some (by kernel_rfl))
  t0 := Tryd.underlying0
  a0 := Tryd.isAgg0
  z0 := Tryd.sizeOf0
  v0 := Tryd.zeroValue0
  t3 := Tryd.underlying3
  a3 := Tryd.isAgg3
  z3 := Tryd.sizeOf3
  v3 := Tryd.zeroValue3
  t4 := Tryd.underlying4
  a4 := Tryd.isAgg4
  z4 := Tryd.sizeOf4
  v4 := Tryd.zeroValue4
  t5 := Tryd.underlying5
  a5 := Tryd.isAgg5
  z5 := Tryd.sizeOf5
  v5 := Tryd.zeroValue5
  t9 := Tryd.underlying9
  a9 := Tryd.isAgg9
  z9 := Tryd.sizeOf9
  v9 := Tryd.zeroValue9
  t21 := Tryd.underlying21
  a21 := Tryd.isAgg21
  z21 := Tryd.sizeOf21
  v21 := Tryd.zeroValue21
  t46 := Tryd.underlying117
  a46 := Tryd.isAgg117
  z46 := Tryd.sizeOf117
  v46 := Tryd.zeroValue117
  t105 := Tryd.underlying112
  a105 := Tryd.isAgg112
  z105 := Tryd.sizeOf112
  v105 := Tryd.zeroValue112
  t116 := Tryd.underlying106
  a116 := Tryd.isAgg106
  z116 := Tryd.sizeOf106
  t117 := Tryd.underlying107
  a117 := Tryd.isAgg107
  z117 := Tryd.sizeOf107
  v117 := Tryd.zeroValue107
  t119 := Tryd.underlying116
  a119 := Tryd.isAgg116
  z119 := Tryd.sizeOf116
  t124 := Tryd.underlying110
  a124 := Tryd.isAgg110
  z124 := Tryd.sizeOf110
  v124 := Tryd.zeroValue110
  t138 := Tryd.underlying119
  a138 := Tryd.isAgg119
  z138 := Tryd.sizeOf119
  v138 := Tryd.zeroValue119
  t139 := Tryd.underlying120
  a139 := Tryd.isAgg120
  z139 := Tryd.sizeOf120
  v139 := Tryd.zeroValue120
  g3 := by kernel_rfl
  g4 := by kernel_rfl }
end Go.Proofs
/- Names: two tests that agree. -/
namespace Go.Fo
open Go Go.Sx
set_option maxRecDepth 100000

def cut49 : List UInt8 := [97, 98, 99, 100, 101, 102, 103, 104, 105, 106, 107, 108, 109, 110, 111, 112, 113, 114, 115, 116, 117, 118, 119, 120, 121, 122, 48, 49, 50, 51, 52, 53, 54, 55, 56, 57, 95]
def words : List (List UInt8) := [[104, 97, 114, 100], [115, 111, 102, 116], [101, 97, 99, 104], [97, 108, 108], [115, 111, 109, 101], [108, 101, 97, 115, 116], [109, 111, 115, 116], [116, 114, 117, 101], [102, 97, 108, 115, 101], [97, 116], [105, 110], [116, 101, 97, 99, 104, 101, 115], [97, 116, 116, 101, 110, 100, 115], [97, 119, 97, 121], [115, 104, 117, 116], [100, 97, 121], [104, 111, 117, 114], [104, 111, 117, 115, 101], [115, 101, 97, 116, 115], [115, 105, 122, 101], [108, 101, 115, 115, 111, 110], [115, 108, 111, 116], [114, 111, 111, 109], [112, 101, 114, 115, 111, 110], [103, 114, 111, 117, 112]]
def namedB (s : List UInt8) : Bool := !(s == [] || decide (s.length > 64) || words.contains s) && (Lib.trimS s cut49 == [] && decide (97 ≤ (s.getD 0 0).toNat))

theorem dropWhile_nil {p : UInt8 → Bool} : ∀ {l : List UInt8}, l.dropWhile p = [] ↔ ∀ x ∈ l, p x = true
  | [] => by simp
  | a :: l => by
    rw [List.dropWhile_cons]
    cases h : p a with
    | true => simp [h, dropWhile_nil (l := l)]
    | false => simp [h]
theorem head_drop {p : UInt8 → Bool} : ∀ {l : List UInt8} {a : UInt8} {r : List UInt8}, l.dropWhile p = a :: r → p a = false
  | [], _, _, h => by simp at h
  | b :: l, a, r, h => by
    rw [List.dropWhile_cons] at h
    cases hb : p b with
    | true => rw [hb] at h; exact head_drop (l := l) h
    | false => rw [hb] at h; simp at h; rw [← h.1]; exact hb

theorem trimS_nil {s cs : List UInt8} : Lib.trimS s cs = [] ↔ ∀ b ∈ s, cs.contains b = true := by
  unfold Lib.trimS Lib.trimLeftS
  rw [dropWhile_nil]
  unfold Lib.trimRightS
  simp only [List.mem_reverse]
  constructor
  · intro h
    have h0 : s.reverse.dropWhile (fun x => cs.contains x) = [] := by
      cases h1 : s.reverse.dropWhile (fun x => cs.contains x) with
      | nil => rfl
      | cons a r =>
        have h2 := head_drop h1
        have h3 := h a (by rw [h1]; simp)
        rw [h3] at h2; cases h2
    rw [dropWhile_nil] at h0
    intro b hb
    exact h0 b (by simpa using hb)
  · intro h x hx
    exact h x (by simpa using (List.dropWhile_sublist _).subset hx)

theorem cut_all : ∀ n : Nat, n < 256 → cut49.contains (UInt8.ofNat n) = (letB (UInt8.ofNat n) || digB (UInt8.ofNat n) || decide ((UInt8.ofNat n).toNat = 95)) := by decide +kernel
theorem cut_byte (b : UInt8) : cut49.contains b = (letB b || digB b || decide (b.toNat = 95)) := by
  have := cut_all b.toNat b.toNat_lt
  simpa using this

theorem stands_at : ∀ i : Nat, i < 135 → resS[i]? = some 32 → (resS.drop (i + 1)).takeWhile (· != 32) = [] ∨ words.contains ((resS.drop (i + 1)).takeWhile (· != 32)) = true := by decide +kernel
theorem res_len : resS.length = 135 := by decide
theorem stands_words : words.all (fun s => standsB resS (32 :: s ++ [32])) = true := by decide +kernel

theorem stands_iff {s : List UInt8} (hs : ∀ b ∈ s, b ≠ 32) (h1 : s ≠ []) : standsB resS (32 :: s ++ [32]) = words.contains s := by
  cases hw : words.contains s with
  | true =>
    exact List.all_eq_true.1 stands_words s (by simpa using hw)
  | false =>
    cases h : standsB resS (32 :: s ++ [32]) with
    | false => rfl
    | true =>
      obtain ⟨i, hi, he⟩ := standsB_iff.1 h
      have hi' : i < 135 := by have := res_len; simp at hi; omega
      have hd : ∃ t, resS.drop i = 32 :: (s ++ [32] ++ t) := by
        refine ⟨(resS.drop i).drop (32 :: s ++ [32]).length, ?_⟩
        have := List.take_append_drop (32 :: s ++ [32]).length (resS.drop i)
        rw [he] at this
        rw [← this]; simp
      obtain ⟨t, ht⟩ := hd
      have h32 : resS[i]? = some 32 := by
        have : (resS.drop i)[0]? = some 32 := by rw [ht]; rfl
        simpa using this
      have hd1 : resS.drop (i + 1) = s ++ [32] ++ t := by
        have : (resS.drop i).tail = s ++ [32] ++ t := by rw [ht]; rfl
        rw [← this]; simp
      have htw : (resS.drop (i + 1)).takeWhile (· != 32) = s := by
        rw [hd1, List.append_assoc, List.takeWhile_append_of_pos (fun b hb => by simpa using hs b hb)]
        simp
      rcases stands_at i hi' h32 with h3 | h3
      · rw [htw] at h3; exact absurd h3 h1
      · rw [htw, hw] at h3; cases h3

theorem namedB_eq (s : List UInt8) : namedB s = nameB s := by
  have hnil : s = [] → namedB s = nameB s := by rintro rfl; rfl
  rcases Classical.em (s = []) with h0 | h0
  · exact hnil h0
  have hlen : 1 ≤ s.length := by
    cases s with
    | nil => exact absurd rfl h0
    | cons a r => simp
  -- both say: every byte in the set, the first a letter, at most 64, no word
  have hA : wordB s = (decide (s.length ≤ 64) && (Lib.trimS s cut49 == [] && decide (97 ≤ (s.getD 0 0).toNat))) := by
    rw [Bool.eq_iff_iff]
    simp only [wordB, Bool.and_eq_true, List.all_eq_true, List.mem_range, decide_eq_true_eq, beq_iff_eq, trimS_nil]
    constructor
    · rintro ⟨⟨h1, h2⟩, h3⟩
      refine ⟨h3, fun b hb => ?_, ?_⟩
      · obtain ⟨i, hi, rfl⟩ := List.mem_iff_getElem.1 hb
        have := h1 i hi
        rw [List.getD_eq_getElem?_getD, List.getElem?_eq_getElem hi, Option.getD_some] at this
        rw [cut_byte]
        unfold okAt at this
        cases hl : letB s[i] with
        | true => rfl
        | false =>
          rw [hl] at this
          simp only [Bool.false_or, Bool.and_eq_true] at this ⊢
          exact this.2
      · have := h1 0 (by omega)
        unfold okAt letB at this
        simp only [ne_eq, not_true_eq_false, decide_false, Bool.false_and, Bool.or_false, Bool.and_eq_true, decide_eq_true_eq] at this
        exact this.1
    · rintro ⟨h1, h2, h3⟩
      refine ⟨⟨fun i hi => ?_, hlen⟩, h1⟩
      rw [List.getD_eq_getElem?_getD, List.getElem?_eq_getElem hi, Option.getD_some]
      have h4 := h2 s[i] (List.getElem_mem hi)
      rw [cut_byte] at h4
      unfold okAt
      cases hl : letB s[i] with
      | true => rfl
      | false =>
        rw [hl] at h4
        simp only [Bool.false_or, Bool.and_eq_true] at h4 ⊢
        refine ⟨?_, h4⟩
        simp only [ne_eq, decide_eq_true_eq]
        rintro rfl
        rw [List.getD_eq_getElem?_getD, List.getElem?_eq_getElem hi, Option.getD_some] at h3
        unfold letB at hl
        unfold digB at h4
        simp only [Bool.or_eq_true, Bool.and_eq_true, decide_eq_true_eq, Bool.and_eq_false_iff, decide_eq_false_iff_not] at h4 hl
        omega
  have hB : (s == []) = false := by simpa using h0
  cases hw : wordB s with
  | false =>
    rw [nameB, hw, Bool.false_and]
    rw [hw] at hA
    unfold namedB
    rw [hB, Bool.false_or]
    cases hl : decide (s.length ≤ 64) with
    | true =>
      rw [hl, Bool.true_and] at hA
      rw [← hA, Bool.and_false]
    | false =>
      have : decide (s.length > 64) = true := by simp at hl ⊢; omega
      rw [this]; rfl
  | true =>
    rw [nameB, hw, Bool.true_and]
    rw [hw] at hA
    have h1 := hA.symm
    simp only [Bool.and_eq_true] at h1
    obtain ⟨h2, h3⟩ := h1
    have hn32 : ∀ b ∈ s, b ≠ 32 := by
      have h4 : Lib.trimS s cut49 = [] := by simpa using h3.1
      rw [trimS_nil] at h4
      intro b hb e
      have := h4 b hb
      rw [e] at this
      revert this; decide
    rw [stands_iff hn32 h0]
    unfold namedB
    have h5 : decide (s.length > 64) = false := by simp at h2 ⊢; omega
    rw [hB, h5, h3.1, h3.2]
    simp
end Go.Fo
/- Names: the program's own test by strings.Trim; terms. -/
namespace Go.Fo
open Go Go.Sx Go.Proofs
set_option maxRecDepth 100000

/-- The package's maps: arity, signs, duals, reserved. -/
structure Maps where
  ar : List (D × D)
  si : List (D × D)
  du : List (D × D)
  re : List (D × D)
  nd : Bool

def pairs (l : List (Int × Int)) : List D := (l.map fun p => [D.int .i64 p.1, D.int .i64 p.2]).flatten
def takL : List (Int × Int) := [(0, 0), (0, 0), (0, 0), (2, 6), (2, 8), (3, 7), (3, 8), (1, 8)]
def askL : List (Int × Int) := [(0, 0), (0, 0), (0, 0), (1, 2), (1, 3), (4, 1), (5, 1), (4, 2), (3, 2)]
def GG (M : Maps) : Nat → Option (List D)
  | 0 => some (pairs takL)
  | 1 => some (pairs askL)
  | 2 => some [.gmap M.ar]
  | 3 => some [.gmap M.si]
  | 4 => match M.nd with
    | true => none
    | false => some [.gmap M.du]
  | 5 => some [.gmap M.re]
  | _ => none

/-- With the duals. -/
abbrev Maps.on (M : Maps) : Maps := ⟨M.ar, M.si, M.du, M.re, false⟩
def arL : List (Int × Int) := [(1, 0), (2, 0), (3, 0), (4, 0), (5, 0), (6, 0), (7, 0), (8, 0), (9, 0), (10, 1), (11, 2), (12, 2), (13, 2), (14, 1), (15, 1), (16, 1), (17, 1)]
def duL : List (Int × Int) := [(1, 2), (2, 1), (11, 12), (12, 11), (14, 15), (15, 14), (16, 17), (17, 16)]
def siL : List (List UInt8 × List UInt8) := [([33, 61], [61]), ([60], [62, 61]), ([60, 61], [62]), ([61], [33, 61]), ([62], [60, 61]), ([62, 61], [60])]

structure Maps.Ok (M : Maps) : Prop where
  arA : (M.ar.all fun kv => sameKind (.int .i64 0) kv.1 && Sh.ok (.int .i64) kv.2) = true
  siA : (M.si.all fun kv => sameKind (.str []) kv.1 && Sh.ok .str kv.2) = true
  duA : (M.du.all fun kv => sameKind (.int .i64 0) kv.1 && Sh.ok (.int .i64) kv.2) = true
  reA : (M.re.all fun kv => sameKind (.str []) kv.1 && Sh.ok .bool kv.2) = true
  arG : ∀ k, lookD M.ar (.int .i64 k) = (arL.lookup k).map (.int .i64)
  siG : ∀ s, lookD M.si (.str s) = (siL.lookup s).map .str
  duG : ∀ k, lookD M.du (.int .i64 k) = (duL.lookup k).map (.int .i64)
  reG : ∀ s, lookD M.re (.str s) = if words.contains s then some (.bool true) else none

theorem Maps.Ok.on {M : Maps} (h : M.Ok) : M.on.Ok := ⟨h.arA, h.siA, h.duA, h.reA, h.arG, h.siG, h.duG, h.reG⟩
theorem same_str (s : List UInt8) (x : D) : sameKind (.str s) x = sameKind (.str []) x := by cases x <;> rfl
theorem same_int (k : Int) (x : D) : sameKind (.int .i64 k) x = sameKind (.int .i64 0) x := by cases x <;> rfl

section
variable {G : Nat → Option (List D)} {M : Maps}
theorem fn64 (s : List UInt8) (hs : s.length ≤ 9223372036854775807) : PFn Tryd.prog G 88 [.str s, .str cut49] (· = [.str (Lib.trimS s cut49)]) := by
  refine PFn.of_calls (v := .string ⟨(Lib.trimS s cut49).toArray⟩) (fun I J w => R1.str _) fun c w vs hρ hr hvs => ?_
  obtain ⟨v1, vs1, rfl, h1, h2⟩ := hvs.cons_right
  obtain ⟨v2, vs2, rfl, h3, h4⟩ := h2.cons_right
  have := h4.nil_right; subst this
  cases h1; cases h3
  have h := Any.strings_Trim_laid Tryd.lays160 (by kernel_rfl) ⟨s.toArray⟩ ⟨cut49.toArray⟩ w (by rw [size_mk]; exact hs) (by decide) (ascii_of_all (by decide))
  exact h

theorem fn49 (hM : M.Ok) (s : List UInt8) (hs : s.length ≤ 9223372036854775807) : PFn Tryd.prog (GG M) 75 [.str s] (· = [.bool (nameB s)]) := by
  rw [← namedB_eq]
  refine PFn.walk (fn := Tryd.f75) (code := bodyOf Tryd.f75) mixed L0 Tryd.func75 (by kernel_rfl) ⟨_, rfl⟩ (ok0 (by kernel_rfl)) ?_
  apply @of_vc _ (
    ((bif s == Array.toList (ByteArray.data (ByteArray.mk #[])) then true else decide ((↑(List.length s) : Int) > (64 : Int))) = false → (List.all (Maps.re M) fun (kv : D × D) => sameKind
    (D.str s) (Prod.fst kv) && Sh.ok Sh.bool (Prod.snd kv)) = true) ∧ ((bif bif s == Array.toList (ByteArray.data (ByteArray.mk #[])) then true else decide ((↑(List.length s) : Int) > (64 :
    Int)) then true else D.toBool (Option.getD (lookD (Maps.re M) (D.str s)) (D.bool false))) = true → [D.bool false] = [D.bool (namedB s)]) ∧ ((bif bif s == Array.toList (ByteArray.data
    (ByteArray.mk #[])) then true else decide ((↑(List.length s) : Int) > (64 : Int)) then true else D.toBool (Option.getD (lookD (Maps.re M) (D.str s)) (D.bool false))) = false → PFn
    Tryd.prog (GG M) (88 : Nat) [D.str s, D.str (Array.toList (ByteArray.data (ByteArray.mk #[(97 : UInt8), (98 : UInt8), (99 : UInt8), (100 : UInt8), (101 : UInt8), (102 : UInt8), (103 :
    UInt8), (104 : UInt8), (105 : UInt8), (106 : UInt8), (107 : UInt8), (108 : UInt8), (109 : UInt8), (110 : UInt8), (111 : UInt8), (112 : UInt8), (113 : UInt8), (114 : UInt8), (115 :
    UInt8), (116 : UInt8), (117 : UInt8), (118 : UInt8), (119 : UInt8), (120 : UInt8), (121 : UInt8), (122 : UInt8), (48 : UInt8), (49 : UInt8), (50 : UInt8), (51 : UInt8), (52 : UInt8), (53
    : UInt8), (54 : UInt8), (55 : UInt8), (56 : UInt8), (57 : UInt8), (95 : UInt8)])))] fun (rs : List D) => ∃ (s_1 : List UInt8), rs = [D.str s_1] ∧ ((s_1 == Array.toList (ByteArray.data
    (ByteArray.mk #[]))) = true → (0 : Int) ≤ (0 : Int) ∧ Int.toNat (0 : Int) < List.length s) ∧ [D.bool (bif s_1 == Array.toList (ByteArray.data (ByteArray.mk #[])) then decide
    ((↑(UInt8.toNat (List.getD s (Int.toNat (0 : Int)) (0 : UInt8))) : Int) ≥ (97 : Int)) else false)] = [D.bool (namedB s)]))
  · kernel_rfl
  have hr : D.toBool (Option.getD (lookD (Maps.re M) (D.str s)) (D.bool false)) = words.contains s := by
    rw [hM.reG]
    cases words.contains s <;> rfl
  have e0 : Array.toList (ByteArray.data { data := #[] }) = ([] : List UInt8) := rfl
  have e1 : decide ((s.length : Int) > 64) = decide (s.length > 64) := by rw [Bool.eq_iff_iff]; simp; omega
  simp only [hr, e0, e1, bif_or, same_str s]
  refine ⟨fun _ => hM.reA, fun h => ?_, fun h => ?_⟩
  · simp only [namedB, h, Bool.not_true, Bool.false_and]
  · refine (fn64 s hs).mono ?_
    rintro rs rfl
    refine ⟨_, rfl, fun h2 => ⟨by omega, ?_⟩, ?_⟩
    · show 0 < s.length
      cases s with
      | nil => simp at h
      | cons a r => simp
    · simp only [namedB, h, Bool.not_false, Bool.true_and, bif_and]
      congr 3
      rw [Bool.eq_iff_iff]; simp; omega

theorem fn46 (hM : M.Ok) (t : Tm) (hs : t.name.length ≤ 9223372036854775807) : PFn Tryd.prog (GG M) 72 [t.d] (· = [.bool (termB t)]) := by
  unfold Tm.d
  refine PFn.walk (fn := Tryd.f72) (code := bodyOf Tryd.f72) mixed L0 Tryd.func72 (by kernel_rfl) ⟨_, rfl⟩ (ok0 (by kernel_rfl)) ?_
  apply @of_vc _ (
    ((Tm.kind t == (1 : Int)) = true → PFn Tryd.prog (GG M) (76 : Nat) [D.int IntKind.i64 (Tm.n t)] fun (rs : List D) => ∃ (b : Bool), rs = [D.bool b] ∧ [D.bool (bif Tm.name t ==
    Array.toList (ByteArray.data (ByteArray.mk #[])) then b else false)] = [D.bool (termB t)]) ∧ ((Tm.kind t == (1 : Int)) = false → PFn Tryd.prog (GG M) (75 : Nat) [D.str (Tm.name t)] fun
    (rs : List D) => ∃ (b : Bool), rs = [D.bool b] ∧ [D.bool (bif bif bif decide (Tm.kind t ≥ (2 : Int)) then decide (Tm.kind t ≤ (7 : Int)) else false then b else false then Tm.n t == (0 :
    Int) else false)] = [D.bool (termB t)]))
  · kernel_rfl
  have e0 : Array.toList (ByteArray.data { data := #[] }) = ([] : List UInt8) := rfl
  refine ⟨fun h => ?_, fun h => ?_⟩
  · refine (fn51 t.n).mono ?_
    rintro rs rfl
    refine ⟨_, rfl, ?_⟩
    simp only [beq_iff_eq] at h
    simp only [termB, if_pos h, bif_and, e0]
  · refine (fn49 hM t.name hs).mono ?_
    rintro rs rfl
    refine ⟨_, rfl, ?_⟩
    have h' : ¬ t.kind = 1 := by simpa using h
    simp only [termB, if_neg h', bif_and, ge_iff_le]

noncomputable def h31 (f : Fm) : List Box := [.cells 33 (fmAVs f)]
def odd1 (f : Fm) (t : Tm) : Bool := !termB t || (f.kind != 9 && t.kind != 2)
theorem fn45 (hM : M.Ok) (f : Fm) (t : Tm) (hs : t.name.length ≤ 9223372036854775807) : PCall Tryd.prog (GG M) 71 [.d t.d, .ptr 0 0] (h31 f) (fun rs H' => rs = [.bool (odd1 f t)] ∧ H' = h31 f) := by
  have h46 := fn46 hM t hs
  unfold Tm.d at h46 ⊢
  refine PCall.walk (fn := Tryd.f71) (code := bodyOf Tryd.f71) mixed L0 Tryd.func71 (by kernel_rfl) rfl ⟨_, _, rfl, rfl⟩ (ok0 (by kernel_rfl)) ?_
  apply @of_vc _ (
    PFn Tryd.prog (GG M) (72 : Nat) [D.agg [D.int IntKind.i64 (Tm.kind t), D.str (Tm.name t), D.int IntKind.i64 (Tm.n t)]] fun (rs : List D) => ∃ (b : Bool), rs = [D.bool b] ∧ [D.bool (bif
    !b then true else bif Fm.kind f != (9 : Int) then Tm.kind t != (2 : Int) else false)] = [D.bool (odd1 f t)] ∧ [Box.cells (33 : Nat) [AV.d (D.int IntKind.i64 (Fm.kind f)), AV.d (D.str
    (Fm.name f)), AV.d (D.int IntKind.i64 (Fm.n f)), AV.d (D.sl (List.map Tm.d (Fm.ts f))), AV.d (D.sl (List.map Bd.d (Fm.bs f))), AV.d (D.sl (List.map Fm.d (Fm.l f)))]] = [Box.cells (33 :
    Nat) [AV.d (D.int IntKind.i64 (Fm.kind f)), AV.d (D.str (Fm.name f)), AV.d (D.int IntKind.i64 (Fm.n f)), AV.d (D.sl (List.map Tm.d (Fm.ts f))), AV.d (D.sl (List.map Bd.d (Fm.bs f))),
    AV.d (D.sl (List.map Fm.d (Fm.l f)))]])
  · kernel_rfl
  refine h46.mono ?_
  rintro rs rfl
  refine ⟨_, rfl, ?_, rfl⟩
  simp only [odd1, bif_or, bif_and]

theorem fn63 (hM : M.Ok) (f : Fm) (ts : List Tm) (hl : ts.length < 4611686018427387904) (hs : ∀ t ∈ ts, t.name.length ≤ 9223372036854775807) :
    PCall Tryd.prog (GG M) 87 [.d (.sl (ts.map Tm.d)), .clo 71 [] [.ptr 0 0]] (h31 f) (fun rs H' => (∃ r : Int, rs = [.int .i64 r] ∧ decide (r ≥ 0) = ts.any (odd1 f)) ∧ H' = h31 f) := by
  refine PCall.walk (fn := Tryd.f87) (code := bodyOf Tryd.f87) mixed
    (LL [(2, loopW (α := Nat) Tryd.prog (GG M) L0 1 (loopN (bodyOf Tryd.f87) 0) [0, 1, 7] (fun i => i ≤ ts.length ∧ (ts.take i).any (odd1 f) = false) (fun i => ts.length - i)
      (fun i => [(8, .d (.int .i64 i))]) (fun H _ => H))])
    Tryd.func87 (by kernel_rfl) rfl ⟨_, _, ⟨if ts.any (odd1 f) then 0 else -1, rfl, by cases ts.any (odd1 f) <;> rfl⟩, rfl⟩ (LoopsOk.one (b1 := loopN (bodyOf Tryd.f87) 0) (by kernel_rfl) (by kernel_rfl) (loopW_sound mixed (ok0 (by kernel_rfl)))) ?_
  apply @of_vc _ (
    ∃ (x0 : Nat), (x0 ≤ List.length ts ∧ List.any (List.take x0 ts) (odd1 f) = false) ∧ ((List.map Tm.d ts = List.map Tm.d ts ∧ AV.clo (71 : Nat) [] [AV.ptr (0 : Nat) (0 : Nat)] = AV.clo (71
    : Nat) [] [AV.ptr (0 : Nat) (0 : Nat)] ∧ (↑(List.length (List.map Tm.d ts)) : Int) = (↑(List.length (List.map Tm.d ts)) : Int) ∧ (0 : Int) = (↑x0 : Int) ∧ True) ∧ (Fm.kind f = Fm.kind f
    ∧ Fm.name f = Fm.name f ∧ Fm.n f = Fm.n f ∧ List.map Tm.d (Fm.ts f) = List.map Tm.d (Fm.ts f) ∧ List.map Bd.d (Fm.bs f) = List.map Bd.d (Fm.bs f) ∧ List.map Fm.d (Fm.l f) = List.map Fm.d
    (Fm.l f) ∧ True) ∧ True) ∧ ∀ (x : Nat), x ≤ List.length ts ∧ List.any (List.take x ts) (odd1 f) = false → (decide ((↑x : Int) < (↑(List.length (List.map Tm.d ts)) : Int)) = true → ((0 :
    Int) ≤ (↑x : Int) ∧ (List.map Tm.d ts)[Int.toNat (↑x : Int)]? = some (aggAt [Sh.int IntKind.i64, Sh.str, Sh.int IntKind.i64] (List.map Tm.d ts) (Int.toNat (↑x : Int)))) ∧ PCall Tryd.prog
    (GG M) (71 : Nat) [AV.d (aggAt [Sh.int IntKind.i64, Sh.str, Sh.int IntKind.i64] (List.map Tm.d ts) (Int.toNat (↑x : Int))), AV.ptr (0 : Nat) (0 : Nat)] [Box.cells (33 : Nat) [AV.d (D.int
    IntKind.i64 (Fm.kind f)), AV.d (D.str (Fm.name f)), AV.d (D.int IntKind.i64 (Fm.n f)), AV.d (D.sl (List.map Tm.d (Fm.ts f))), AV.d (D.sl (List.map Bd.d (Fm.bs f))), AV.d (D.sl (List.map
    Fm.d (Fm.l f)))]] fun (rs : List D) (H' : List Box) => ∃ (b : Bool), rs = [D.bool b] ∧ ∃ (n : Int), ∃ (s : List UInt8), ∃ (n_1 : Int), ∃ (l : List D), ∃ (l_1 : List D), ∃ (l_2 : List D),
    H' = [Box.cells (33 : Nat) [AV.d (D.int IntKind.i64 n), AV.d (D.str s), AV.d (D.int IntKind.i64 n_1), AV.d (D.sl l), AV.d (D.sl l_1), AV.d (D.sl l_2)]] ∧ (b = true → (∃ (r : Int), [D.int
    IntKind.i64 (↑x : Int)] = [D.int IntKind.i64 r] ∧ decide (r ≥ (0 : Int)) = List.any ts (odd1 f)) ∧ [Box.cells (33 : Nat) [AV.d (D.int IntKind.i64 n), AV.d (D.str s), AV.d (D.int
    IntKind.i64 n_1), AV.d (D.sl l), AV.d (D.sl l_1), AV.d (D.sl l_2)]] = [Box.cells (33 : Nat) [AV.d (D.int IntKind.i64 (Fm.kind f)), AV.d (D.str (Fm.name f)), AV.d (D.int IntKind.i64 (Fm.n
    f)), AV.d (D.sl (List.map Tm.d (Fm.ts f))), AV.d (D.sl (List.map Bd.d (Fm.bs f))), AV.d (D.sl (List.map Fm.d (Fm.l f)))]]) ∧ (b = false → ∃ (y : Nat), (y ≤ List.length ts ∧ List.any
    (List.take y ts) (odd1 f) = false) ∧ List.length ts - y < List.length ts - x ∧ (List.map Tm.d ts = List.map Tm.d ts ∧ AV.clo (71 : Nat) [] [AV.ptr (0 : Nat) (0 : Nat)] = AV.clo (71 :
    Nat) [] [AV.ptr (0 : Nat) (0 : Nat)] ∧ (↑(List.length (List.map Tm.d ts)) : Int) = (↑(List.length (List.map Tm.d ts)) : Int) ∧ IntKind.wrap IntKind.i64 ((↑x : Int) + (1 : Int)) = (↑y :
    Int) ∧ True) ∧ (n = Fm.kind f ∧ s = Fm.name f ∧ n_1 = Fm.n f ∧ l = List.map Tm.d (Fm.ts f) ∧ l_1 = List.map Bd.d (Fm.bs f) ∧ l_2 = List.map Fm.d (Fm.l f) ∧ True) ∧ True)) ∧ (decide ((↑x
    : Int) < (↑(List.length (List.map Tm.d ts)) : Int)) = false → (∃ (r : Int), [D.int IntKind.i64 (-1 : Int)] = [D.int IntKind.i64 r] ∧ decide (r ≥ (0 : Int)) = List.any ts (odd1 f)) ∧
    [Box.cells (33 : Nat) [AV.d (D.int IntKind.i64 (Fm.kind f)), AV.d (D.str (Fm.name f)), AV.d (D.int IntKind.i64 (Fm.n f)), AV.d (D.sl (List.map Tm.d (Fm.ts f))), AV.d (D.sl (List.map Bd.d
    (Fm.bs f))), AV.d (D.sl (List.map Fm.d (Fm.l f)))]] = [Box.cells (33 : Nat) [AV.d (D.int IntKind.i64 (Fm.kind f)), AV.d (D.str (Fm.name f)), AV.d (D.int IntKind.i64 (Fm.n f)), AV.d (D.sl
    (List.map Tm.d (Fm.ts f))), AV.d (D.sl (List.map Bd.d (Fm.bs f))), AV.d (D.sl (List.map Fm.d (Fm.l f)))]]))
  · kernel_rfl
  refine ⟨0, ⟨by omega, rfl⟩, ⟨⟨rfl, rfl, rfl, rfl, trivial⟩, ⟨rfl, rfl, rfl, rfl, rfl, rfl, trivial⟩, trivial⟩, fun i hi => ⟨fun hlt => ?_, fun hge => ?_⟩⟩
  · simp only [List.length_map, decide_eq_true_eq] at hlt
    obtain ⟨z, hz, hm⟩ := get_nat (l := ts) (x := i) (by omega)
    rw [Int.toNat_natCast, agg_tm hz]
    refine ⟨⟨by omega, by simp [hz]⟩, ?_⟩
    refine (fn45 hM f z (hs z hm)).mono ?_
    rintro rs H' ⟨rfl, rfl⟩
    refine ⟨_, rfl, _, _, _, _, _, _, rfl, fun hb => ⟨⟨_, rfl, ?_⟩, rfl⟩, fun hb => ⟨i + 1, ⟨by omega, ?_⟩, by omega, ⟨rfl, rfl, rfl, ?_, trivial⟩, ⟨rfl, rfl, rfl, rfl, rfl, rfl, trivial⟩, trivial⟩⟩
    · have : ts.any (odd1 f) = true := List.any_eq_true.2 ⟨z, hm, hb⟩
      rw [this]; simp
    · rw [List.take_add_one, hz, List.any_append, hi.2]
      simpa using hb
    · rw [wrap64 (by omega) (by omega)]; simp
  · simp only [List.length_map, decide_eq_false_iff_not] at hge
    have h2 := hi.2
    rw [List.take_of_length_le (by omega)] at h2
    exact ⟨⟨_, rfl, by rw [h2]; rfl⟩, rfl⟩

theorem fn47 (hM : M.Ok) (f : Fm) (ts : List Tm) (hl : ts.length < 4611686018427387904) (hs : ∀ t ∈ ts, t.name.length ≤ 9223372036854775807) :
    PCall Tryd.prog (GG M) 73 [.d (.sl (ts.map Tm.d)), .clo 71 [] [.ptr 0 0]] (h31 f) (fun rs H' => rs = [.bool (ts.any (odd1 f))] ∧ H' = h31 f) := by
  refine PCall.walk (fn := Tryd.f73) (code := bodyOf Tryd.f73) mixed L0 Tryd.func73 (by kernel_rfl) rfl ⟨_, _, rfl, rfl⟩ (ok0 (by kernel_rfl)) ?_
  apply @of_vc _ (
    PCall Tryd.prog (GG M) (87 : Nat) [AV.d (D.sl (List.map Tm.d ts)), AV.clo (71 : Nat) [] [AV.ptr (0 : Nat) (0 : Nat)]] [Box.cells (33 : Nat) [AV.d (D.int IntKind.i64 (Fm.kind f)), AV.d
    (D.str (Fm.name f)), AV.d (D.int IntKind.i64 (Fm.n f)), AV.d (D.sl (List.map Tm.d (Fm.ts f))), AV.d (D.sl (List.map Bd.d (Fm.bs f))), AV.d (D.sl (List.map Fm.d (Fm.l f)))]] fun (rs :
    List D) (H' : List Box) => ∃ (n : Int), rs = [D.int IntKind.i64 n] ∧ ∃ (n_1 : Int), ∃ (s : List UInt8), ∃ (n_2 : Int), ∃ (l : List D), ∃ (l_1 : List D), ∃ (l_2 : List D), H' = [Box.cells
    (33 : Nat) [AV.d (D.int IntKind.i64 n_1), AV.d (D.str s), AV.d (D.int IntKind.i64 n_2), AV.d (D.sl l), AV.d (D.sl l_1), AV.d (D.sl l_2)]] ∧ [D.bool (decide (n ≥ (0 : Int)))] = [D.bool
    (List.any ts (odd1 f))] ∧ [Box.cells (33 : Nat) [AV.d (D.int IntKind.i64 n_1), AV.d (D.str s), AV.d (D.int IntKind.i64 n_2), AV.d (D.sl l), AV.d (D.sl l_1), AV.d (D.sl l_2)]] =
    [Box.cells (33 : Nat) [AV.d (D.int IntKind.i64 (Fm.kind f)), AV.d (D.str (Fm.name f)), AV.d (D.int IntKind.i64 (Fm.n f)), AV.d (D.sl (List.map Tm.d (Fm.ts f))), AV.d (D.sl (List.map Bd.d
    (Fm.bs f))), AV.d (D.sl (List.map Fm.d (Fm.l f)))]])
  · kernel_rfl
  refine (fn63 hM f ts hl hs).mono ?_
  rintro rs H' ⟨⟨r, rfl, hr⟩, rfl⟩
  exact ⟨r, rfl, _, _, _, _, _, _, rfl, by rw [hr], rfl⟩

def odd2 (b : Bd) : Bool := !bindB b
theorem fn48 (hM : M.Ok) (b : Bd) (hs : b.name.length ≤ 9223372036854775807) : PFn Tryd.prog (GG M) 74 [b.d] (· = [.bool (odd2 b)]) := by
  unfold Bd.d
  refine PFn.walk (fn := Tryd.f74) (code := bodyOf Tryd.f74) mixed L0 Tryd.func74 (by kernel_rfl) ⟨_, rfl⟩ (ok0 (by kernel_rfl)) ?_
  apply @of_vc _ (
    PFn Tryd.prog (GG M) (75 : Nat) [D.str (Bd.name b)] fun (rs : List D) => ∃ (b_1 : Bool), rs = [D.bool b_1] ∧ [D.bool (bif bif !b_1 then true else decide (Bd.sort b < (1 : Int)) then true
    else decide (Bd.sort b > (7 : Int)))] = [D.bool (odd2 b)])
  · kernel_rfl
  refine (fn49 hM b.name hs).mono ?_
  rintro rs rfl
  refine ⟨_, rfl, ?_⟩
  simp only [odd2, bindB, bif_or]
  have e1 : decide (b.sort < 1) = !decide (1 ≤ b.sort) := by rw [Bool.eq_iff_iff]; simp
  have e2 : decide (b.sort > 7) = !decide (b.sort ≤ 7) := by rw [Bool.eq_iff_iff]; simp
  rw [e1, e2]
  cases nameB b.name <;> cases decide (1 ≤ b.sort) <;> cases decide (b.sort ≤ 7) <;> rfl

theorem fn65 (hM : M.Ok) (bs : List Bd) (hl : bs.length < 4611686018427387904) (hs : ∀ t ∈ bs, t.name.length ≤ 9223372036854775807) :
    PFn Tryd.prog (GG M) 65 [.sl (bs.map Bd.d), .fn 74] (fun rs => ∃ r : Int, rs = [.int .i64 r] ∧ decide (r ≥ 0) = bs.any odd2) := by
  refine PFn.walk (fn := Tryd.f65) (code := bodyOf Tryd.f65) mixed
    (LL [(2, loopW (α := Nat) Tryd.prog (GG M) L0 0 (loopN (bodyOf Tryd.f65) 0) [0, 1, 7] (fun i => i ≤ bs.length ∧ (bs.take i).any odd2 = false) (fun i => bs.length - i)
      (fun i => [(8, .d (.int .i64 i))]) (fun H _ => H))])
    Tryd.func65 (by kernel_rfl) ⟨_, if bs.any odd2 then 0 else -1, rfl, by cases bs.any odd2 <;> rfl⟩ (LoopsOk.one (b1 := loopN (bodyOf Tryd.f65) 0) (by kernel_rfl) (by kernel_rfl) (loopW_sound mixed (ok0 (by kernel_rfl)))) ?_
  apply @of_vc _ (
    ∃ (x0 : Nat), (x0 ≤ List.length bs ∧ List.any (List.take x0 bs) odd2 = false) ∧ ((List.map Bd.d bs = List.map Bd.d bs ∧ AV.d (D.fn (74 : Nat)) = AV.d (D.fn (74 : Nat)) ∧ (↑(List.length
    (List.map Bd.d bs)) : Int) = (↑(List.length (List.map Bd.d bs)) : Int) ∧ (0 : Int) = (↑x0 : Int) ∧ True) ∧ True) ∧ ∀ (x : Nat), x ≤ List.length bs ∧ List.any (List.take x bs) odd2 =
    false → (decide ((↑x : Int) < (↑(List.length (List.map Bd.d bs)) : Int)) = true → ((0 : Int) ≤ (↑x : Int) ∧ (List.map Bd.d bs)[Int.toNat (↑x : Int)]? = some (aggAt [Sh.str, Sh.int
    IntKind.i64] (List.map Bd.d bs) (Int.toNat (↑x : Int)))) ∧ PFn Tryd.prog (GG M) (74 : Nat) [aggAt [Sh.str, Sh.int IntKind.i64] (List.map Bd.d bs) (Int.toNat (↑x : Int))] fun (rs : List
    D) => ∃ (b : Bool), rs = [D.bool b] ∧ (b = true → ∃ (r : Int), [D.int IntKind.i64 (↑x : Int)] = [D.int IntKind.i64 r] ∧ decide (r ≥ (0 : Int)) = List.any bs odd2) ∧ (b = false → ∃ (y :
    Nat), (y ≤ List.length bs ∧ List.any (List.take y bs) odd2 = false) ∧ List.length bs - y < List.length bs - x ∧ (List.map Bd.d bs = List.map Bd.d bs ∧ AV.d (D.fn (74 : Nat)) = AV.d (D.fn
    (74 : Nat)) ∧ (↑(List.length (List.map Bd.d bs)) : Int) = (↑(List.length (List.map Bd.d bs)) : Int) ∧ IntKind.wrap IntKind.i64 ((↑x : Int) + (1 : Int)) = (↑y : Int) ∧ True) ∧ True)) ∧
    (decide ((↑x : Int) < (↑(List.length (List.map Bd.d bs)) : Int)) = false → ∃ (r : Int), [D.int IntKind.i64 (-1 : Int)] = [D.int IntKind.i64 r] ∧ decide (r ≥ (0 : Int)) = List.any bs
    odd2))
  · kernel_rfl
  refine ⟨0, ⟨by omega, rfl⟩, by simp, fun i hi => ⟨fun hlt => ?_, fun hge => ?_⟩⟩
  · simp only [List.length_map, decide_eq_true_eq] at hlt
    obtain ⟨z, hz, hm⟩ := get_nat (l := bs) (x := i) (by omega)
    rw [Int.toNat_natCast, agg_bd hz]
    refine ⟨⟨by omega, by simp [hz]⟩, ?_⟩
    refine (fn48 hM z (hs z hm)).mono ?_
    rintro rs rfl
    refine ⟨_, rfl, fun hb => ⟨_, rfl, ?_⟩, fun hb => ⟨i + 1, ⟨by omega, ?_⟩, by omega, ?_⟩⟩
    · have : bs.any odd2 = true := List.any_eq_true.2 ⟨z, hm, hb⟩
      rw [this]; simp
    · rw [List.take_add_one, hz, List.any_append, hi.2]
      simpa using hb
    · rw [wrap64 (by omega) (by omega)]; simp
  · simp only [List.length_map, decide_eq_false_iff_not] at hge
    have h2 := hi.2
    rw [List.take_of_length_le (by omega)] at h2
    exact ⟨_, rfl, by rw [h2]; rfl⟩

theorem fn50 (hM : M.Ok) (bs : List Bd) (hl : bs.length < 4611686018427387904) (hs : ∀ t ∈ bs, t.name.length ≤ 9223372036854775807) :
    PFn Tryd.prog (GG M) 40 [.sl (bs.map Bd.d), .fn 74] (· = [.bool (bs.any odd2)]) := by
  refine PFn.walk (fn := Tryd.f40) (code := bodyOf Tryd.f40) mixed L0 Tryd.func40 (by kernel_rfl) ⟨_, rfl⟩ (ok0 (by kernel_rfl)) ?_
  apply @of_vc _ (
    PFn Tryd.prog (GG M) (65 : Nat) [D.sl (List.map Bd.d bs), D.fn (74 : Nat)] fun (rs : List D) => ∃ (n : Int), rs = [D.int IntKind.i64 n] ∧ [D.bool (decide (n ≥ (0 : Int)))] = [D.bool
    (List.any bs odd2)])
  · kernel_rfl
  refine (fn65 hM bs hl hs).mono ?_
  rintro rs ⟨r, rfl, hr⟩
  exact ⟨r, rfl, by rw [hr]⟩

/-- The test of one node as the program has it. -/
def bad0 (f : Fm) : Bool :=
  !(arL.lookup f.kind).isSome || ((f.l.length : Int) != (arL.lookup f.kind).getD 0) || (((f.ts.length : Int) != 0) && !atomB f.kind) || (((f.bs.length : Int) != 0) && !quantB f.kind) || ((f.n != 0) && !countB f.kind) || ((!(f.name == [])) && f.kind != 9)
def bad1 (f : Fm) : Bool := f.kind == 9 && (siL.lookup f.name).getD [] == []
def good2 (f : Fm) : Bool := if atomB f.kind then ((f.ts.length : Int) == 2) && !f.ts.any (odd1 f) else if quantB f.kind then decide ((f.bs.length : Int) > 0) && decide ((f.bs.length : Int) ≤ 6) && !f.bs.any odd2 && numB f.n else true

theorem any_odd2 (bs : List Bd) : (!bs.any odd2) = bs.all bindB := by
  induction bs with
  | nil => rfl
  | cons b r ih => simp only [List.any_cons, List.all_cons, Bool.not_or, ih, odd2, Bool.not_not]

theorem sign_look (s : List UInt8) : ((siL.lookup s).getD [] == []) = !signB s := by
  unfold siL signB
  simp only [List.lookup]
  by_cases h1 : s = [33, 61]
  · subst h1; rfl
  by_cases h2 : s = [60]
  · subst h2; rfl
  by_cases h3 : s = [60, 61]
  · subst h3; rfl
  by_cases h4 : s = [61]
  · subst h4; rfl
  by_cases h5 : s = [62]
  · subst h5; rfl
  by_cases h6 : s = [62, 61]
  · subst h6; rfl
  simp only [beq_eq_false_iff_ne.2 h1, beq_eq_false_iff_ne.2 h2, beq_eq_false_iff_ne.2 h3, beq_eq_false_iff_ne.2 h4, beq_eq_false_iff_ne.2 h5, beq_eq_false_iff_ne.2 h6]
  rfl
end

end Go.Fo
/- The test of one node; Check. -/
namespace Go.Fo
open Go Go.Sx Go.Proofs
set_option maxRecDepth 100000

theorem len2' {α : Type} {l : List α} (h : l.length = 2) : ∃ x y, l = [x, y] := by
  match l, h with
  | [x, y], _ => exact ⟨x, y, rfl⟩

theorem any_odd1 (f : Fm) (a b : Tm) : (!([a, b].any (odd1 f))) = (termB a && termB b && (f.kind == 9 || a.kind == 2 && b.kind == 2)) := by
  simp only [List.any_cons, List.any_nil, odd1, bne]
  cases termB a <;> cases termB b <;> cases (f.kind == 9) <;> cases (a.kind == 2) <;> cases (b.kind == 2) <;> rfl

theorem formed_eq (f : Fm) : (!bad0 f && !bad1 f && good2 f) = nodeB f := by
  have hodd := any_odd1 f
  unfold bad0 bad1 good2 nodeB termsB bindsB
  simp only [sign_look, any_odd2]
  generalize odd1 f = od at *
  generalize f.kind = k at *
  generalize f.name = s
  generalize f.n = n
  generalize f.ts = ts
  generalize f.bs = bs
  generalize f.l = l
  have hc : k = 1 ∨ k = 2 ∨ (k = 3 ∨ k = 4 ∨ k = 5 ∨ k = 6 ∨ k = 7 ∨ k = 8) ∨ k = 9 ∨ k = 10 ∨ (k = 11 ∨ k = 12 ∨ k = 13) ∨ (k = 14 ∨ k = 15) ∨ (k = 16 ∨ k = 17) ∨ (k < 1 ∨ 17 < k) := by omega
  have e0 : ∀ {α : Type} (l : List α), ((l.length : Int) != 0) = !l.isEmpty := fun l => by cases l <;> rfl
  rcases hc with hk | hk | hk | hk | hk | hk | hk | hk | hk
  · subst hk
    have h1 : arL.lookup 1 = some 0 := rfl
    have h2 : atomB 1 = false := rfl
    have h3 : quantB 1 = false := rfl
    have h4 : countB 1 = false := rfl
    have h5 : partsI 1 = 0 := rfl
    simp only [h1, h2, h3, h4, h5, e0, Option.isSome_some, Option.getD_some, bne]
    cases ts <;> cases bs <;> cases (n == 0) <;> cases (s == []) <;> cases ((l.length : Int) == 0) <;> rfl
  · subst hk
    have h1 : arL.lookup 2 = some 0 := rfl
    have h2 : atomB 2 = false := rfl
    have h3 : quantB 2 = false := rfl
    have h4 : countB 2 = false := rfl
    have h5 : partsI 2 = 0 := rfl
    simp only [h1, h2, h3, h4, h5, e0, Option.isSome_some, Option.getD_some, bne]
    cases ts <;> cases bs <;> cases (n == 0) <;> cases (s == []) <;> cases ((l.length : Int) == 0) <;> rfl
  · have h1 : arL.lookup k = some 0 := by rcases hk with rfl | rfl | rfl | rfl | rfl | rfl <;> rfl
    have h2 : atomB k = true := by rcases hk with rfl | rfl | rfl | rfl | rfl | rfl <;> rfl
    have h3 : quantB k = false := by rcases hk with rfl | rfl | rfl | rfl | rfl | rfl <;> rfl
    have h4 : countB k = false := by rcases hk with rfl | rfl | rfl | rfl | rfl | rfl <;> rfl
    have h5 : partsI k = 0 := by rcases hk with rfl | rfl | rfl | rfl | rfl | rfl <;> rfl
    have h9 : (k == 9) = false := by rcases hk with rfl | rfl | rfl | rfl | rfl | rfl <;> rfl
    have h9' : ¬ k = 9 := by omega
    simp only [h1, h2, h3, h4, h5, e0, Option.isSome_some, Option.getD_some, bne, if_true, h9, h9', if_false]
    rcases Classical.em (ts.length = 2) with ht | ht
    · obtain ⟨a, b, rfl⟩ := len2' ht
      rw [hodd]
      simp only [h9]
      have e1 : (([a, b] : List Tm).length : Int) = 2 := rfl
      have ta : tmAt [a, b] 0 = a := rfl
      have tb : tmAt [a, b] 1 = b := rfl
      simp only [e1, ta, tb, h9', if_false]
      cases bs <;> cases (n == 0) <;> cases (s == []) <;> cases ((l.length : Int) == 0) <;> cases termB a <;> cases termB b <;> cases (a.kind == 2) <;> cases (b.kind == 2) <;> rfl
    · have e1 : ((ts.length : Int) == 2) = false := by simp; omega
      simp only [e1, ht, decide_false, Bool.false_and, Bool.and_false]
  · subst hk
    have h1 : arL.lookup 9 = some 0 := rfl
    have h2 : atomB 9 = true := rfl
    have h3 : quantB 9 = false := rfl
    have h4 : countB 9 = false := rfl
    have h5 : partsI 9 = 0 := rfl
    have h9 : ((9 : Int) == 9) = true := rfl
    simp only [h1, h2, h3, h4, h5, e0, Option.isSome_some, Option.getD_some, bne, if_true, h9]
    rcases Classical.em (ts.length = 2) with ht | ht
    · obtain ⟨a, b, rfl⟩ := len2' ht
      rw [hodd]
      simp only [h9]
      have e1 : (([a, b] : List Tm).length : Int) = 2 := rfl
      have ta : tmAt [a, b] 0 = a := rfl
      have tb : tmAt [a, b] 1 = b := rfl
      simp only [e1, ta, tb]
      cases bs <;> cases (n == 0) <;> cases (s == []) <;> cases ((l.length : Int) == 0) <;> cases termB a <;> cases termB b <;> cases signB s <;> rfl
    · have e1 : ((ts.length : Int) == 2) = false := by simp; omega
      simp only [e1, ht, decide_false, Bool.false_and, Bool.and_false]
  · subst hk
    have h1 : arL.lookup 10 = some 1 := rfl
    have h2 : atomB 10 = false := rfl
    have h3 : quantB 10 = false := rfl
    have h4 : countB 10 = false := rfl
    have h5 : partsI 10 = 1 := rfl
    simp only [h1, h2, h3, h4, h5, e0, Option.isSome_some, Option.getD_some, bne]
    cases ts <;> cases bs <;> cases (n == 0) <;> cases (s == []) <;> cases ((l.length : Int) == 1) <;> rfl
  · have h1 : arL.lookup k = some 2 := by rcases hk with rfl | rfl | rfl <;> rfl
    have h2 : atomB k = false := by rcases hk with rfl | rfl | rfl <;> rfl
    have h3 : quantB k = false := by rcases hk with rfl | rfl | rfl <;> rfl
    have h4 : countB k = false := by rcases hk with rfl | rfl | rfl <;> rfl
    have h5 : partsI k = 2 := by rcases hk with rfl | rfl | rfl <;> rfl
    have h9 : (k == 9) = false := by rcases hk with rfl | rfl | rfl <;> rfl
    simp only [h1, h2, h3, h4, h5, e0, Option.isSome_some, Option.getD_some, bne, h9]
    cases ts <;> cases bs <;> cases (n == 0) <;> cases (s == []) <;> cases ((l.length : Int) == 2) <;> rfl
  · have h1 : arL.lookup k = some 1 := by rcases hk with rfl | rfl <;> rfl
    have h2 : atomB k = false := by rcases hk with rfl | rfl <;> rfl
    have h3 : quantB k = true := by rcases hk with rfl | rfl <;> rfl
    have h4 : countB k = false := by rcases hk with rfl | rfl <;> rfl
    have h5 : partsI k = 1 := by rcases hk with rfl | rfl <;> rfl
    have h9 : (k == 9) = false := by rcases hk with rfl | rfl <;> rfl
    have e1 : decide ((bs.length : Int) > 0) = decide (1 ≤ bs.length) := by rw [Bool.eq_iff_iff]; simp; omega
    have e2 : decide ((bs.length : Int) ≤ 6) = decide (bs.length ≤ 6) := by rw [Bool.eq_iff_iff]; simp; omega
    have e3 : (n == 0) = true → numB n = true := fun h => by simp at h; subst h; rfl
    rw [e1, e2]
    simp only [h1, h2, h3, h4, h5, Option.isSome_some, Option.getD_some, bne, h9, if_true]
    generalize ((bs.length : Int) == 0) = z0
    cases hn : (n == 0) with
    | true =>
      rw [e3 hn]
      cases z0 <;> cases ts <;> cases (s == []) <;> cases ((l.length : Int) == 1) <;> cases bs.all bindB <;> cases decide (1 ≤ bs.length) <;> cases decide (bs.length ≤ 6) <;> rfl
    | false =>
      cases z0 <;> cases ts <;> cases (s == []) <;> cases ((l.length : Int) == 1) <;> cases bs.all bindB <;> cases decide (1 ≤ bs.length) <;> cases decide (bs.length ≤ 6) <;> rfl
  · have h1 : arL.lookup k = some 1 := by rcases hk with rfl | rfl <;> rfl
    have h2 : atomB k = false := by rcases hk with rfl | rfl <;> rfl
    have h3 : quantB k = true := by rcases hk with rfl | rfl <;> rfl
    have h4 : countB k = true := by rcases hk with rfl | rfl <;> rfl
    have h5 : partsI k = 1 := by rcases hk with rfl | rfl <;> rfl
    have h9 : (k == 9) = false := by rcases hk with rfl | rfl <;> rfl
    have e1 : decide ((bs.length : Int) > 0) = decide (1 ≤ bs.length) := by rw [Bool.eq_iff_iff]; simp; omega
    have e2 : decide ((bs.length : Int) ≤ 6) = decide (bs.length ≤ 6) := by rw [Bool.eq_iff_iff]; simp; omega
    have e3 : numB n = (n == 0 || (decide (0 < n) && decide (n ≤ 1099511627776))) := by rw [Bool.eq_iff_iff]; simp [numB]; omega
    rw [e1, e2, e3]
    simp only [h1, h2, h3, h4, h5, Option.isSome_some, Option.getD_some, bne, h9, if_true]
    generalize ((bs.length : Int) == 0) = z0
    cases (n == 0) <;> cases z0 <;> cases ts <;> cases (s == []) <;> cases ((l.length : Int) == 1) <;> cases bs.all bindB <;> cases decide (1 ≤ bs.length) <;> cases decide (bs.length ≤ 6) <;> cases decide (0 < n) <;> cases decide (n ≤ 1099511627776) <;> rfl
  · have h1 : arL.lookup k = none := by
      unfold arL
      simp only [List.lookup]
      simp only [(beq_eq_false_iff_ne.2 (by omega) : (k == 1) = false), (beq_eq_false_iff_ne.2 (by omega) : (k == 2) = false), (beq_eq_false_iff_ne.2 (by omega) : (k == 3) = false), (beq_eq_false_iff_ne.2 (by omega) : (k == 4) = false), (beq_eq_false_iff_ne.2 (by omega) : (k == 5) = false), (beq_eq_false_iff_ne.2 (by omega) : (k == 6) = false), (beq_eq_false_iff_ne.2 (by omega) : (k == 7) = false), (beq_eq_false_iff_ne.2 (by omega) : (k == 8) = false), (beq_eq_false_iff_ne.2 (by omega) : (k == 9) = false), (beq_eq_false_iff_ne.2 (by omega) : (k == 10) = false), (beq_eq_false_iff_ne.2 (by omega) : (k == 11) = false), (beq_eq_false_iff_ne.2 (by omega) : (k == 12) = false), (beq_eq_false_iff_ne.2 (by omega) : (k == 13) = false), (beq_eq_false_iff_ne.2 (by omega) : (k == 14) = false), (beq_eq_false_iff_ne.2 (by omega) : (k == 15) = false), (beq_eq_false_iff_ne.2 (by omega) : (k == 16) = false), (beq_eq_false_iff_ne.2 (by omega) : (k == 17) = false)]
    have h5 : partsI k = -1 := by
      unfold partsI
      rw [if_neg (by omega), if_neg (by omega), if_neg]
      simp only [atomB, Bool.and_eq_true, decide_eq_true_eq]
      omega
    have h6 : ((l.length : Int) == -1) = false := by simp
    simp only [h1, h5, h6, Option.isSome_none, Bool.not_false, Bool.true_or, Bool.not_true, Bool.false_and]

section
variable {M : Maps}
theorem fn31 (hM : M.Ok) (f : Fm) (hf : f.wt < 4611686018427387904) : PFn Tryd.prog (GG M) 46 [f.d] (· = [.bool (nodeB f)]) := by
  have hw := f.wt_eq
  have hts := Fm.ts_len hf
  have hbs := Fm.bs_len hf
  rw [d_cells, ← formed_eq]
  refine PFn.walk (fn := Tryd.f46) (code := bodyOf Tryd.f46) mixed L0 Tryd.func46 (by kernel_rfl) ⟨_, rfl⟩ (ok0 (by kernel_rfl)) ?_
  apply @of_vc _ (
    (List.all (Maps.ar M) fun (kv : D × D) => sameKind (D.int IntKind.i64 (Fm.kind f)) (Prod.fst kv) && Sh.ok (Sh.int IntKind.i64) (Prod.snd kv)) = true ∧ PFn Tryd.prog (GG M) (68 : Nat)
    [D.int IntKind.i64 (Fm.kind f)] fun (rs : List D) => ∃ (b : Bool), rs = [D.bool b] ∧ PFn Tryd.prog (GG M) (69 : Nat) [D.int IntKind.i64 (Fm.kind f)] fun (rs : List D) => ∃ (b_1 : Bool),
    rs = [D.bool b_1] ∧ PFn Tryd.prog (GG M) (70 : Nat) [D.int IntKind.i64 (Fm.kind f)] fun (rs : List D) => ∃ (b_2 : Bool), rs = [D.bool b_2] ∧ ((bif bif bif bif bif !Option.isSome (lookD
    (Maps.ar M) (D.int IntKind.i64 (Fm.kind f))) then true else (↑(List.length (List.map Fm.d (Fm.l f))) : Int) != D.toInt (Option.getD (lookD (Maps.ar M) (D.int IntKind.i64 (Fm.kind f)))
    (D.int IntKind.i64 (0 : Int))) then true else bif (↑(List.length (List.map Tm.d (Fm.ts f))) : Int) != (0 : Int) then !b else false then true else bif (↑(List.length (List.map Bd.d (Fm.bs
    f))) : Int) != (0 : Int) then !b_1 else false then true else bif Fm.n f != (0 : Int) then !b_2 else false then true else bif !Fm.name f == Array.toList (ByteArray.data (ByteArray.mk
    #[])) then Fm.kind f != (9 : Int) else false) = true → [D.bool false] = [D.bool (!bad0 f && !bad1 f && good2 f)]) ∧ ((bif bif bif bif bif !Option.isSome (lookD (Maps.ar M) (D.int
    IntKind.i64 (Fm.kind f))) then true else (↑(List.length (List.map Fm.d (Fm.l f))) : Int) != D.toInt (Option.getD (lookD (Maps.ar M) (D.int IntKind.i64 (Fm.kind f))) (D.int IntKind.i64 (0
    : Int))) then true else bif (↑(List.length (List.map Tm.d (Fm.ts f))) : Int) != (0 : Int) then !b else false then true else bif (↑(List.length (List.map Bd.d (Fm.bs f))) : Int) != (0 :
    Int) then !b_1 else false then true else bif Fm.n f != (0 : Int) then !b_2 else false then true else bif !Fm.name f == Array.toList (ByteArray.data (ByteArray.mk #[])) then Fm.kind f !=
    (9 : Int) else false) = false → ((Fm.kind f == (9 : Int)) = true → (List.all (Maps.si M) fun (kv : D × D) => sameKind (D.str (Fm.name f)) (Prod.fst kv) && Sh.ok Sh.str (Prod.snd kv)) =
    true) ∧ ((bif Fm.kind f == (9 : Int) then D.toStr (Option.getD (lookD (Maps.si M) (D.str (Fm.name f))) (D.str (Array.toList (ByteArray.data (ByteArray.mk #[]))))) == Array.toList
    (ByteArray.data (ByteArray.mk #[])) else false) = true → [D.bool false] = [D.bool (!bad0 f && !bad1 f && good2 f)]) ∧ ((bif Fm.kind f == (9 : Int) then D.toStr (Option.getD (lookD
    (Maps.si M) (D.str (Fm.name f))) (D.str (Array.toList (ByteArray.data (ByteArray.mk #[]))))) == Array.toList (ByteArray.data (ByteArray.mk #[])) else false) = false → PFn Tryd.prog (GG
    M) (68 : Nat) [D.int IntKind.i64 (Fm.kind f)] fun (rs : List D) => ∃ (b : Bool), rs = [D.bool b] ∧ (b = true → PCall Tryd.prog (GG M) (73 : Nat) [AV.d (D.sl (List.map Tm.d (Fm.ts f))),
    AV.clo (71 : Nat) [] [AV.ptr (0 : Nat) (0 : Nat)]] [Box.cells (33 : Nat) [AV.d (D.int IntKind.i64 (Fm.kind f)), AV.d (D.str (Fm.name f)), AV.d (D.int IntKind.i64 (Fm.n f)), AV.d (D.sl
    (List.map Tm.d (Fm.ts f))), AV.d (D.sl (List.map Bd.d (Fm.bs f))), AV.d (D.sl (List.map Fm.d (Fm.l f)))]] fun (rs : List D) (H' : List Box) => H' = [Box.cells (33 : Nat) [AV.d (D.int
    IntKind.i64 (Fm.kind f)), AV.d (D.str (Fm.name f)), AV.d (D.int IntKind.i64 (Fm.n f)), AV.d (D.sl (List.map Tm.d (Fm.ts f))), AV.d (D.sl (List.map Bd.d (Fm.bs f))), AV.d (D.sl (List.map
    Fm.d (Fm.l f)))]] ∧ ∃ (b : Bool), rs = [D.bool b] ∧ [D.bool (bif (↑(List.length (List.map Tm.d (Fm.ts f))) : Int) == (2 : Int) then !b else false)] = [D.bool (!bad0 f && !bad1 f && good2
    f)]) ∧ (b = false → PFn Tryd.prog (GG M) (69 : Nat) [D.int IntKind.i64 (Fm.kind f)] fun (rs : List D) => ∃ (b : Bool), rs = [D.bool b] ∧ (b = true → PFn Tryd.prog (GG M) (40 : Nat) [D.sl
    (List.map Bd.d (Fm.bs f)), D.fn (74 : Nat)] fun (rs : List D) => ∃ (b : Bool), rs = [D.bool b] ∧ PFn Tryd.prog (GG M) (76 : Nat) [D.int IntKind.i64 (Fm.n f)] fun (rs : List D) => ∃ (b_3
    : Bool), rs = [D.bool b_3] ∧ [D.bool (bif bif bif decide ((↑(List.length (List.map Bd.d (Fm.bs f))) : Int) > (0 : Int)) then decide ((↑(List.length (List.map Bd.d (Fm.bs f))) : Int) ≤ (6
    : Int)) else false then !b else false then b_3 else false)] = [D.bool (!bad0 f && !bad1 f && good2 f)]) ∧ (b = false → [D.bool true] = [D.bool (!bad0 f && !bad1 f && good2 f)])))))
  · kernel_rfl
  have e0 : Array.toList (ByteArray.data { data := #[] }) = ([] : List UInt8) := rfl
  refine ⟨by simp only [same_int f.kind]; exact hM.arA, ?_⟩
  refine (fn42 f.kind).mono ?_
  rintro rs rfl
  refine ⟨_, rfl, ?_⟩
  refine (fn43 f.kind).mono ?_
  rintro rs rfl
  refine ⟨_, rfl, ?_⟩
  refine (fn44 f.kind).mono ?_
  rintro rs rfl
  refine ⟨_, rfl, ?_⟩
  have ea : Option.isSome (lookD M.ar (.int .i64 f.kind)) = (arL.lookup f.kind).isSome := by rw [hM.arG]; cases arL.lookup f.kind <;> rfl
  have eb : D.toInt (Option.getD (lookD M.ar (.int .i64 f.kind)) (.int .i64 0)) = (arL.lookup f.kind).getD 0 := by rw [hM.arG]; cases arL.lookup f.kind <;> rfl
  have ec : D.toStr (Option.getD (lookD M.si (.str f.name)) (.str [])) = (siL.lookup f.name).getD [] := by rw [hM.siG]; cases siL.lookup f.name <;> rfl
  simp only [e0, ea, eb, ec, List.length_map, bif_or, bif_and]
  rw [show (!(arL.lookup f.kind).isSome || (f.l.length : Int) != (arL.lookup f.kind).getD 0 || ((f.ts.length : Int) != 0) && !atomB f.kind || ((f.bs.length : Int) != 0) && !quantB f.kind || f.n != 0 && !countB f.kind || (!(f.name == [])) && f.kind != 9) = bad0 f from rfl]
  rw [show (f.kind == 9 && (siL.lookup f.name).getD [] == []) = bad1 f from rfl]
  refine ⟨fun h => by rw [h]; rfl, fun h => ⟨fun _ => by simp only [same_str f.name]; exact hM.siA, fun h1 => by rw [h1]; simp, fun h1 => ?_⟩⟩
  rw [h, h1]
  simp only [Bool.not_false, Bool.true_and]
  refine (fn42 f.kind).mono ?_
  rintro rs rfl
  refine ⟨_, rfl, fun ha => ?_, fun ha => ?_⟩
  · refine (fn47 hM f f.ts (by omega) (fun t ht => by have := hts t ht; omega)).mono ?_
    rintro rs H' ⟨rfl, rfl⟩
    refine ⟨rfl, _, rfl, ?_⟩
    simp only [good2, ha, if_true]
  · refine (fn43 f.kind).mono ?_
    rintro rs rfl
    refine ⟨_, rfl, fun hq => ?_, fun hq => ?_⟩
    · refine (fn50 hM f.bs (by omega) (fun t ht => by have := hbs t ht; omega)).mono ?_
      rintro rs rfl
      refine ⟨_, rfl, ?_⟩
      refine (fn51 f.n).mono ?_
      rintro rs rfl
      refine ⟨_, rfl, ?_⟩
      simp only [good2, ha, hq, if_true, Bool.false_eq_true, if_false]
    · simp only [good2, ha, hq, Bool.false_eq_true, if_false]
end
end Go.Fo
/- Check: the range over all subformulas that may end early. -/
namespace Go.Fo
open Go Go.Sx Go.Proofs
set_option maxRecDepth 100000

noncomputable def c13 : Code := unScope (loopN (bodyOf Tryd.f25) 0)
def tm13 : List AV := [.any, .any, .ptr 1 0, .any, .any, .any, .any, .any, .any, .any, .any, .any, .any, .any, .any, .any, .any, .any]
noncomputable def h13 (f0 : Fm) (ok : Bool) : List Box := [.cells 33 (fmAVs f0), .cells 26 [.d (.int .i64 (if ok then 0 else 1))], .loop tm13 (rpPs c13) (rpAsn c13) (rpBd c13) (if ok then none else some .ret) (if ok then .ready else .done)]
noncomputable def h13t (f0 : Fm) : List Box := [.cells 33 (fmAVs f0), .cells 26 [.d (.int .i64 0)], .loop tm13 (rpPs c13) (rpAsn c13) (rpBd c13) none .ready]

section
variable {M : Maps}

theorem yld13 (hM : M.Ok) (f0 x : Fm) (hx : x.wt < 4611686018427387904) : PYield Tryd.prog (GG M) 2 [.d x.d] (h13t f0) (fun rs H' => rs = [.bool (nodeB x)] ∧ H' = h13 f0 (nodeB x)) := by
  have h31 := fn31 hM x hx
  rw [d_cells] at h31 ⊢
  refine PYield.walk (tm := tm13) (ps := rpPs c13) (asn := rpAsn c13) (bd := rpBd c13) mixed L0 rfl (by kernel_rfl) rfl rfl ⟨_, _, rfl, rfl⟩ (fun _ => ok0 (by kernel_rfl)) (fun _ => ok0 (by kernel_rfl)) ?_
  apply @of_vc _ (
    PFn Tryd.prog (GG M) (46 : Nat) [D.agg [D.int IntKind.i64 (Fm.kind x), D.str (Fm.name x), D.int IntKind.i64 (Fm.n x), D.sl (List.map Tm.d (Fm.ts x)), D.sl (List.map Bd.d (Fm.bs x)), D.sl
    (List.map Fm.d (Fm.l x))]] fun (rs : List D) => ∃ (b : Bool), rs = [D.bool b] ∧ ((!b) = true → [D.bool false] = [D.bool (nodeB x)] ∧ [Box.cells (33 : Nat) [AV.d (D.int IntKind.i64
    (Fm.kind f0)), AV.d (D.str (Fm.name f0)), AV.d (D.int IntKind.i64 (Fm.n f0)), AV.d (D.sl (List.map Tm.d (Fm.ts f0))), AV.d (D.sl (List.map Bd.d (Fm.bs f0))), AV.d (D.sl (List.map Fm.d
    (Fm.l f0)))], Box.cells (26 : Nat) [AV.d (D.int IntKind.i64 (1 : Int))], Box.loop [AV.any, AV.any, AV.ptr (1 : Nat) (0 : Nat), AV.any, AV.any, AV.any, AV.any, AV.any, AV.any, AV.any,
    AV.any, AV.any, AV.any, AV.any, AV.any, AV.any, AV.any, AV.any] (rpPs c13) (rpAsn c13) (rpBd c13) (some Code.ret) LoopState.done] = [Box.cells (33 : Nat) [AV.d (D.int IntKind.i64
    (Fm.kind f0)), AV.d (D.str (Fm.name f0)), AV.d (D.int IntKind.i64 (Fm.n f0)), AV.d (D.sl (List.map Tm.d (Fm.ts f0))), AV.d (D.sl (List.map Bd.d (Fm.bs f0))), AV.d (D.sl (List.map Fm.d
    (Fm.l f0)))], Box.cells (26 : Nat) [AV.d (D.int IntKind.i64 (if nodeB x = true then (0 : Int) else (1 : Int)))], Box.loop [AV.any, AV.any, AV.ptr (1 : Nat) (0 : Nat), AV.any, AV.any,
    AV.any, AV.any, AV.any, AV.any, AV.any, AV.any, AV.any, AV.any, AV.any, AV.any, AV.any, AV.any, AV.any] (rpPs c13) (rpAsn c13) (rpBd c13) (if nodeB x = true then none else some Code.ret)
    (if nodeB x = true then LoopState.ready else LoopState.done)]) ∧ ((!b) = false → [D.bool true] = [D.bool (nodeB x)] ∧ [Box.cells (33 : Nat) [AV.d (D.int IntKind.i64 (Fm.kind f0)), AV.d
    (D.str (Fm.name f0)), AV.d (D.int IntKind.i64 (Fm.n f0)), AV.d (D.sl (List.map Tm.d (Fm.ts f0))), AV.d (D.sl (List.map Bd.d (Fm.bs f0))), AV.d (D.sl (List.map Fm.d (Fm.l f0)))],
    Box.cells (26 : Nat) [AV.d (D.int IntKind.i64 (0 : Int))], Box.loop [AV.any, AV.any, AV.ptr (1 : Nat) (0 : Nat), AV.any, AV.any, AV.any, AV.any, AV.any, AV.any, AV.any, AV.any, AV.any,
    AV.any, AV.any, AV.any, AV.any, AV.any, AV.any] (rpPs c13) (rpAsn c13) (rpBd c13) none LoopState.ready] = [Box.cells (33 : Nat) [AV.d (D.int IntKind.i64 (Fm.kind f0)), AV.d (D.str
    (Fm.name f0)), AV.d (D.int IntKind.i64 (Fm.n f0)), AV.d (D.sl (List.map Tm.d (Fm.ts f0))), AV.d (D.sl (List.map Bd.d (Fm.bs f0))), AV.d (D.sl (List.map Fm.d (Fm.l f0)))], Box.cells (26 :
    Nat) [AV.d (D.int IntKind.i64 (if nodeB x = true then (0 : Int) else (1 : Int)))], Box.loop [AV.any, AV.any, AV.ptr (1 : Nat) (0 : Nat), AV.any, AV.any, AV.any, AV.any, AV.any, AV.any,
    AV.any, AV.any, AV.any, AV.any, AV.any, AV.any, AV.any, AV.any, AV.any] (rpPs c13) (rpAsn c13) (rpBd c13) (if nodeB x = true then none else some Code.ret) (if nodeB x = true then
    LoopState.ready else LoopState.done)]))
  · kernel_rfl
  refine h31.mono ?_
  rintro rs rfl
  refine ⟨_, rfl, fun h => ?_, fun h => ?_⟩
  · have e : nodeB x = false := by simpa using h
    rw [e]; exact ⟨rfl, rfl⟩
  · have e : nodeB x = true := by simpa using h
    rw [e]; exact ⟨rfl, rfl⟩

theorem fn41c (hM : M.Ok) (f0 x : Fm) (hx : x.wt < 4611686018427387904) : PCall Tryd.prog (GG M) 67 [.d x.d, .yld 2] (h13t f0) (fun rs H' => rs = [.bool x.formB] ∧ H' = h13 f0 x.formB) := by
  induction x using Fm.induct with
  | h x ih =>
  have hw := x.wt_eq
  have hl := wts_len x.l
  have hy := yld13 hM f0 x hx
  rw [d_cells] at hy ⊢
  refine PCall.walk (fn := Tryd.f67) (code := bodyOf Tryd.f67) mixed
    (LL [(4, loopW (α := Nat) Tryd.prog (GG M) L0 3 (loopN (bodyOf Tryd.f67) 0) [1, 2, 12, 13] (fun i => i ≤ x.l.length ∧ nodeB x = true ∧ (x.l.take i).all Fm.formB = true) (fun i => x.l.length - i)
      (fun i => [(14, .d (.int .i64 i))]) (fun H i => h13t f0 ++ H.drop 3))])
    Tryd.func67 (by kernel_rfl) rfl ⟨_, _, rfl, rfl⟩ (LoopsOk.one (b1 := loopN (bodyOf Tryd.f67) 0) (by kernel_rfl) (by kernel_rfl) (loopW_sound mixed (ok0 (by kernel_rfl)))) ?_
  apply @of_vc _ (
    PYield Tryd.prog (GG M) (2 : Nat) [AV.d (D.agg [D.int IntKind.i64 (Fm.kind x), D.str (Fm.name x), D.int IntKind.i64 (Fm.n x), D.sl (List.map Tm.d (Fm.ts x)), D.sl (List.map Bd.d (Fm.bs
    x)), D.sl (List.map Fm.d (Fm.l x))])] [Box.cells (33 : Nat) [AV.d (D.int IntKind.i64 (Fm.kind f0)), AV.d (D.str (Fm.name f0)), AV.d (D.int IntKind.i64 (Fm.n f0)), AV.d (D.sl (List.map
    Tm.d (Fm.ts f0))), AV.d (D.sl (List.map Bd.d (Fm.bs f0))), AV.d (D.sl (List.map Fm.d (Fm.l f0)))], Box.cells (26 : Nat) [AV.d (D.int IntKind.i64 (0 : Int))], Box.loop [AV.any, AV.any,
    AV.ptr (1 : Nat) (0 : Nat), AV.any, AV.any, AV.any, AV.any, AV.any, AV.any, AV.any, AV.any, AV.any, AV.any, AV.any, AV.any, AV.any, AV.any, AV.any] (rpPs c13) (rpAsn c13) (rpBd c13) none
    LoopState.ready] fun (rs : List D) (H' : List Box) => ∃ (b : Bool), rs = [D.bool b] ∧ ∃ (n : Int), ∃ (s : List UInt8), ∃ (n_1 : Int), ∃ (l : List D), ∃ (l_1 : List D), ∃ (l_2 : List D),
    ∃ (n_2 : Int), ∃ (pend : Option Code), ∃ (st : LoopState), H' = [Box.cells (33 : Nat) [AV.d (D.int IntKind.i64 n), AV.d (D.str s), AV.d (D.int IntKind.i64 n_1), AV.d (D.sl l), AV.d (D.sl
    l_1), AV.d (D.sl l_2)], Box.cells (26 : Nat) [AV.d (D.int IntKind.i64 n_2)], Box.loop [AV.any, AV.any, AV.ptr (1 : Nat) (0 : Nat), AV.any, AV.any, AV.any, AV.any, AV.any, AV.any, AV.any,
    AV.any, AV.any, AV.any, AV.any, AV.any, AV.any, AV.any, AV.any] (rpPs c13) (rpAsn c13) (rpBd c13) pend st] ∧ ((!b) = true → [D.bool false] = [D.bool (Fm.formB x)] ∧ [Box.cells (33 : Nat)
    [AV.d (D.int IntKind.i64 n), AV.d (D.str s), AV.d (D.int IntKind.i64 n_1), AV.d (D.sl l), AV.d (D.sl l_1), AV.d (D.sl l_2)], Box.cells (26 : Nat) [AV.d (D.int IntKind.i64 n_2)], Box.loop
    [AV.any, AV.any, AV.ptr (1 : Nat) (0 : Nat), AV.any, AV.any, AV.any, AV.any, AV.any, AV.any, AV.any, AV.any, AV.any, AV.any, AV.any, AV.any, AV.any, AV.any, AV.any] (rpPs c13) (rpAsn
    c13) (rpBd c13) pend st] = [Box.cells (33 : Nat) [AV.d (D.int IntKind.i64 (Fm.kind f0)), AV.d (D.str (Fm.name f0)), AV.d (D.int IntKind.i64 (Fm.n f0)), AV.d (D.sl (List.map Tm.d (Fm.ts
    f0))), AV.d (D.sl (List.map Bd.d (Fm.bs f0))), AV.d (D.sl (List.map Fm.d (Fm.l f0)))], Box.cells (26 : Nat) [AV.d (D.int IntKind.i64 (if Fm.formB x = true then (0 : Int) else (1 :
    Int)))], Box.loop [AV.any, AV.any, AV.ptr (1 : Nat) (0 : Nat), AV.any, AV.any, AV.any, AV.any, AV.any, AV.any, AV.any, AV.any, AV.any, AV.any, AV.any, AV.any, AV.any, AV.any, AV.any]
    (rpPs c13) (rpAsn c13) (rpBd c13) (if Fm.formB x = true then none else some Code.ret) (if Fm.formB x = true then LoopState.ready else LoopState.done)]) ∧ ((!b) = false → ∃ (x0 : Nat),
    (x0 ≤ List.length (Fm.l x) ∧ nodeB x = true ∧ List.all (List.take x0 (Fm.l x)) Fm.formB = true) ∧ ((AV.yld (2 : Nat) = AV.yld (2 : Nat) ∧ AV.ptr (3 : Nat) (0 : Nat) = AV.ptr (3 : Nat) (0
    : Nat) ∧ List.map Fm.d (Fm.l x) = List.map Fm.d (Fm.l x) ∧ (↑(List.length (List.map Fm.d (Fm.l x))) : Int) = (↑(List.length (List.map Fm.d (Fm.l x))) : Int) ∧ (0 : Int) = (↑x0 : Int) ∧
    True) ∧ (n = Fm.kind f0 ∧ s = Fm.name f0 ∧ n_1 = Fm.n f0 ∧ l = List.map Tm.d (Fm.ts f0) ∧ l_1 = List.map Bd.d (Fm.bs f0) ∧ l_2 = List.map Fm.d (Fm.l f0) ∧ True) ∧ (n_2 = (0 : Int) ∧
    True) ∧ Box.loop [AV.any, AV.any, AV.ptr (1 : Nat) (0 : Nat), AV.any, AV.any, AV.any, AV.any, AV.any, AV.any, AV.any, AV.any, AV.any, AV.any, AV.any, AV.any, AV.any, AV.any, AV.any]
    (rpPs c13) (rpAsn c13) (rpBd c13) pend st = Box.loop [AV.any, AV.any, AV.ptr (1 : Nat) (0 : Nat), AV.any, AV.any, AV.any, AV.any, AV.any, AV.any, AV.any, AV.any, AV.any, AV.any, AV.any,
    AV.any, AV.any, AV.any, AV.any] (rpPs c13) (rpAsn c13) (rpBd c13) none LoopState.ready ∧ (Fm.kind x = Fm.kind x ∧ Fm.name x = Fm.name x ∧ Fm.n x = Fm.n x ∧ List.map Tm.d (Fm.ts x) =
    List.map Tm.d (Fm.ts x) ∧ List.map Bd.d (Fm.bs x) = List.map Bd.d (Fm.bs x) ∧ List.map Fm.d (Fm.l x) = List.map Fm.d (Fm.l x) ∧ True) ∧ True) ∧ ∀ (x_1 : Nat), x_1 ≤ List.length (Fm.l x)
    ∧ nodeB x = true ∧ List.all (List.take x_1 (Fm.l x)) Fm.formB = true → (decide ((↑x_1 : Int) < (↑(List.length (List.map Fm.d (Fm.l x))) : Int)) = true → ((0 : Int) ≤ (↑x_1 : Int) ∧
    (List.map Fm.d (Fm.l x))[Int.toNat (↑x_1 : Int)]? = some (aggAt [Sh.int IntKind.i64, Sh.str, Sh.int IntKind.i64, Sh.sl, Sh.sl, Sh.sl] (List.map Fm.d (Fm.l x)) (Int.toNat (↑x_1 : Int))))
    ∧ PCall Tryd.prog (GG M) (67 : Nat) [AV.d (aggAt [Sh.int IntKind.i64, Sh.str, Sh.int IntKind.i64, Sh.sl, Sh.sl, Sh.sl] (List.map Fm.d (Fm.l x)) (Int.toNat (↑x_1 : Int))), AV.yld (2 :
    Nat)] [Box.cells (33 : Nat) [AV.d (D.int IntKind.i64 (Fm.kind f0)), AV.d (D.str (Fm.name f0)), AV.d (D.int IntKind.i64 (Fm.n f0)), AV.d (D.sl (List.map Tm.d (Fm.ts f0))), AV.d (D.sl
    (List.map Bd.d (Fm.bs f0))), AV.d (D.sl (List.map Fm.d (Fm.l f0)))], Box.cells (26 : Nat) [AV.d (D.int IntKind.i64 (0 : Int))], Box.loop [AV.any, AV.any, AV.ptr (1 : Nat) (0 : Nat),
    AV.any, AV.any, AV.any, AV.any, AV.any, AV.any, AV.any, AV.any, AV.any, AV.any, AV.any, AV.any, AV.any, AV.any, AV.any] (rpPs c13) (rpAsn c13) (rpBd c13) none LoopState.ready] fun (rs :
    List D) (H' : List Box) => ∃ (b : Bool), rs = [D.bool b] ∧ ∃ (n : Int), ∃ (s : List UInt8), ∃ (n_3 : Int), ∃ (l : List D), ∃ (l_3 : List D), ∃ (l_4 : List D), ∃ (n_4 : Int), ∃ (pend :
    Option Code), ∃ (st : LoopState), H' = [Box.cells (33 : Nat) [AV.d (D.int IntKind.i64 n), AV.d (D.str s), AV.d (D.int IntKind.i64 n_3), AV.d (D.sl l), AV.d (D.sl l_3), AV.d (D.sl l_4)],
    Box.cells (26 : Nat) [AV.d (D.int IntKind.i64 n_4)], Box.loop [AV.any, AV.any, AV.ptr (1 : Nat) (0 : Nat), AV.any, AV.any, AV.any, AV.any, AV.any, AV.any, AV.any, AV.any, AV.any, AV.any,
    AV.any, AV.any, AV.any, AV.any, AV.any] (rpPs c13) (rpAsn c13) (rpBd c13) pend st] ∧ ((!b) = true → [D.bool false] = [D.bool (Fm.formB x)] ∧ [Box.cells (33 : Nat) [AV.d (D.int
    IntKind.i64 n), AV.d (D.str s), AV.d (D.int IntKind.i64 n_3), AV.d (D.sl l), AV.d (D.sl l_3), AV.d (D.sl l_4)], Box.cells (26 : Nat) [AV.d (D.int IntKind.i64 n_4)], Box.loop [AV.any,
    AV.any, AV.ptr (1 : Nat) (0 : Nat), AV.any, AV.any, AV.any, AV.any, AV.any, AV.any, AV.any, AV.any, AV.any, AV.any, AV.any, AV.any, AV.any, AV.any, AV.any] (rpPs c13) (rpAsn c13) (rpBd
    c13) pend st] = [Box.cells (33 : Nat) [AV.d (D.int IntKind.i64 (Fm.kind f0)), AV.d (D.str (Fm.name f0)), AV.d (D.int IntKind.i64 (Fm.n f0)), AV.d (D.sl (List.map Tm.d (Fm.ts f0))), AV.d
    (D.sl (List.map Bd.d (Fm.bs f0))), AV.d (D.sl (List.map Fm.d (Fm.l f0)))], Box.cells (26 : Nat) [AV.d (D.int IntKind.i64 (if Fm.formB x = true then (0 : Int) else (1 : Int)))], Box.loop
    [AV.any, AV.any, AV.ptr (1 : Nat) (0 : Nat), AV.any, AV.any, AV.any, AV.any, AV.any, AV.any, AV.any, AV.any, AV.any, AV.any, AV.any, AV.any, AV.any, AV.any, AV.any] (rpPs c13) (rpAsn
    c13) (rpBd c13) (if Fm.formB x = true then none else some Code.ret) (if Fm.formB x = true then LoopState.ready else LoopState.done)]) ∧ ((!b) = false → ∃ (y : Nat), (y ≤ List.length
    (Fm.l x) ∧ nodeB x = true ∧ List.all (List.take y (Fm.l x)) Fm.formB = true) ∧ List.length (Fm.l x) - y < List.length (Fm.l x) - x_1 ∧ (AV.yld (2 : Nat) = AV.yld (2 : Nat) ∧ AV.ptr (3 :
    Nat) (0 : Nat) = AV.ptr (3 : Nat) (0 : Nat) ∧ List.map Fm.d (Fm.l x) = List.map Fm.d (Fm.l x) ∧ (↑(List.length (List.map Fm.d (Fm.l x))) : Int) = (↑(List.length (List.map Fm.d (Fm.l x)))
    : Int) ∧ IntKind.wrap IntKind.i64 ((↑x_1 : Int) + (1 : Int)) = (↑y : Int) ∧ True) ∧ (n = Fm.kind f0 ∧ s = Fm.name f0 ∧ n_3 = Fm.n f0 ∧ l = List.map Tm.d (Fm.ts f0) ∧ l_3 = List.map Bd.d
    (Fm.bs f0) ∧ l_4 = List.map Fm.d (Fm.l f0) ∧ True) ∧ (n_4 = (0 : Int) ∧ True) ∧ Box.loop [AV.any, AV.any, AV.ptr (1 : Nat) (0 : Nat), AV.any, AV.any, AV.any, AV.any, AV.any, AV.any,
    AV.any, AV.any, AV.any, AV.any, AV.any, AV.any, AV.any, AV.any, AV.any] (rpPs c13) (rpAsn c13) (rpBd c13) pend st = Box.loop [AV.any, AV.any, AV.ptr (1 : Nat) (0 : Nat), AV.any, AV.any,
    AV.any, AV.any, AV.any, AV.any, AV.any, AV.any, AV.any, AV.any, AV.any, AV.any, AV.any, AV.any, AV.any] (rpPs c13) (rpAsn c13) (rpBd c13) none LoopState.ready ∧ (Fm.kind x = Fm.kind x ∧
    Fm.name x = Fm.name x ∧ Fm.n x = Fm.n x ∧ List.map Tm.d (Fm.ts x) = List.map Tm.d (Fm.ts x) ∧ List.map Bd.d (Fm.bs x) = List.map Bd.d (Fm.bs x) ∧ List.map Fm.d (Fm.l x) = List.map Fm.d
    (Fm.l x) ∧ True) ∧ True)) ∧ (decide ((↑x_1 : Int) < (↑(List.length (List.map Fm.d (Fm.l x))) : Int)) = false → [D.bool true] = [D.bool (Fm.formB x)] ∧ [Box.cells (33 : Nat) [AV.d (D.int
    IntKind.i64 (Fm.kind f0)), AV.d (D.str (Fm.name f0)), AV.d (D.int IntKind.i64 (Fm.n f0)), AV.d (D.sl (List.map Tm.d (Fm.ts f0))), AV.d (D.sl (List.map Bd.d (Fm.bs f0))), AV.d (D.sl
    (List.map Fm.d (Fm.l f0)))], Box.cells (26 : Nat) [AV.d (D.int IntKind.i64 (0 : Int))], Box.loop [AV.any, AV.any, AV.ptr (1 : Nat) (0 : Nat), AV.any, AV.any, AV.any, AV.any, AV.any,
    AV.any, AV.any, AV.any, AV.any, AV.any, AV.any, AV.any, AV.any, AV.any, AV.any] (rpPs c13) (rpAsn c13) (rpBd c13) none LoopState.ready] = [Box.cells (33 : Nat) [AV.d (D.int IntKind.i64
    (Fm.kind f0)), AV.d (D.str (Fm.name f0)), AV.d (D.int IntKind.i64 (Fm.n f0)), AV.d (D.sl (List.map Tm.d (Fm.ts f0))), AV.d (D.sl (List.map Bd.d (Fm.bs f0))), AV.d (D.sl (List.map Fm.d
    (Fm.l f0)))], Box.cells (26 : Nat) [AV.d (D.int IntKind.i64 (if Fm.formB x = true then (0 : Int) else (1 : Int)))], Box.loop [AV.any, AV.any, AV.ptr (1 : Nat) (0 : Nat), AV.any, AV.any,
    AV.any, AV.any, AV.any, AV.any, AV.any, AV.any, AV.any, AV.any, AV.any, AV.any, AV.any, AV.any, AV.any] (rpPs c13) (rpAsn c13) (rpBd c13) (if Fm.formB x = true then none else some
    Code.ret) (if Fm.formB x = true then LoopState.ready else LoopState.done)])))
  · kernel_rfl
  refine hy.mono ?_
  rintro rs H' ⟨rfl, rfl⟩
  refine ⟨_, rfl, _, _, _, _, _, _, _, _, _, rfl, fun h => ?_, fun h => ⟨0, ⟨by omega, by simpa using h, rfl⟩, ?_, fun i hi => ⟨fun hlt => ?_, fun hge => ?_⟩⟩⟩
  · have e : nodeB x = false := by simpa using h
    have e2 : x.formB = false := by rw [x.formB_eq, e, Bool.false_and]
    rw [e, e2]; exact ⟨rfl, rfl⟩
  · have e : nodeB x = true := by simpa using h
    rw [e]
    exact ⟨⟨rfl, rfl, rfl, rfl, rfl, trivial⟩, ⟨rfl, rfl, rfl, rfl, rfl, rfl, trivial⟩, ⟨rfl, trivial⟩, rfl, ⟨rfl, rfl, rfl, rfl, rfl, rfl, trivial⟩, trivial⟩
  · simp only [List.length_map, decide_eq_true_eq] at hlt
    obtain ⟨z, hz, hm⟩ := get_nat (l := x.l) (x := i) (by omega)
    rw [Int.toNat_natCast, agg_fm hz]
    refine ⟨⟨by omega, by simp [hz]⟩, ?_⟩
    refine (ih z hm (by have := Fm.wt_lt hm; omega)).mono ?_
    rintro rs H' ⟨rfl, rfl⟩
    refine ⟨_, rfl, _, _, _, _, _, _, _, _, _, rfl, fun h => ?_, fun h => ⟨i + 1, ⟨by omega, hi.2.1, ?_⟩, by omega, ?_⟩⟩
    · have e : z.formB = false := by simpa using h
      have e2 : x.formB = false := by
        have : x.l.all Fm.formB = false := by
          rw [List.all_eq_false]
          exact ⟨z, hm, by simp [e]⟩
        rw [x.formB_eq, formsB_all, this, Bool.and_false]
      rw [e, e2]; exact ⟨rfl, rfl⟩
    · have e : z.formB = true := by simpa using h
      rw [List.take_add_one, hz, List.all_append, hi.2.2]
      simp [e]
    · have e : z.formB = true := by simpa using h
      rw [e]
      exact ⟨⟨rfl, rfl, rfl, rfl, by rw [wrap64 (by omega) (by omega)]; simp, trivial⟩, ⟨rfl, rfl, rfl, rfl, rfl, rfl, trivial⟩, ⟨rfl, trivial⟩, rfl, ⟨rfl, rfl, rfl, rfl, rfl, rfl, trivial⟩, trivial⟩
  · simp only [List.length_map, decide_eq_false_iff_not] at hge
    have h2 := hi.2.2
    rw [List.take_of_length_le (by omega)] at h2
    have e2 : x.formB = true := by rw [x.formB_eq, formsB_all, h2, hi.2.1]; rfl
    rw [e2]; exact ⟨rfl, rfl⟩

theorem fn40c (hM : M.Ok) (f0 x : Fm) (hx : x.wt < 4611686018427387904) : PCall Tryd.prog (GG M) 66 [.yld 2, .iptr (fmCells x)] (h13t f0) (fun _ H' => H' = h13 f0 x.formB) := by
  have h := fn41c hM f0 x hx
  rw [d_cells] at h
  refine PCall.walk (fn := Tryd.f66) (code := bodyOf Tryd.f66) mixed L0 Tryd.func66 (by kernel_rfl) rfl ⟨[], _, rfl⟩ (ok0 (by kernel_rfl)) ?_
  apply @of_vc _ (
    PCall Tryd.prog (GG M) (67 : Nat) [AV.d (D.agg [D.int IntKind.i64 (Fm.kind x), D.str (Fm.name x), D.int IntKind.i64 (Fm.n x), D.sl (List.map Tm.d (Fm.ts x)), D.sl (List.map Bd.d (Fm.bs
    x)), D.sl (List.map Fm.d (Fm.l x))]), AV.yld (2 : Nat)] [Box.cells (33 : Nat) [AV.d (D.int IntKind.i64 (Fm.kind f0)), AV.d (D.str (Fm.name f0)), AV.d (D.int IntKind.i64 (Fm.n f0)), AV.d
    (D.sl (List.map Tm.d (Fm.ts f0))), AV.d (D.sl (List.map Bd.d (Fm.bs f0))), AV.d (D.sl (List.map Fm.d (Fm.l f0)))], Box.cells (26 : Nat) [AV.d (D.int IntKind.i64 (0 : Int))], Box.loop
    [AV.any, AV.any, AV.ptr (1 : Nat) (0 : Nat), AV.any, AV.any, AV.any, AV.any, AV.any, AV.any, AV.any, AV.any, AV.any, AV.any, AV.any, AV.any, AV.any, AV.any, AV.any] (rpPs c13) (rpAsn
    c13) (rpBd c13) none LoopState.ready] fun (rs : List D) (H' : List Box) => ∃ (b : Bool), rs = [D.bool b] ∧ ∃ (n : Int), ∃ (s : List UInt8), ∃ (n_1 : Int), ∃ (l : List D), ∃ (l_1 : List
    D), ∃ (l_2 : List D), ∃ (n_2 : Int), ∃ (pend : Option Code), ∃ (st : LoopState), H' = [Box.cells (33 : Nat) [AV.d (D.int IntKind.i64 n), AV.d (D.str s), AV.d (D.int IntKind.i64 n_1),
    AV.d (D.sl l), AV.d (D.sl l_1), AV.d (D.sl l_2)], Box.cells (26 : Nat) [AV.d (D.int IntKind.i64 n_2)], Box.loop [AV.any, AV.any, AV.ptr (1 : Nat) (0 : Nat), AV.any, AV.any, AV.any,
    AV.any, AV.any, AV.any, AV.any, AV.any, AV.any, AV.any, AV.any, AV.any, AV.any, AV.any, AV.any] (rpPs c13) (rpAsn c13) (rpBd c13) pend st] ∧ [Box.cells (33 : Nat) [AV.d (D.int
    IntKind.i64 n), AV.d (D.str s), AV.d (D.int IntKind.i64 n_1), AV.d (D.sl l), AV.d (D.sl l_1), AV.d (D.sl l_2)], Box.cells (26 : Nat) [AV.d (D.int IntKind.i64 n_2)], Box.loop [AV.any,
    AV.any, AV.ptr (1 : Nat) (0 : Nat), AV.any, AV.any, AV.any, AV.any, AV.any, AV.any, AV.any, AV.any, AV.any, AV.any, AV.any, AV.any, AV.any, AV.any, AV.any] (rpPs c13) (rpAsn c13) (rpBd
    c13) pend st] = [Box.cells (33 : Nat) [AV.d (D.int IntKind.i64 (Fm.kind f0)), AV.d (D.str (Fm.name f0)), AV.d (D.int IntKind.i64 (Fm.n f0)), AV.d (D.sl (List.map Tm.d (Fm.ts f0))), AV.d
    (D.sl (List.map Bd.d (Fm.bs f0))), AV.d (D.sl (List.map Fm.d (Fm.l f0)))], Box.cells (26 : Nat) [AV.d (D.int IntKind.i64 (if Fm.formB x = true then (0 : Int) else (1 : Int)))], Box.loop
    [AV.any, AV.any, AV.ptr (1 : Nat) (0 : Nat), AV.any, AV.any, AV.any, AV.any, AV.any, AV.any, AV.any, AV.any, AV.any, AV.any, AV.any, AV.any, AV.any, AV.any, AV.any] (rpPs c13) (rpAsn
    c13) (rpBd c13) (if Fm.formB x = true then none else some Code.ret) (if Fm.formB x = true then LoopState.ready else LoopState.done)])
  · kernel_rfl
  refine h.mono ?_
  rintro rs H' ⟨rfl, rfl⟩
  exact ⟨_, rfl, _, _, _, _, _, _, _, _, _, rfl, rfl⟩

theorem fn13 (hM : M.Ok) (f : Fm) (hf : f.wt < 4611686018427387904) : PFn Tryd.prog (GG M) 25 [f.d] (· = [.int .i64 f.checkI]) := by
  have hr := f.rank_le_wt
  have h15 := fn15 (G := GG M) f (by omega)
  have h17 := fn17 (G := GG M) f (by omega)
  rw [d_cells] at h15 h17 ⊢
  refine PFn.walk (fn := Tryd.f25) (code := bodyOf Tryd.f25) mixed
    (LL [(1000001, rangeW Tryd.prog (GG M) [2] itAll c13)])
    Tryd.func25 (by kernel_rfl) ⟨_, rfl⟩ (LoopsOk.one (b1 := loopN (bodyOf Tryd.f25) 0) (by kernel_rfl) (by kernel_rfl) (rangeW_sound (by kernel_rfl))) ?_
  apply @of_vc _ (
    (PFnA Tryd.prog (GG M) (45 : Nat) [D.agg [D.int IntKind.i64 (Fm.kind f), D.str (Fm.name f), D.int IntKind.i64 (Fm.n f), D.sl (List.map Tm.d (Fm.ts f)), D.sl (List.map Bd.d (Fm.bs f)),
    D.sl (List.map Fm.d (Fm.l f))]] fun (av : AV) => av = AV.clo (66 : Nat) [] [AV.iptr [D.int IntKind.i64 (Fm.kind f), D.str (Fm.name f), D.int IntKind.i64 (Fm.n f), D.sl (List.map Tm.d
    (Fm.ts f)), D.sl (List.map Bd.d (Fm.bs f)), D.sl (List.map Fm.d (Fm.l f))]]) ∧ PCall Tryd.prog (GG M) (66 : Nat) [AV.yld (2 : Nat), AV.iptr [D.int IntKind.i64 (Fm.kind f), D.str (Fm.name
    f), D.int IntKind.i64 (Fm.n f), D.sl (List.map Tm.d (Fm.ts f)), D.sl (List.map Bd.d (Fm.bs f)), D.sl (List.map Fm.d (Fm.l f))]] [Box.cells (33 : Nat) [AV.d (D.int IntKind.i64 (Fm.kind
    f)), AV.d (D.str (Fm.name f)), AV.d (D.int IntKind.i64 (Fm.n f)), AV.d (D.sl (List.map Tm.d (Fm.ts f))), AV.d (D.sl (List.map Bd.d (Fm.bs f))), AV.d (D.sl (List.map Fm.d (Fm.l f)))],
    Box.cells (26 : Nat) [AV.d (D.int IntKind.i64 (0 : Int))], Box.loop [AV.any, AV.any, AV.ptr (1 : Nat) (0 : Nat), AV.any, AV.any, AV.any, AV.any, AV.any, AV.any, AV.any, AV.any, AV.any,
    AV.any, AV.any, AV.any, AV.any, AV.any, AV.any] (rpPs c13) (rpAsn c13) (rpBd c13) none LoopState.ready] fun (x : List D) (H' : List Box) => ∃ (n : Int), ∃ (s : List UInt8), ∃ (n_1 :
    Int), ∃ (l : List D), ∃ (l_1 : List D), ∃ (l_2 : List D), ∃ (n_2 : Int), ∃ (pend : Option Code), ∃ (st : LoopState), H' = [Box.cells (33 : Nat) [AV.d (D.int IntKind.i64 n), AV.d (D.str
    s), AV.d (D.int IntKind.i64 n_1), AV.d (D.sl l), AV.d (D.sl l_1), AV.d (D.sl l_2)], Box.cells (26 : Nat) [AV.d (D.int IntKind.i64 n_2)], Box.loop [AV.any, AV.any, AV.ptr (1 : Nat) (0 :
    Nat), AV.any, AV.any, AV.any, AV.any, AV.any, AV.any, AV.any, AV.any, AV.any, AV.any, AV.any, AV.any, AV.any, AV.any, AV.any] (rpPs c13) (rpAsn c13) (rpBd c13) pend st] ∧ st ≠
    LoopState.busy ∧ ((pend = none ∧ PFn Tryd.prog (GG M) (47 : Nat) [D.agg [D.int IntKind.i64 n, D.str s, D.int IntKind.i64 n_1, D.sl l, D.sl l_1, D.sl l_2]] fun (rs : List D) => ∃ (n_3 :
    Int), rs = [D.int IntKind.i64 n_3] ∧ PFn Tryd.prog (GG M) (48 : Nat) [D.agg [D.int IntKind.i64 n, D.str s, D.int IntKind.i64 n_1, D.sl l, D.sl l_1, D.sl l_2]] fun (rs : List D) => ∃ (n :
    Int), rs = [D.int IntKind.i64 n] ∧ ((bif decide (n_3 > (256 : Int)) then true else decide (n > (24 : Int))) = true → [D.int IntKind.i64 (2 : Int)] = [D.int IntKind.i64 (Fm.checkI f)]) ∧
    ((bif decide (n_3 > (256 : Int)) then true else decide (n > (24 : Int))) = false → [D.int IntKind.i64 (0 : Int)] = [D.int IntKind.i64 (Fm.checkI f)])) ∨ pend = some Code.ret ∧ [D.int
    IntKind.i64 n_2] = [D.int IntKind.i64 (Fm.checkI f)] ∨ pend = some (Code.exit (rpJ c13)) ∧ PFn Tryd.prog (GG M) (47 : Nat) [D.agg [D.int IntKind.i64 n, D.str s, D.int IntKind.i64 n_1,
    D.sl l, D.sl l_1, D.sl l_2]] fun (rs : List D) => ∃ (n_3 : Int), rs = [D.int IntKind.i64 n_3] ∧ PFn Tryd.prog (GG M) (48 : Nat) [D.agg [D.int IntKind.i64 n, D.str s, D.int IntKind.i64
    n_1, D.sl l, D.sl l_1, D.sl l_2]] fun (rs : List D) => ∃ (n : Int), rs = [D.int IntKind.i64 n] ∧ ((bif decide (n_3 > (256 : Int)) then true else decide (n > (24 : Int))) = true → [D.int
    IntKind.i64 (2 : Int)] = [D.int IntKind.i64 (Fm.checkI f)]) ∧ ((bif decide (n_3 > (256 : Int)) then true else decide (n > (24 : Int))) = false → [D.int IntKind.i64 (0 : Int)] = [D.int
    IntKind.i64 (Fm.checkI f)])))
  · kernel_rfl
  refine ⟨fn30 f, ?_⟩
  refine (fn40c hM f f hf).mono ?_
  rintro rs H' rfl
  refine ⟨_, _, _, _, _, _, _, _, _, rfl, ?_, ?_⟩
  · cases f.formB <;> decide
  · cases hb : f.formB with
    | false =>
      refine .inr (.inl ⟨rfl, ?_⟩)
      simp [Fm.checkI, hb]
    | true =>
      refine .inl ⟨rfl, ?_⟩
      refine h15.mono ?_
      rintro rs rfl
      refine ⟨_, rfl, ?_⟩
      refine h17.mono ?_
      rintro rs rfl
      refine ⟨_, rfl, ?_⟩
      have e : (bif decide ((f.rank : Int) > 256) then true else decide ((f.depth : Int) > 24)) = decide (256 < f.rank ∨ 24 < f.depth) := by
        rw [Bool.eq_iff_iff, bif_or]; simp; omega
      rw [e]
      refine ⟨fun h2 => ?_, fun h2 => ?_⟩
      · simp only [decide_eq_true_eq] at h2
        simp [Fm.checkI, hb, h2]
      · simp only [decide_eq_false_iff_not] at h2
        simp only [Fm.checkI, hb, if_true, if_neg h2]
end
end Go.Fo
/- Clones; the program's own normal form. -/
namespace Go.Fo
open Go Go.Sx Go.Proofs
set_option maxRecDepth 100000

theorem cells_tm (ts : List Tm) : ((ts.map Tm.d).all fun d => d.cells.length == 3) = true := by
  rw [List.all_eq_true]
  intro d hd
  obtain ⟨t, _, rfl⟩ := List.mem_map.1 hd
  rfl
theorem cells_bd (bs : List Bd) : ((bs.map Bd.d).all fun d => d.cells.length == 2) = true := by
  rw [List.all_eq_true]
  intro d hd
  obtain ⟨t, _, rfl⟩ := List.mem_map.1 hd
  rfl
theorem cells_fm (l : List Fm) : ((l.map Fm.d).all fun d => d.cells.length == 6) = true := by
  rw [List.all_eq_true]
  intro d hd
  obtain ⟨t, _, rfl⟩ := List.mem_map.1 hd
  rw [d_cells]; rfl

section
variable {G : Nat → Option (List D)}
theorem fn57 (ts : List Tm) (hl : ts.length < 4294967296) : PFn Tryd.prog G 79 [.sl (ts.map Tm.d)] (· = [.sl (ts.map Tm.d)]) := by
  refine PFn.walk (fn := Tryd.f79) (code := bodyOf Tryd.f79) mixed L0 Tryd.func79 (by kernel_rfl) ⟨_, rfl⟩ (ok0 (by kernel_rfl)) ?_
  apply @of_vc _ (
    ∀ (b : Bool), (b = true → List.map Tm.d ts = []) → (b = true → [D.sl []] = [D.sl (List.map Tm.d ts)]) ∧ (b = false → FA [] (List.map Tm.d ts) (nat_lit 3) (nat_lit 32) ∧ [D.sl
    (List.reverse ([] : List D) ++ List.map Tm.d ts)] = [D.sl (List.map Tm.d ts)]))
  · kernel_rfl
  refine fun b hb => ⟨fun h => ?_, fun h => ⟨⟨by simpa using cells_tm ts, by simp; omega⟩, by simp⟩⟩
  rw [hb h]
theorem fn58 (bs : List Bd) (hl : bs.length < 4294967296) : PFn Tryd.prog G 80 [.sl (bs.map Bd.d)] (· = [.sl (bs.map Bd.d)]) := by
  refine PFn.walk (fn := Tryd.f80) (code := bodyOf Tryd.f80) mixed L0 Tryd.func80 (by kernel_rfl) ⟨_, rfl⟩ (ok0 (by kernel_rfl)) ?_
  apply @of_vc _ (
    ∀ (b : Bool), (b = true → List.map Bd.d bs = []) → (b = true → [D.sl []] = [D.sl (List.map Bd.d bs)]) ∧ (b = false → FA [] (List.map Bd.d bs) (nat_lit 2) (nat_lit 24) ∧ [D.sl
    (List.reverse ([] : List D) ++ List.map Bd.d bs)] = [D.sl (List.map Bd.d bs)]))
  · kernel_rfl
  refine fun b hb => ⟨fun h => ?_, fun h => ⟨⟨by simpa using cells_bd bs, by simp; omega⟩, by simp⟩⟩
  rw [hb h]
end
end Go.Fo
/- The program's own normal form. -/
namespace Go.Fo
open Go Go.Sx Go.Proofs
set_option maxRecDepth 100000
set_option maxHeartbeats 0

def put5 : Box → AV → Box
  | .cells T cs, a => .cells T (cs.set 5 a)
  | x, _ => x

theorem right_eq (f : Fm) (t : Bool) : f.right t =
    if (alwaysB f && t || f.kind == 2 && !t) = true then .mk 2 [] 0 [] [] []
    else if (alwaysB f || f.kind == 2) = true then .mk 1 [] 0 [] [] []
    else if f.kind = 10 then ((f.l.map (·.right (!t)))).getD 0 nil0
    else if f.kind = 13 then .mk (if t then 11 else 12) [] 0 [] [] [(f.l.map (·.right (!t))).getD 0 nil0, (f.l.map (·.right t)).getD 1 nil0]
    else if (atomB f.kind && t && f.kind != 9) = true then .mk 10 [] 0 [] [] [f]
    else .mk (if t && f.kind != 9 then dualI f.kind else f.kind) (if t && f.kind == 9 then turnS f.name else f.name) (if t && f.kind == 16 then f.n - 1 else if t && f.kind == 17 then f.n + 1 else f.n) f.ts f.bs (f.l.map (·.right (t && !countB f.kind))) := by
  cases f
  rw [Fm.right]
  simp only [rights_eq]
  rfl

theorem dual_look (k : Int) : (duL.lookup k).getD 0 = dualI k := by
  unfold duL dualI
  simp only [List.lookup]
  by_cases h1 : k = 1
  · subst h1; rfl
  by_cases h2 : k = 2
  · subst h2; rfl
  by_cases h3 : k = 11
  · subst h3; rfl
  by_cases h4 : k = 12
  · subst h4; rfl
  by_cases h5 : k = 14
  · subst h5; rfl
  by_cases h6 : k = 15
  · subst h6; rfl
  by_cases h7 : k = 16
  · subst h7; rfl
  by_cases h8 : k = 17
  · subst h8; rfl
  simp only [beq_eq_false_iff_ne.2 h1, beq_eq_false_iff_ne.2 h2, beq_eq_false_iff_ne.2 h3, beq_eq_false_iff_ne.2 h4, beq_eq_false_iff_ne.2 h5, beq_eq_false_iff_ne.2 h6, beq_eq_false_iff_ne.2 h7, beq_eq_false_iff_ne.2 h8, if_neg h1, if_neg h2, if_neg h3, if_neg h4, if_neg h5, if_neg h6, if_neg h7, if_neg h8]
  rfl

theorem sign_turn (s : List UInt8) (h : signB s = true) : (siL.lookup s).getD [] = turnS s := by
  unfold signB at h
  simp only [Bool.or_eq_true, beq_iff_eq] at h
  rcases h with ((((h | h) | h) | h) | h) | h <;> subst h <;> rfl

section
variable {M : Maps}
theorem fn38 (hM : M.Ok) (f : Fm) (hb : f.formB = true) (t : Bool) : PFn Tryd.prog (GG M.on) 51 [f.d, .bool t] (· = [(f.right t).d]) := by
  obtain ⟨ar, si, du, re, nd⟩ := M
  induction f using Fm.induct generalizing t with
  | h f ih =>
  have hnode : nodeB f = true ∧ f.l.all Fm.formB = true := by
    rw [f.formB_eq, formsB_all] at hb
    simpa using hb
  have hall : ∀ x ∈ f.l, x.formB = true := List.all_eq_true.1 hnode.2
  have hsh := formB_shape hb
  have hlen : f.l.length ≤ 2 := by cases hsh <;> simp [Fm.l]
  have htl : f.ts.length ≤ 2 := by cases hsh <;> simp [Fm.ts]
  have hbl : f.bs.length ≤ 6 := by cases hsh <;> simp [Fm.bs] <;> assumption
  have hl10 : f.kind = 10 → ∃ x, f.l = [x] := by
    intro hk
    cases hsh <;> simp [Fm.kind, Fm.l] at hk ⊢ <;> omega
  have hl13 : f.kind = 13 → ∃ x y, f.l = [x, y] := by
    intro hk
    cases hsh <;> simp [Fm.kind, Fm.l] at hk ⊢ <;> omega
  have hsg : f.kind = 9 → signB f.name = true := by
    intro hk
    cases hsh <;> simp [Fm.kind, Fm.name] at hk ⊢ <;> first | omega | assumption
  have hn0 : (f.kind = 16 ∨ f.kind = 17) → 0 ≤ f.n ∧ f.n ≤ 1099511627776 := by
    intro hk
    cases hsh <;> simp [Fm.kind, Fm.n] at hk ⊢ <;> first | omega | (constructor <;> assumption)
  have h56 := fn56 (G := GG (Maps.on ⟨ar, si, du, re, nd⟩)) f
  generalize hr : (f.right t).d = r
  rw [d_cells] at h56 ⊢
  refine PFn.walk (fn := Tryd.f51) (code := bodyOf Tryd.f51) mixed
    (LL [(26, loopW (α := Nat) Tryd.prog (GG (Maps.on ⟨ar, si, du, re, nd⟩)) L0 0 (loopN (bodyOf Tryd.f51) 0) [1, 2, 4, 6, 126, 127] (fun i => i ≤ f.l.length) (fun i => f.l.length - i)
      (fun i => [(128, .d (.int .i64 i))]) (fun H i => [H.getD 0 .dead, H.getD 1 .dead, put5 (H.getD 2 .dead) (.vec 3 (((f.l.take i).map (·.right (t && !countB f.kind))).map Fm.d)), .vec i 6]))])
    Tryd.func51 (by kernel_rfl) ⟨_, rfl⟩ (LoopsOk.one (b1 := loopN (bodyOf Tryd.f51) 0) (by kernel_rfl) (by kernel_rfl) (loopW_sound mixed (ok0 (by kernel_rfl)))) ?_
  apply @of_vc _ (
    PFn Tryd.prog (GG (Maps.on (Maps.mk ar si du re nd))) (78 : Nat) [D.agg [D.int IntKind.i64 (Fm.kind f), D.str (Fm.name f), D.int IntKind.i64 (Fm.n f), D.sl (List.map Tm.d (Fm.ts f)),
    D.sl (List.map Bd.d (Fm.bs f)), D.sl (List.map Fm.d (Fm.l f))]] fun (rs : List D) => ∃ (b : Bool), rs = [D.bool b] ∧ ((bif bif b then t else false then true else bif Fm.kind f == (2 :
    Int) then !t else false) = true → [D.agg [D.int IntKind.i64 (2 : Int), D.str (Array.toList (ByteArray.data (ByteArray.mk #[]))), D.int IntKind.i64 (0 : Int), D.sl [], D.sl [], D.sl []]]
    = [r]) ∧ ((bif bif b then t else false then true else bif Fm.kind f == (2 : Int) then !t else false) = false → PFn Tryd.prog (GG (Maps.on (Maps.mk ar si du re nd))) (78 : Nat) [D.agg
    [D.int IntKind.i64 (Fm.kind f), D.str (Fm.name f), D.int IntKind.i64 (Fm.n f), D.sl (List.map Tm.d (Fm.ts f)), D.sl (List.map Bd.d (Fm.bs f)), D.sl (List.map Fm.d (Fm.l f))]] fun (rs :
    List D) => ∃ (b : Bool), rs = [D.bool b] ∧ ((bif b then true else Fm.kind f == (2 : Int)) = true → [D.agg [D.int IntKind.i64 (1 : Int), D.str (Array.toList (ByteArray.data (ByteArray.mk
    #[]))), D.int IntKind.i64 (0 : Int), D.sl [], D.sl [], D.sl []]] = [r]) ∧ ((bif b then true else Fm.kind f == (2 : Int)) = false → ((Fm.kind f == (10 : Int)) = true → ((0 : Int) ≤ (0 :
    Int) ∧ (List.map Fm.d (Fm.l f))[Int.toNat (0 : Int)]? = some (aggAt [Sh.int IntKind.i64, Sh.str, Sh.int IntKind.i64, Sh.sl, Sh.sl, Sh.sl] (List.map Fm.d (Fm.l f)) (Int.toNat (0 : Int))))
    ∧ PFn Tryd.prog (GG (Maps.on (Maps.mk ar si du re nd))) (51 : Nat) [aggAt [Sh.int IntKind.i64, Sh.str, Sh.int IntKind.i64, Sh.sl, Sh.sl, Sh.sl] (List.map Fm.d (Fm.l f)) (Int.toNat (0 :
    Int)), D.bool !t] fun (rs : List D) => ∃ (n : Int), ∃ (s : List UInt8), ∃ (n_1 : Int), ∃ (l : List D), ∃ (l_1 : List D), ∃ (l_2 : List D), rs = [D.agg [D.int IntKind.i64 n, D.str s,
    D.int IntKind.i64 n_1, D.sl l, D.sl l_1, D.sl l_2]] ∧ [D.agg [D.int IntKind.i64 n, D.str s, D.int IntKind.i64 n_1, D.sl l, D.sl l_1, D.sl l_2]] = [r]) ∧ ((Fm.kind f == (10 : Int)) =
    false → ((Fm.kind f == (13 : Int)) = true → ((0 : Int) ≤ (0 : Int) ∧ (List.map Fm.d (Fm.l f))[Int.toNat (0 : Int)]? = some (aggAt [Sh.int IntKind.i64, Sh.str, Sh.int IntKind.i64, Sh.sl,
    Sh.sl, Sh.sl] (List.map Fm.d (Fm.l f)) (Int.toNat (0 : Int)))) ∧ ((0 : Int) ≤ (1 : Int) ∧ (List.map Fm.d (Fm.l f))[Int.toNat (1 : Int)]? = some (aggAt [Sh.int IntKind.i64, Sh.str, Sh.int
    IntKind.i64, Sh.sl, Sh.sl, Sh.sl] (List.map Fm.d (Fm.l f)) (Int.toNat (1 : Int)))) ∧ PFn Tryd.prog (GG (Maps.on (Maps.mk ar si du re nd))) (51 : Nat) [aggAt [Sh.int IntKind.i64, Sh.str,
    Sh.int IntKind.i64, Sh.sl, Sh.sl, Sh.sl] (List.map Fm.d (Fm.l f)) (Int.toNat (0 : Int)), D.bool !t] fun (rs : List D) => ∃ (n : Int), ∃ (s : List UInt8), ∃ (n_1 : Int), ∃ (l : List D), ∃
    (l_1 : List D), ∃ (l_2 : List D), rs = [D.agg [D.int IntKind.i64 n, D.str s, D.int IntKind.i64 n_1, D.sl l, D.sl l_1, D.sl l_2]] ∧ PFn Tryd.prog (GG (Maps.on (Maps.mk ar si du re nd)))
    (51 : Nat) [aggAt [Sh.int IntKind.i64, Sh.str, Sh.int IntKind.i64, Sh.sl, Sh.sl, Sh.sl] (List.map Fm.d (Fm.l f)) (Int.toNat (1 : Int)), D.bool t] fun (rs : List D) => ∃ (n_2 : Int), ∃
    (s_1 : List UInt8), ∃ (n_3 : Int), ∃ (l_3 : List D), ∃ (l_4 : List D), ∃ (l_5 : List D), rs = [D.agg [D.int IntKind.i64 n_2, D.str s_1, D.int IntKind.i64 n_3, D.sl l_3, D.sl l_4, D.sl
    l_5]] ∧ (t = true → [D.agg [D.int IntKind.i64 (11 : Int), D.str (Array.toList (ByteArray.data (ByteArray.mk #[]))), D.int IntKind.i64 (0 : Int), D.sl [], D.sl [], D.sl [D.agg [D.int
    IntKind.i64 n, D.str s, D.int IntKind.i64 n_1, D.sl l, D.sl l_1, D.sl l_2], D.agg [D.int IntKind.i64 n_2, D.str s_1, D.int IntKind.i64 n_3, D.sl l_3, D.sl l_4, D.sl l_5]]]] = [r]) ∧ (t =
    false → [D.agg [D.int IntKind.i64 (12 : Int), D.str (Array.toList (ByteArray.data (ByteArray.mk #[]))), D.int IntKind.i64 (0 : Int), D.sl [], D.sl [], D.sl [D.agg [D.int IntKind.i64 n,
    D.str s, D.int IntKind.i64 n_1, D.sl l, D.sl l_1, D.sl l_2], D.agg [D.int IntKind.i64 n_2, D.str s_1, D.int IntKind.i64 n_3, D.sl l_3, D.sl l_4, D.sl l_5]]]] = [r])) ∧ ((Fm.kind f == (13
    : Int)) = false → PFn Tryd.prog (GG (Maps.on (Maps.mk ar si du re nd))) (68 : Nat) [D.int IntKind.i64 (Fm.kind f)] fun (rs : List D) => ∃ (b : Bool), rs = [D.bool b] ∧ ((bif bif b then t
    else false then Fm.kind f != (9 : Int) else false) = true → [D.agg [D.int IntKind.i64 (10 : Int), D.str (Array.toList (ByteArray.data (ByteArray.mk #[]))), D.int IntKind.i64 (0 : Int),
    D.sl [], D.sl [], D.sl [D.agg [D.int IntKind.i64 (Fm.kind f), D.str (Fm.name f), D.int IntKind.i64 (Fm.n f), D.sl (List.map Tm.d (Fm.ts f)), D.sl (List.map Bd.d (Fm.bs f)), D.sl
    (List.map Fm.d (Fm.l f))]]]] = [r]) ∧ ((bif bif b then t else false then Fm.kind f != (9 : Int) else false) = false → PFn Tryd.prog (GG (Maps.on (Maps.mk ar si du re nd))) (79 : Nat)
    [D.sl (List.map Tm.d (Fm.ts f))] fun (rs : List D) => ∃ (l : List D), rs = [D.sl l] ∧ PFn Tryd.prog (GG (Maps.on (Maps.mk ar si du re nd))) (80 : Nat) [D.sl (List.map Bd.d (Fm.bs f))]
    fun (rs : List D) => ∃ (l_1 : List D), rs = [D.sl l_1] ∧ (t = true → ((Fm.kind f == (9 : Int)) = true → (List.all (Maps.si (Maps.on (Maps.mk ar si du re nd))) fun (kv : D × D) =>
    sameKind (D.str (Fm.name f)) (Prod.fst kv) && Sh.ok Sh.str (Prod.snd kv)) = true ∧ ((Fm.kind f != (9 : Int)) = true → (List.all (Maps.du (Maps.on (Maps.mk ar si du re nd))) fun (kv : D ×
    D) => sameKind (D.int IntKind.i64 (Fm.kind f)) (Prod.fst kv) && Sh.ok (Sh.int IntKind.i64) (Prod.snd kv)) = true ∧ ∃ (x0 : Nat), x0 ≤ List.length (Fm.l f) ∧ ((t = t ∧ AV.ptr (0 : Nat) (0
    : Nat) = AV.ptr (0 : Nat) (0 : Nat) ∧ AV.ptr (1 : Nat) (0 : Nat) = AV.ptr (1 : Nat) (0 : Nat) ∧ AV.ptr (2 : Nat) (0 : Nat) = AV.ptr (2 : Nat) (0 : Nat) ∧ List.map Fm.d (Fm.l f) =
    List.map Fm.d (Fm.l f) ∧ (↑(List.length (List.map Fm.d (Fm.l f))) : Int) = (↑(List.length (List.map Fm.d (Fm.l f))) : Int) ∧ (0 : Int) = (↑x0 : Int) ∧ True) ∧ (Fm.kind f = Fm.kind f ∧
    Fm.name f = Fm.name f ∧ Fm.n f = Fm.n f ∧ List.map Tm.d (Fm.ts f) = List.map Tm.d (Fm.ts f) ∧ List.map Bd.d (Fm.bs f) = List.map Bd.d (Fm.bs f) ∧ List.map Fm.d (Fm.l f) = List.map Fm.d
    (Fm.l f) ∧ True) ∧ ((0 : Int) = (0 : Int) ∧ Array.toList (ByteArray.data (ByteArray.mk #[])) = Array.toList (ByteArray.data (ByteArray.mk #[])) ∧ (0 : Int) = (0 : Int) ∧ ([] : List D) =
    [] ∧ ([] : List D) = [] ∧ ([] : List D) = [] ∧ True) ∧ (D.toInt (Option.getD (lookD (Maps.du (Maps.on (Maps.mk ar si du re nd))) (D.int IntKind.i64 (Fm.kind f))) (D.int IntKind.i64 (0 :
    Int))) = D.toInt (Option.getD (lookD (Maps.du (Maps.on (Maps.mk ar si du re nd))) (D.int IntKind.i64 (Fm.kind f))) (D.int IntKind.i64 (0 : Int))) ∧ D.toStr (Option.getD (lookD (Maps.si
    (Maps.on (Maps.mk ar si du re nd))) (D.str (Fm.name f))) (D.str (Array.toList (ByteArray.data (ByteArray.mk #[]))))) = D.toStr (Option.getD (lookD (Maps.si (Maps.on (Maps.mk ar si du re
    nd))) (D.str (Fm.name f))) (D.str (Array.toList (ByteArray.data (ByteArray.mk #[]))))) ∧ Fm.n f = Fm.n f ∧ l = l ∧ l_1 = l_1 ∧ ([] = List.map Fm.d (List.map (fun (x : Fm) => Fm.right x
    (t && !countB (Fm.kind f))) (List.take x0 (Fm.l f))) ∧ List.length ([] : List D) ≤ x0) ∧ True) ∧ True) ∧ ∀ (x : Nat), x ≤ List.length (Fm.l f) → (decide ((↑x : Int) < (↑(List.length
    (List.map Fm.d (Fm.l f))) : Int)) = true → ((0 : Int) ≤ (↑x : Int) ∧ (List.map Fm.d (Fm.l f))[Int.toNat (↑x : Int)]? = some (aggAt [Sh.int IntKind.i64, Sh.str, Sh.int IntKind.i64, Sh.sl,
    Sh.sl, Sh.sl] (List.map Fm.d (Fm.l f)) (Int.toNat (↑x : Int)))) ∧ PFn Tryd.prog (GG (Maps.on (Maps.mk ar si du re nd))) (70 : Nat) [D.int IntKind.i64 (Fm.kind f)] fun (rs : List D) => ∃
    (b : Bool), rs = [D.bool b] ∧ PFn Tryd.prog (GG (Maps.on (Maps.mk ar si du re nd))) (51 : Nat) [aggAt [Sh.int IntKind.i64, Sh.str, Sh.int IntKind.i64, Sh.sl, Sh.sl, Sh.sl] (List.map Fm.d
    (Fm.l f)) (Int.toNat (↑x : Int)), D.bool (bif t then !b else false)] fun (rs : List D) => ∃ (n : Int), ∃ (s : List UInt8), ∃ (n_1 : Int), ∃ (l_2 : List D), ∃ (l_3 : List D), ∃ (l_4 :
    List D), rs = [D.agg [D.int IntKind.i64 n, D.str s, D.int IntKind.i64 n_1, D.sl l_2, D.sl l_3, D.sl l_4]] ∧ (x = List.length (List.map Fm.d (List.map (fun (x : Fm) => Fm.right x (t &&
    !countB (Fm.kind f))) (List.take x (Fm.l f)))) ∧ (6 : Nat) = (6 : Nat) ∧ FA (List.map Fm.d (List.map (fun (x : Fm) => Fm.right x (t && !countB (Fm.kind f))) (List.take x (Fm.l f))))
    [D.agg [D.int IntKind.i64 n, D.str s, D.int IntKind.i64 n_1, D.sl l_2, D.sl l_3, D.sl l_4]] (nat_lit 6) (nat_lit 104)) ∧ ∃ (y : Nat), y ≤ List.length (Fm.l f) ∧ List.length (Fm.l f) - y
    < List.length (Fm.l f) - x ∧ (t = t ∧ AV.ptr (0 : Nat) (0 : Nat) = AV.ptr (0 : Nat) (0 : Nat) ∧ AV.ptr (1 : Nat) (0 : Nat) = AV.ptr (1 : Nat) (0 : Nat) ∧ AV.ptr (2 : Nat) (0 : Nat) =
    AV.ptr (2 : Nat) (0 : Nat) ∧ List.map Fm.d (Fm.l f) = List.map Fm.d (Fm.l f) ∧ (↑(List.length (List.map Fm.d (Fm.l f))) : Int) = (↑(List.length (List.map Fm.d (Fm.l f))) : Int) ∧
    IntKind.wrap IntKind.i64 ((↑x : Int) + (1 : Int)) = (↑y : Int) ∧ True) ∧ (Fm.kind f = Fm.kind f ∧ Fm.name f = Fm.name f ∧ Fm.n f = Fm.n f ∧ List.map Tm.d (Fm.ts f) = List.map Tm.d (Fm.ts
    f) ∧ List.map Bd.d (Fm.bs f) = List.map Bd.d (Fm.bs f) ∧ List.map Fm.d (Fm.l f) = List.map Fm.d (Fm.l f) ∧ True) ∧ ((0 : Int) = (0 : Int) ∧ Array.toList (ByteArray.data (ByteArray.mk
    #[])) = Array.toList (ByteArray.data (ByteArray.mk #[])) ∧ (0 : Int) = (0 : Int) ∧ ([] : List D) = [] ∧ ([] : List D) = [] ∧ ([] : List D) = [] ∧ True) ∧ (D.toInt (Option.getD (lookD
    (Maps.du (Maps.on (Maps.mk ar si du re nd))) (D.int IntKind.i64 (Fm.kind f))) (D.int IntKind.i64 (0 : Int))) = D.toInt (Option.getD (lookD (Maps.du (Maps.on (Maps.mk ar si du re nd)))
    (D.int IntKind.i64 (Fm.kind f))) (D.int IntKind.i64 (0 : Int))) ∧ D.toStr (Option.getD (lookD (Maps.si (Maps.on (Maps.mk ar si du re nd))) (D.str (Fm.name f))) (D.str (Array.toList
    (ByteArray.data (ByteArray.mk #[]))))) = D.toStr (Option.getD (lookD (Maps.si (Maps.on (Maps.mk ar si du re nd))) (D.str (Fm.name f))) (D.str (Array.toList (ByteArray.data (ByteArray.mk
    #[]))))) ∧ Fm.n f = Fm.n f ∧ l = l ∧ l_1 = l_1 ∧ List.map Fm.d (List.map (fun (x : Fm) => Fm.right x (t && !countB (Fm.kind f))) (List.take x (Fm.l f))) ++ List.reverse [mkD true [D.int
    IntKind.i64 n, D.str s, D.int IntKind.i64 n_1, D.sl l_2, D.sl l_3, D.sl l_4]] = List.map Fm.d (List.map (fun (x : Fm) => Fm.right x (t && !countB (Fm.kind f))) (List.take y (Fm.l f))) ∧
    True) ∧ List.length (List.map Fm.d (List.map (fun (x : Fm) => Fm.right x (t && !countB (Fm.kind f))) (List.take x (Fm.l f)))) + List.length (List.reverse [mkD true [D.int IntKind.i64 n,
    D.str s, D.int IntKind.i64 n_1, D.sl l_2, D.sl l_3, D.sl l_4]]) = y ∧ True) ∧ (decide ((↑x : Int) < (↑(List.length (List.map Fm.d (Fm.l f))) : Int)) = false → [D.agg [D.int IntKind.i64
    (D.toInt (Option.getD (lookD (Maps.du (Maps.on (Maps.mk ar si du re nd))) (D.int IntKind.i64 (Fm.kind f))) (D.int IntKind.i64 (0 : Int)))), D.str (D.toStr (Option.getD (lookD (Maps.si
    (Maps.on (Maps.mk ar si du re nd))) (D.str (Fm.name f))) (D.str (Array.toList (ByteArray.data (ByteArray.mk #[])))))), D.int IntKind.i64 (Fm.n f), D.sl l, D.sl l_1, D.sl (List.map Fm.d
    (List.map (fun (x : Fm) => Fm.right x (t && !countB (Fm.kind f))) (List.take x (Fm.l f))))]] = [r])) ∧ ((Fm.kind f != (9 : Int)) = false → ∃ (x0 : Nat), x0 ≤ List.length (Fm.l f) ∧ ((t =
    t ∧ AV.ptr (0 : Nat) (0 : Nat) = AV.ptr (0 : Nat) (0 : Nat) ∧ AV.ptr (1 : Nat) (0 : Nat) = AV.ptr (1 : Nat) (0 : Nat) ∧ AV.ptr (2 : Nat) (0 : Nat) = AV.ptr (2 : Nat) (0 : Nat) ∧ List.map
    Fm.d (Fm.l f) = List.map Fm.d (Fm.l f) ∧ (↑(List.length (List.map Fm.d (Fm.l f))) : Int) = (↑(List.length (List.map Fm.d (Fm.l f))) : Int) ∧ (0 : Int) = (↑x0 : Int) ∧ True) ∧ (Fm.kind f
    = Fm.kind f ∧ Fm.name f = Fm.name f ∧ Fm.n f = Fm.n f ∧ List.map Tm.d (Fm.ts f) = List.map Tm.d (Fm.ts f) ∧ List.map Bd.d (Fm.bs f) = List.map Bd.d (Fm.bs f) ∧ List.map Fm.d (Fm.l f) =
    List.map Fm.d (Fm.l f) ∧ True) ∧ ((0 : Int) = (0 : Int) ∧ Array.toList (ByteArray.data (ByteArray.mk #[])) = Array.toList (ByteArray.data (ByteArray.mk #[])) ∧ (0 : Int) = (0 : Int) ∧
    ([] : List D) = [] ∧ ([] : List D) = [] ∧ ([] : List D) = [] ∧ True) ∧ (Fm.kind f = Fm.kind f ∧ D.toStr (Option.getD (lookD (Maps.si (Maps.on (Maps.mk ar si du re nd))) (D.str (Fm.name
    f))) (D.str (Array.toList (ByteArray.data (ByteArray.mk #[]))))) = D.toStr (Option.getD (lookD (Maps.si (Maps.on (Maps.mk ar si du re nd))) (D.str (Fm.name f))) (D.str (Array.toList
    (ByteArray.data (ByteArray.mk #[]))))) ∧ Fm.n f = Fm.n f ∧ l = l ∧ l_1 = l_1 ∧ ([] = List.map Fm.d (List.map (fun (x : Fm) => Fm.right x (t && !countB (Fm.kind f))) (List.take x0 (Fm.l
    f))) ∧ List.length ([] : List D) ≤ x0) ∧ True) ∧ True) ∧ ∀ (x : Nat), x ≤ List.length (Fm.l f) → (decide ((↑x : Int) < (↑(List.length (List.map Fm.d (Fm.l f))) : Int)) = true → ((0 :
    Int) ≤ (↑x : Int) ∧ (List.map Fm.d (Fm.l f))[Int.toNat (↑x : Int)]? = some (aggAt [Sh.int IntKind.i64, Sh.str, Sh.int IntKind.i64, Sh.sl, Sh.sl, Sh.sl] (List.map Fm.d (Fm.l f))
    (Int.toNat (↑x : Int)))) ∧ PFn Tryd.prog (GG (Maps.on (Maps.mk ar si du re nd))) (70 : Nat) [D.int IntKind.i64 (Fm.kind f)] fun (rs : List D) => ∃ (b : Bool), rs = [D.bool b] ∧ PFn
    Tryd.prog (GG (Maps.on (Maps.mk ar si du re nd))) (51 : Nat) [aggAt [Sh.int IntKind.i64, Sh.str, Sh.int IntKind.i64, Sh.sl, Sh.sl, Sh.sl] (List.map Fm.d (Fm.l f)) (Int.toNat (↑x : Int)),
    D.bool (bif t then !b else false)] fun (rs : List D) => ∃ (n : Int), ∃ (s : List UInt8), ∃ (n_1 : Int), ∃ (l_2 : List D), ∃ (l_3 : List D), ∃ (l_4 : List D), rs = [D.agg [D.int
    IntKind.i64 n, D.str s, D.int IntKind.i64 n_1, D.sl l_2, D.sl l_3, D.sl l_4]] ∧ (x = List.length (List.map Fm.d (List.map (fun (x : Fm) => Fm.right x (t && !countB (Fm.kind f)))
    (List.take x (Fm.l f)))) ∧ (6 : Nat) = (6 : Nat) ∧ FA (List.map Fm.d (List.map (fun (x : Fm) => Fm.right x (t && !countB (Fm.kind f))) (List.take x (Fm.l f)))) [D.agg [D.int IntKind.i64
    n, D.str s, D.int IntKind.i64 n_1, D.sl l_2, D.sl l_3, D.sl l_4]] (nat_lit 6) (nat_lit 104)) ∧ ∃ (y : Nat), y ≤ List.length (Fm.l f) ∧ List.length (Fm.l f) - y < List.length (Fm.l f) - x
    ∧ (t = t ∧ AV.ptr (0 : Nat) (0 : Nat) = AV.ptr (0 : Nat) (0 : Nat) ∧ AV.ptr (1 : Nat) (0 : Nat) = AV.ptr (1 : Nat) (0 : Nat) ∧ AV.ptr (2 : Nat) (0 : Nat) = AV.ptr (2 : Nat) (0 : Nat) ∧
    List.map Fm.d (Fm.l f) = List.map Fm.d (Fm.l f) ∧ (↑(List.length (List.map Fm.d (Fm.l f))) : Int) = (↑(List.length (List.map Fm.d (Fm.l f))) : Int) ∧ IntKind.wrap IntKind.i64 ((↑x : Int)
    + (1 : Int)) = (↑y : Int) ∧ True) ∧ (Fm.kind f = Fm.kind f ∧ Fm.name f = Fm.name f ∧ Fm.n f = Fm.n f ∧ List.map Tm.d (Fm.ts f) = List.map Tm.d (Fm.ts f) ∧ List.map Bd.d (Fm.bs f) =
    List.map Bd.d (Fm.bs f) ∧ List.map Fm.d (Fm.l f) = List.map Fm.d (Fm.l f) ∧ True) ∧ ((0 : Int) = (0 : Int) ∧ Array.toList (ByteArray.data (ByteArray.mk #[])) = Array.toList
    (ByteArray.data (ByteArray.mk #[])) ∧ (0 : Int) = (0 : Int) ∧ ([] : List D) = [] ∧ ([] : List D) = [] ∧ ([] : List D) = [] ∧ True) ∧ (Fm.kind f = Fm.kind f ∧ D.toStr (Option.getD (lookD
    (Maps.si (Maps.on (Maps.mk ar si du re nd))) (D.str (Fm.name f))) (D.str (Array.toList (ByteArray.data (ByteArray.mk #[]))))) = D.toStr (Option.getD (lookD (Maps.si (Maps.on (Maps.mk ar
    si du re nd))) (D.str (Fm.name f))) (D.str (Array.toList (ByteArray.data (ByteArray.mk #[]))))) ∧ Fm.n f = Fm.n f ∧ l = l ∧ l_1 = l_1 ∧ List.map Fm.d (List.map (fun (x : Fm) => Fm.right
    x (t && !countB (Fm.kind f))) (List.take x (Fm.l f))) ++ List.reverse [mkD true [D.int IntKind.i64 n, D.str s, D.int IntKind.i64 n_1, D.sl l_2, D.sl l_3, D.sl l_4]] = List.map Fm.d
    (List.map (fun (x : Fm) => Fm.right x (t && !countB (Fm.kind f))) (List.take y (Fm.l f))) ∧ True) ∧ List.length (List.map Fm.d (List.map (fun (x : Fm) => Fm.right x (t && !countB
    (Fm.kind f))) (List.take x (Fm.l f)))) + List.length (List.reverse [mkD true [D.int IntKind.i64 n, D.str s, D.int IntKind.i64 n_1, D.sl l_2, D.sl l_3, D.sl l_4]]) = y ∧ True) ∧ (decide
    ((↑x : Int) < (↑(List.length (List.map Fm.d (Fm.l f))) : Int)) = false → [D.agg [D.int IntKind.i64 (Fm.kind f), D.str (D.toStr (Option.getD (lookD (Maps.si (Maps.on (Maps.mk ar si du re
    nd))) (D.str (Fm.name f))) (D.str (Array.toList (ByteArray.data (ByteArray.mk #[])))))), D.int IntKind.i64 (Fm.n f), D.sl l, D.sl l_1, D.sl (List.map Fm.d (List.map (fun (x : Fm) =>
    Fm.right x (t && !countB (Fm.kind f))) (List.take x (Fm.l f))))]] = [r]))) ∧ ((Fm.kind f == (9 : Int)) = false → ((Fm.kind f == (16 : Int)) = true → ((Fm.kind f != (9 : Int)) = true →
    (List.all (Maps.du (Maps.on (Maps.mk ar si du re nd))) fun (kv : D × D) => sameKind (D.int IntKind.i64 (Fm.kind f)) (Prod.fst kv) && Sh.ok (Sh.int IntKind.i64) (Prod.snd kv)) = true ∧ ∃
    (x0 : Nat), x0 ≤ List.length (Fm.l f) ∧ ((t = t ∧ AV.ptr (0 : Nat) (0 : Nat) = AV.ptr (0 : Nat) (0 : Nat) ∧ AV.ptr (1 : Nat) (0 : Nat) = AV.ptr (1 : Nat) (0 : Nat) ∧ AV.ptr (2 : Nat) (0
    : Nat) = AV.ptr (2 : Nat) (0 : Nat) ∧ List.map Fm.d (Fm.l f) = List.map Fm.d (Fm.l f) ∧ (↑(List.length (List.map Fm.d (Fm.l f))) : Int) = (↑(List.length (List.map Fm.d (Fm.l f))) : Int)
    ∧ (0 : Int) = (↑x0 : Int) ∧ True) ∧ (Fm.kind f = Fm.kind f ∧ Fm.name f = Fm.name f ∧ Fm.n f = Fm.n f ∧ List.map Tm.d (Fm.ts f) = List.map Tm.d (Fm.ts f) ∧ List.map Bd.d (Fm.bs f) =
    List.map Bd.d (Fm.bs f) ∧ List.map Fm.d (Fm.l f) = List.map Fm.d (Fm.l f) ∧ True) ∧ ((0 : Int) = (0 : Int) ∧ Array.toList (ByteArray.data (ByteArray.mk #[])) = Array.toList
    (ByteArray.data (ByteArray.mk #[])) ∧ (0 : Int) = (0 : Int) ∧ ([] : List D) = [] ∧ ([] : List D) = [] ∧ ([] : List D) = [] ∧ True) ∧ (D.toInt (Option.getD (lookD (Maps.du (Maps.on
    (Maps.mk ar si du re nd))) (D.int IntKind.i64 (Fm.kind f))) (D.int IntKind.i64 (0 : Int))) = D.toInt (Option.getD (lookD (Maps.du (Maps.on (Maps.mk ar si du re nd))) (D.int IntKind.i64
    (Fm.kind f))) (D.int IntKind.i64 (0 : Int))) ∧ Fm.name f = Fm.name f ∧ IntKind.wrap IntKind.i64 (Fm.n f - (1 : Int)) = IntKind.wrap IntKind.i64 (Fm.n f - (1 : Int)) ∧ l = l ∧ l_1 = l_1 ∧
    ([] = List.map Fm.d (List.map (fun (x : Fm) => Fm.right x (t && !countB (Fm.kind f))) (List.take x0 (Fm.l f))) ∧ List.length ([] : List D) ≤ x0) ∧ True) ∧ True) ∧ ∀ (x : Nat), x ≤
    List.length (Fm.l f) → (decide ((↑x : Int) < (↑(List.length (List.map Fm.d (Fm.l f))) : Int)) = true → ((0 : Int) ≤ (↑x : Int) ∧ (List.map Fm.d (Fm.l f))[Int.toNat (↑x : Int)]? = some
    (aggAt [Sh.int IntKind.i64, Sh.str, Sh.int IntKind.i64, Sh.sl, Sh.sl, Sh.sl] (List.map Fm.d (Fm.l f)) (Int.toNat (↑x : Int)))) ∧ PFn Tryd.prog (GG (Maps.on (Maps.mk ar si du re nd))) (70
    : Nat) [D.int IntKind.i64 (Fm.kind f)] fun (rs : List D) => ∃ (b : Bool), rs = [D.bool b] ∧ PFn Tryd.prog (GG (Maps.on (Maps.mk ar si du re nd))) (51 : Nat) [aggAt [Sh.int IntKind.i64,
    Sh.str, Sh.int IntKind.i64, Sh.sl, Sh.sl, Sh.sl] (List.map Fm.d (Fm.l f)) (Int.toNat (↑x : Int)), D.bool (bif t then !b else false)] fun (rs : List D) => ∃ (n : Int), ∃ (s : List UInt8),
    ∃ (n_1 : Int), ∃ (l_2 : List D), ∃ (l_3 : List D), ∃ (l_4 : List D), rs = [D.agg [D.int IntKind.i64 n, D.str s, D.int IntKind.i64 n_1, D.sl l_2, D.sl l_3, D.sl l_4]] ∧ (x = List.length
    (List.map Fm.d (List.map (fun (x : Fm) => Fm.right x (t && !countB (Fm.kind f))) (List.take x (Fm.l f)))) ∧ (6 : Nat) = (6 : Nat) ∧ FA (List.map Fm.d (List.map (fun (x : Fm) => Fm.right
    x (t && !countB (Fm.kind f))) (List.take x (Fm.l f)))) [D.agg [D.int IntKind.i64 n, D.str s, D.int IntKind.i64 n_1, D.sl l_2, D.sl l_3, D.sl l_4]] (nat_lit 6) (nat_lit 104)) ∧ ∃ (y :
    Nat), y ≤ List.length (Fm.l f) ∧ List.length (Fm.l f) - y < List.length (Fm.l f) - x ∧ (t = t ∧ AV.ptr (0 : Nat) (0 : Nat) = AV.ptr (0 : Nat) (0 : Nat) ∧ AV.ptr (1 : Nat) (0 : Nat) =
    AV.ptr (1 : Nat) (0 : Nat) ∧ AV.ptr (2 : Nat) (0 : Nat) = AV.ptr (2 : Nat) (0 : Nat) ∧ List.map Fm.d (Fm.l f) = List.map Fm.d (Fm.l f) ∧ (↑(List.length (List.map Fm.d (Fm.l f))) : Int) =
    (↑(List.length (List.map Fm.d (Fm.l f))) : Int) ∧ IntKind.wrap IntKind.i64 ((↑x : Int) + (1 : Int)) = (↑y : Int) ∧ True) ∧ (Fm.kind f = Fm.kind f ∧ Fm.name f = Fm.name f ∧ Fm.n f = Fm.n
    f ∧ List.map Tm.d (Fm.ts f) = List.map Tm.d (Fm.ts f) ∧ List.map Bd.d (Fm.bs f) = List.map Bd.d (Fm.bs f) ∧ List.map Fm.d (Fm.l f) = List.map Fm.d (Fm.l f) ∧ True) ∧ ((0 : Int) = (0 :
    Int) ∧ Array.toList (ByteArray.data (ByteArray.mk #[])) = Array.toList (ByteArray.data (ByteArray.mk #[])) ∧ (0 : Int) = (0 : Int) ∧ ([] : List D) = [] ∧ ([] : List D) = [] ∧ ([] : List
    D) = [] ∧ True) ∧ (D.toInt (Option.getD (lookD (Maps.du (Maps.on (Maps.mk ar si du re nd))) (D.int IntKind.i64 (Fm.kind f))) (D.int IntKind.i64 (0 : Int))) = D.toInt (Option.getD (lookD
    (Maps.du (Maps.on (Maps.mk ar si du re nd))) (D.int IntKind.i64 (Fm.kind f))) (D.int IntKind.i64 (0 : Int))) ∧ Fm.name f = Fm.name f ∧ IntKind.wrap IntKind.i64 (Fm.n f - (1 : Int)) =
    IntKind.wrap IntKind.i64 (Fm.n f - (1 : Int)) ∧ l = l ∧ l_1 = l_1 ∧ List.map Fm.d (List.map (fun (x : Fm) => Fm.right x (t && !countB (Fm.kind f))) (List.take x (Fm.l f))) ++
    List.reverse [mkD true [D.int IntKind.i64 n, D.str s, D.int IntKind.i64 n_1, D.sl l_2, D.sl l_3, D.sl l_4]] = List.map Fm.d (List.map (fun (x : Fm) => Fm.right x (t && !countB (Fm.kind
    f))) (List.take y (Fm.l f))) ∧ True) ∧ List.length (List.map Fm.d (List.map (fun (x : Fm) => Fm.right x (t && !countB (Fm.kind f))) (List.take x (Fm.l f)))) + List.length (List.reverse
    [mkD true [D.int IntKind.i64 n, D.str s, D.int IntKind.i64 n_1, D.sl l_2, D.sl l_3, D.sl l_4]]) = y ∧ True) ∧ (decide ((↑x : Int) < (↑(List.length (List.map Fm.d (Fm.l f))) : Int)) =
    false → [D.agg [D.int IntKind.i64 (D.toInt (Option.getD (lookD (Maps.du (Maps.on (Maps.mk ar si du re nd))) (D.int IntKind.i64 (Fm.kind f))) (D.int IntKind.i64 (0 : Int)))), D.str
    (Fm.name f), D.int IntKind.i64 (IntKind.wrap IntKind.i64 (Fm.n f - (1 : Int))), D.sl l, D.sl l_1, D.sl (List.map Fm.d (List.map (fun (x : Fm) => Fm.right x (t && !countB (Fm.kind f)))
    (List.take x (Fm.l f))))]] = [r])) ∧ ((Fm.kind f != (9 : Int)) = false → ∃ (x0 : Nat), x0 ≤ List.length (Fm.l f) ∧ ((t = t ∧ AV.ptr (0 : Nat) (0 : Nat) = AV.ptr (0 : Nat) (0 : Nat) ∧
    AV.ptr (1 : Nat) (0 : Nat) = AV.ptr (1 : Nat) (0 : Nat) ∧ AV.ptr (2 : Nat) (0 : Nat) = AV.ptr (2 : Nat) (0 : Nat) ∧ List.map Fm.d (Fm.l f) = List.map Fm.d (Fm.l f) ∧ (↑(List.length
    (List.map Fm.d (Fm.l f))) : Int) = (↑(List.length (List.map Fm.d (Fm.l f))) : Int) ∧ (0 : Int) = (↑x0 : Int) ∧ True) ∧ (Fm.kind f = Fm.kind f ∧ Fm.name f = Fm.name f ∧ Fm.n f = Fm.n f ∧
    List.map Tm.d (Fm.ts f) = List.map Tm.d (Fm.ts f) ∧ List.map Bd.d (Fm.bs f) = List.map Bd.d (Fm.bs f) ∧ List.map Fm.d (Fm.l f) = List.map Fm.d (Fm.l f) ∧ True) ∧ ((0 : Int) = (0 : Int) ∧
    Array.toList (ByteArray.data (ByteArray.mk #[])) = Array.toList (ByteArray.data (ByteArray.mk #[])) ∧ (0 : Int) = (0 : Int) ∧ ([] : List D) = [] ∧ ([] : List D) = [] ∧ ([] : List D) = []
    ∧ True) ∧ (Fm.kind f = Fm.kind f ∧ Fm.name f = Fm.name f ∧ IntKind.wrap IntKind.i64 (Fm.n f - (1 : Int)) = IntKind.wrap IntKind.i64 (Fm.n f - (1 : Int)) ∧ l = l ∧ l_1 = l_1 ∧ ([] =
    List.map Fm.d (List.map (fun (x : Fm) => Fm.right x (t && !countB (Fm.kind f))) (List.take x0 (Fm.l f))) ∧ List.length ([] : List D) ≤ x0) ∧ True) ∧ True) ∧ ∀ (x : Nat), x ≤ List.length
    (Fm.l f) → (decide ((↑x : Int) < (↑(List.length (List.map Fm.d (Fm.l f))) : Int)) = true → ((0 : Int) ≤ (↑x : Int) ∧ (List.map Fm.d (Fm.l f))[Int.toNat (↑x : Int)]? = some (aggAt [Sh.int
    IntKind.i64, Sh.str, Sh.int IntKind.i64, Sh.sl, Sh.sl, Sh.sl] (List.map Fm.d (Fm.l f)) (Int.toNat (↑x : Int)))) ∧ PFn Tryd.prog (GG (Maps.on (Maps.mk ar si du re nd))) (70 : Nat) [D.int
    IntKind.i64 (Fm.kind f)] fun (rs : List D) => ∃ (b : Bool), rs = [D.bool b] ∧ PFn Tryd.prog (GG (Maps.on (Maps.mk ar si du re nd))) (51 : Nat) [aggAt [Sh.int IntKind.i64, Sh.str, Sh.int
    IntKind.i64, Sh.sl, Sh.sl, Sh.sl] (List.map Fm.d (Fm.l f)) (Int.toNat (↑x : Int)), D.bool (bif t then !b else false)] fun (rs : List D) => ∃ (n : Int), ∃ (s : List UInt8), ∃ (n_1 : Int),
    ∃ (l_2 : List D), ∃ (l_3 : List D), ∃ (l_4 : List D), rs = [D.agg [D.int IntKind.i64 n, D.str s, D.int IntKind.i64 n_1, D.sl l_2, D.sl l_3, D.sl l_4]] ∧ (x = List.length (List.map Fm.d
    (List.map (fun (x : Fm) => Fm.right x (t && !countB (Fm.kind f))) (List.take x (Fm.l f)))) ∧ (6 : Nat) = (6 : Nat) ∧ FA (List.map Fm.d (List.map (fun (x : Fm) => Fm.right x (t && !countB
    (Fm.kind f))) (List.take x (Fm.l f)))) [D.agg [D.int IntKind.i64 n, D.str s, D.int IntKind.i64 n_1, D.sl l_2, D.sl l_3, D.sl l_4]] (nat_lit 6) (nat_lit 104)) ∧ ∃ (y : Nat), y ≤
    List.length (Fm.l f) ∧ List.length (Fm.l f) - y < List.length (Fm.l f) - x ∧ (t = t ∧ AV.ptr (0 : Nat) (0 : Nat) = AV.ptr (0 : Nat) (0 : Nat) ∧ AV.ptr (1 : Nat) (0 : Nat) = AV.ptr (1 :
    Nat) (0 : Nat) ∧ AV.ptr (2 : Nat) (0 : Nat) = AV.ptr (2 : Nat) (0 : Nat) ∧ List.map Fm.d (Fm.l f) = List.map Fm.d (Fm.l f) ∧ (↑(List.length (List.map Fm.d (Fm.l f))) : Int) =
    (↑(List.length (List.map Fm.d (Fm.l f))) : Int) ∧ IntKind.wrap IntKind.i64 ((↑x : Int) + (1 : Int)) = (↑y : Int) ∧ True) ∧ (Fm.kind f = Fm.kind f ∧ Fm.name f = Fm.name f ∧ Fm.n f = Fm.n
    f ∧ List.map Tm.d (Fm.ts f) = List.map Tm.d (Fm.ts f) ∧ List.map Bd.d (Fm.bs f) = List.map Bd.d (Fm.bs f) ∧ List.map Fm.d (Fm.l f) = List.map Fm.d (Fm.l f) ∧ True) ∧ ((0 : Int) = (0 :
    Int) ∧ Array.toList (ByteArray.data (ByteArray.mk #[])) = Array.toList (ByteArray.data (ByteArray.mk #[])) ∧ (0 : Int) = (0 : Int) ∧ ([] : List D) = [] ∧ ([] : List D) = [] ∧ ([] : List
    D) = [] ∧ True) ∧ (Fm.kind f = Fm.kind f ∧ Fm.name f = Fm.name f ∧ IntKind.wrap IntKind.i64 (Fm.n f - (1 : Int)) = IntKind.wrap IntKind.i64 (Fm.n f - (1 : Int)) ∧ l = l ∧ l_1 = l_1 ∧
    List.map Fm.d (List.map (fun (x : Fm) => Fm.right x (t && !countB (Fm.kind f))) (List.take x (Fm.l f))) ++ List.reverse [mkD true [D.int IntKind.i64 n, D.str s, D.int IntKind.i64 n_1,
    D.sl l_2, D.sl l_3, D.sl l_4]] = List.map Fm.d (List.map (fun (x : Fm) => Fm.right x (t && !countB (Fm.kind f))) (List.take y (Fm.l f))) ∧ True) ∧ List.length (List.map Fm.d (List.map
    (fun (x : Fm) => Fm.right x (t && !countB (Fm.kind f))) (List.take x (Fm.l f)))) + List.length (List.reverse [mkD true [D.int IntKind.i64 n, D.str s, D.int IntKind.i64 n_1, D.sl l_2,
    D.sl l_3, D.sl l_4]]) = y ∧ True) ∧ (decide ((↑x : Int) < (↑(List.length (List.map Fm.d (Fm.l f))) : Int)) = false → [D.agg [D.int IntKind.i64 (Fm.kind f), D.str (Fm.name f), D.int
    IntKind.i64 (IntKind.wrap IntKind.i64 (Fm.n f - (1 : Int))), D.sl l, D.sl l_1, D.sl (List.map Fm.d (List.map (fun (x : Fm) => Fm.right x (t && !countB (Fm.kind f))) (List.take x (Fm.l
    f))))]] = [r]))) ∧ ((Fm.kind f == (16 : Int)) = false → ((Fm.kind f == (17 : Int)) = true → ((Fm.kind f != (9 : Int)) = true → (List.all (Maps.du (Maps.on (Maps.mk ar si du re nd))) fun
    (kv : D × D) => sameKind (D.int IntKind.i64 (Fm.kind f)) (Prod.fst kv) && Sh.ok (Sh.int IntKind.i64) (Prod.snd kv)) = true ∧ ∃ (x0 : Nat), x0 ≤ List.length (Fm.l f) ∧ ((t = t ∧ AV.ptr (0
    : Nat) (0 : Nat) = AV.ptr (0 : Nat) (0 : Nat) ∧ AV.ptr (1 : Nat) (0 : Nat) = AV.ptr (1 : Nat) (0 : Nat) ∧ AV.ptr (2 : Nat) (0 : Nat) = AV.ptr (2 : Nat) (0 : Nat) ∧ List.map Fm.d (Fm.l f)
    = List.map Fm.d (Fm.l f) ∧ (↑(List.length (List.map Fm.d (Fm.l f))) : Int) = (↑(List.length (List.map Fm.d (Fm.l f))) : Int) ∧ (0 : Int) = (↑x0 : Int) ∧ True) ∧ (Fm.kind f = Fm.kind f ∧
    Fm.name f = Fm.name f ∧ Fm.n f = Fm.n f ∧ List.map Tm.d (Fm.ts f) = List.map Tm.d (Fm.ts f) ∧ List.map Bd.d (Fm.bs f) = List.map Bd.d (Fm.bs f) ∧ List.map Fm.d (Fm.l f) = List.map Fm.d
    (Fm.l f) ∧ True) ∧ ((0 : Int) = (0 : Int) ∧ Array.toList (ByteArray.data (ByteArray.mk #[])) = Array.toList (ByteArray.data (ByteArray.mk #[])) ∧ (0 : Int) = (0 : Int) ∧ ([] : List D) =
    [] ∧ ([] : List D) = [] ∧ ([] : List D) = [] ∧ True) ∧ (D.toInt (Option.getD (lookD (Maps.du (Maps.on (Maps.mk ar si du re nd))) (D.int IntKind.i64 (Fm.kind f))) (D.int IntKind.i64 (0 :
    Int))) = D.toInt (Option.getD (lookD (Maps.du (Maps.on (Maps.mk ar si du re nd))) (D.int IntKind.i64 (Fm.kind f))) (D.int IntKind.i64 (0 : Int))) ∧ Fm.name f = Fm.name f ∧ IntKind.wrap
    IntKind.i64 (Fm.n f + (1 : Int)) = IntKind.wrap IntKind.i64 (Fm.n f + (1 : Int)) ∧ l = l ∧ l_1 = l_1 ∧ ([] = List.map Fm.d (List.map (fun (x : Fm) => Fm.right x (t && !countB (Fm.kind
    f))) (List.take x0 (Fm.l f))) ∧ List.length ([] : List D) ≤ x0) ∧ True) ∧ True) ∧ ∀ (x : Nat), x ≤ List.length (Fm.l f) → (decide ((↑x : Int) < (↑(List.length (List.map Fm.d (Fm.l f))) :
    Int)) = true → ((0 : Int) ≤ (↑x : Int) ∧ (List.map Fm.d (Fm.l f))[Int.toNat (↑x : Int)]? = some (aggAt [Sh.int IntKind.i64, Sh.str, Sh.int IntKind.i64, Sh.sl, Sh.sl, Sh.sl] (List.map
    Fm.d (Fm.l f)) (Int.toNat (↑x : Int)))) ∧ PFn Tryd.prog (GG (Maps.on (Maps.mk ar si du re nd))) (70 : Nat) [D.int IntKind.i64 (Fm.kind f)] fun (rs : List D) => ∃ (b : Bool), rs = [D.bool
    b] ∧ PFn Tryd.prog (GG (Maps.on (Maps.mk ar si du re nd))) (51 : Nat) [aggAt [Sh.int IntKind.i64, Sh.str, Sh.int IntKind.i64, Sh.sl, Sh.sl, Sh.sl] (List.map Fm.d (Fm.l f)) (Int.toNat (↑x
    : Int)), D.bool (bif t then !b else false)] fun (rs : List D) => ∃ (n : Int), ∃ (s : List UInt8), ∃ (n_1 : Int), ∃ (l_2 : List D), ∃ (l_3 : List D), ∃ (l_4 : List D), rs = [D.agg [D.int
    IntKind.i64 n, D.str s, D.int IntKind.i64 n_1, D.sl l_2, D.sl l_3, D.sl l_4]] ∧ (x = List.length (List.map Fm.d (List.map (fun (x : Fm) => Fm.right x (t && !countB (Fm.kind f)))
    (List.take x (Fm.l f)))) ∧ (6 : Nat) = (6 : Nat) ∧ FA (List.map Fm.d (List.map (fun (x : Fm) => Fm.right x (t && !countB (Fm.kind f))) (List.take x (Fm.l f)))) [D.agg [D.int IntKind.i64
    n, D.str s, D.int IntKind.i64 n_1, D.sl l_2, D.sl l_3, D.sl l_4]] (nat_lit 6) (nat_lit 104)) ∧ ∃ (y : Nat), y ≤ List.length (Fm.l f) ∧ List.length (Fm.l f) - y < List.length (Fm.l f) - x
    ∧ (t = t ∧ AV.ptr (0 : Nat) (0 : Nat) = AV.ptr (0 : Nat) (0 : Nat) ∧ AV.ptr (1 : Nat) (0 : Nat) = AV.ptr (1 : Nat) (0 : Nat) ∧ AV.ptr (2 : Nat) (0 : Nat) = AV.ptr (2 : Nat) (0 : Nat) ∧
    List.map Fm.d (Fm.l f) = List.map Fm.d (Fm.l f) ∧ (↑(List.length (List.map Fm.d (Fm.l f))) : Int) = (↑(List.length (List.map Fm.d (Fm.l f))) : Int) ∧ IntKind.wrap IntKind.i64 ((↑x : Int)
    + (1 : Int)) = (↑y : Int) ∧ True) ∧ (Fm.kind f = Fm.kind f ∧ Fm.name f = Fm.name f ∧ Fm.n f = Fm.n f ∧ List.map Tm.d (Fm.ts f) = List.map Tm.d (Fm.ts f) ∧ List.map Bd.d (Fm.bs f) =
    List.map Bd.d (Fm.bs f) ∧ List.map Fm.d (Fm.l f) = List.map Fm.d (Fm.l f) ∧ True) ∧ ((0 : Int) = (0 : Int) ∧ Array.toList (ByteArray.data (ByteArray.mk #[])) = Array.toList
    (ByteArray.data (ByteArray.mk #[])) ∧ (0 : Int) = (0 : Int) ∧ ([] : List D) = [] ∧ ([] : List D) = [] ∧ ([] : List D) = [] ∧ True) ∧ (D.toInt (Option.getD (lookD (Maps.du (Maps.on
    (Maps.mk ar si du re nd))) (D.int IntKind.i64 (Fm.kind f))) (D.int IntKind.i64 (0 : Int))) = D.toInt (Option.getD (lookD (Maps.du (Maps.on (Maps.mk ar si du re nd))) (D.int IntKind.i64
    (Fm.kind f))) (D.int IntKind.i64 (0 : Int))) ∧ Fm.name f = Fm.name f ∧ IntKind.wrap IntKind.i64 (Fm.n f + (1 : Int)) = IntKind.wrap IntKind.i64 (Fm.n f + (1 : Int)) ∧ l = l ∧ l_1 = l_1 ∧
    List.map Fm.d (List.map (fun (x : Fm) => Fm.right x (t && !countB (Fm.kind f))) (List.take x (Fm.l f))) ++ List.reverse [mkD true [D.int IntKind.i64 n, D.str s, D.int IntKind.i64 n_1,
    D.sl l_2, D.sl l_3, D.sl l_4]] = List.map Fm.d (List.map (fun (x : Fm) => Fm.right x (t && !countB (Fm.kind f))) (List.take y (Fm.l f))) ∧ True) ∧ List.length (List.map Fm.d (List.map
    (fun (x : Fm) => Fm.right x (t && !countB (Fm.kind f))) (List.take x (Fm.l f)))) + List.length (List.reverse [mkD true [D.int IntKind.i64 n, D.str s, D.int IntKind.i64 n_1, D.sl l_2,
    D.sl l_3, D.sl l_4]]) = y ∧ True) ∧ (decide ((↑x : Int) < (↑(List.length (List.map Fm.d (Fm.l f))) : Int)) = false → [D.agg [D.int IntKind.i64 (D.toInt (Option.getD (lookD (Maps.du
    (Maps.on (Maps.mk ar si du re nd))) (D.int IntKind.i64 (Fm.kind f))) (D.int IntKind.i64 (0 : Int)))), D.str (Fm.name f), D.int IntKind.i64 (IntKind.wrap IntKind.i64 (Fm.n f + (1 :
    Int))), D.sl l, D.sl l_1, D.sl (List.map Fm.d (List.map (fun (x : Fm) => Fm.right x (t && !countB (Fm.kind f))) (List.take x (Fm.l f))))]] = [r])) ∧ ((Fm.kind f != (9 : Int)) = false → ∃
    (x0 : Nat), x0 ≤ List.length (Fm.l f) ∧ ((t = t ∧ AV.ptr (0 : Nat) (0 : Nat) = AV.ptr (0 : Nat) (0 : Nat) ∧ AV.ptr (1 : Nat) (0 : Nat) = AV.ptr (1 : Nat) (0 : Nat) ∧ AV.ptr (2 : Nat) (0
    : Nat) = AV.ptr (2 : Nat) (0 : Nat) ∧ List.map Fm.d (Fm.l f) = List.map Fm.d (Fm.l f) ∧ (↑(List.length (List.map Fm.d (Fm.l f))) : Int) = (↑(List.length (List.map Fm.d (Fm.l f))) : Int)
    ∧ (0 : Int) = (↑x0 : Int) ∧ True) ∧ (Fm.kind f = Fm.kind f ∧ Fm.name f = Fm.name f ∧ Fm.n f = Fm.n f ∧ List.map Tm.d (Fm.ts f) = List.map Tm.d (Fm.ts f) ∧ List.map Bd.d (Fm.bs f) =
    List.map Bd.d (Fm.bs f) ∧ List.map Fm.d (Fm.l f) = List.map Fm.d (Fm.l f) ∧ True) ∧ ((0 : Int) = (0 : Int) ∧ Array.toList (ByteArray.data (ByteArray.mk #[])) = Array.toList
    (ByteArray.data (ByteArray.mk #[])) ∧ (0 : Int) = (0 : Int) ∧ ([] : List D) = [] ∧ ([] : List D) = [] ∧ ([] : List D) = [] ∧ True) ∧ (Fm.kind f = Fm.kind f ∧ Fm.name f = Fm.name f ∧
    IntKind.wrap IntKind.i64 (Fm.n f + (1 : Int)) = IntKind.wrap IntKind.i64 (Fm.n f + (1 : Int)) ∧ l = l ∧ l_1 = l_1 ∧ ([] = List.map Fm.d (List.map (fun (x : Fm) => Fm.right x (t &&
    !countB (Fm.kind f))) (List.take x0 (Fm.l f))) ∧ List.length ([] : List D) ≤ x0) ∧ True) ∧ True) ∧ ∀ (x : Nat), x ≤ List.length (Fm.l f) → (decide ((↑x : Int) < (↑(List.length (List.map
    Fm.d (Fm.l f))) : Int)) = true → ((0 : Int) ≤ (↑x : Int) ∧ (List.map Fm.d (Fm.l f))[Int.toNat (↑x : Int)]? = some (aggAt [Sh.int IntKind.i64, Sh.str, Sh.int IntKind.i64, Sh.sl, Sh.sl,
    Sh.sl] (List.map Fm.d (Fm.l f)) (Int.toNat (↑x : Int)))) ∧ PFn Tryd.prog (GG (Maps.on (Maps.mk ar si du re nd))) (70 : Nat) [D.int IntKind.i64 (Fm.kind f)] fun (rs : List D) => ∃ (b :
    Bool), rs = [D.bool b] ∧ PFn Tryd.prog (GG (Maps.on (Maps.mk ar si du re nd))) (51 : Nat) [aggAt [Sh.int IntKind.i64, Sh.str, Sh.int IntKind.i64, Sh.sl, Sh.sl, Sh.sl] (List.map Fm.d
    (Fm.l f)) (Int.toNat (↑x : Int)), D.bool (bif t then !b else false)] fun (rs : List D) => ∃ (n : Int), ∃ (s : List UInt8), ∃ (n_1 : Int), ∃ (l_2 : List D), ∃ (l_3 : List D), ∃ (l_4 :
    List D), rs = [D.agg [D.int IntKind.i64 n, D.str s, D.int IntKind.i64 n_1, D.sl l_2, D.sl l_3, D.sl l_4]] ∧ (x = List.length (List.map Fm.d (List.map (fun (x : Fm) => Fm.right x (t &&
    !countB (Fm.kind f))) (List.take x (Fm.l f)))) ∧ (6 : Nat) = (6 : Nat) ∧ FA (List.map Fm.d (List.map (fun (x : Fm) => Fm.right x (t && !countB (Fm.kind f))) (List.take x (Fm.l f))))
    [D.agg [D.int IntKind.i64 n, D.str s, D.int IntKind.i64 n_1, D.sl l_2, D.sl l_3, D.sl l_4]] (nat_lit 6) (nat_lit 104)) ∧ ∃ (y : Nat), y ≤ List.length (Fm.l f) ∧ List.length (Fm.l f) - y
    < List.length (Fm.l f) - x ∧ (t = t ∧ AV.ptr (0 : Nat) (0 : Nat) = AV.ptr (0 : Nat) (0 : Nat) ∧ AV.ptr (1 : Nat) (0 : Nat) = AV.ptr (1 : Nat) (0 : Nat) ∧ AV.ptr (2 : Nat) (0 : Nat) =
    AV.ptr (2 : Nat) (0 : Nat) ∧ List.map Fm.d (Fm.l f) = List.map Fm.d (Fm.l f) ∧ (↑(List.length (List.map Fm.d (Fm.l f))) : Int) = (↑(List.length (List.map Fm.d (Fm.l f))) : Int) ∧
    IntKind.wrap IntKind.i64 ((↑x : Int) + (1 : Int)) = (↑y : Int) ∧ True) ∧ (Fm.kind f = Fm.kind f ∧ Fm.name f = Fm.name f ∧ Fm.n f = Fm.n f ∧ List.map Tm.d (Fm.ts f) = List.map Tm.d (Fm.ts
    f) ∧ List.map Bd.d (Fm.bs f) = List.map Bd.d (Fm.bs f) ∧ List.map Fm.d (Fm.l f) = List.map Fm.d (Fm.l f) ∧ True) ∧ ((0 : Int) = (0 : Int) ∧ Array.toList (ByteArray.data (ByteArray.mk
    #[])) = Array.toList (ByteArray.data (ByteArray.mk #[])) ∧ (0 : Int) = (0 : Int) ∧ ([] : List D) = [] ∧ ([] : List D) = [] ∧ ([] : List D) = [] ∧ True) ∧ (Fm.kind f = Fm.kind f ∧ Fm.name
    f = Fm.name f ∧ IntKind.wrap IntKind.i64 (Fm.n f + (1 : Int)) = IntKind.wrap IntKind.i64 (Fm.n f + (1 : Int)) ∧ l = l ∧ l_1 = l_1 ∧ List.map Fm.d (List.map (fun (x : Fm) => Fm.right x (t
    && !countB (Fm.kind f))) (List.take x (Fm.l f))) ++ List.reverse [mkD true [D.int IntKind.i64 n, D.str s, D.int IntKind.i64 n_1, D.sl l_2, D.sl l_3, D.sl l_4]] = List.map Fm.d (List.map
    (fun (x : Fm) => Fm.right x (t && !countB (Fm.kind f))) (List.take y (Fm.l f))) ∧ True) ∧ List.length (List.map Fm.d (List.map (fun (x : Fm) => Fm.right x (t && !countB (Fm.kind f)))
    (List.take x (Fm.l f)))) + List.length (List.reverse [mkD true [D.int IntKind.i64 n, D.str s, D.int IntKind.i64 n_1, D.sl l_2, D.sl l_3, D.sl l_4]]) = y ∧ True) ∧ (decide ((↑x : Int) <
    (↑(List.length (List.map Fm.d (Fm.l f))) : Int)) = false → [D.agg [D.int IntKind.i64 (Fm.kind f), D.str (Fm.name f), D.int IntKind.i64 (IntKind.wrap IntKind.i64 (Fm.n f + (1 : Int))),
    D.sl l, D.sl l_1, D.sl (List.map Fm.d (List.map (fun (x : Fm) => Fm.right x (t && !countB (Fm.kind f))) (List.take x (Fm.l f))))]] = [r]))) ∧ ((Fm.kind f == (17 : Int)) = false →
    ((Fm.kind f != (9 : Int)) = true → (List.all (Maps.du (Maps.on (Maps.mk ar si du re nd))) fun (kv : D × D) => sameKind (D.int IntKind.i64 (Fm.kind f)) (Prod.fst kv) && Sh.ok (Sh.int
    IntKind.i64) (Prod.snd kv)) = true ∧ ∃ (x0 : Nat), x0 ≤ List.length (Fm.l f) ∧ ((t = t ∧ AV.ptr (0 : Nat) (0 : Nat) = AV.ptr (0 : Nat) (0 : Nat) ∧ AV.ptr (1 : Nat) (0 : Nat) = AV.ptr (1
    : Nat) (0 : Nat) ∧ AV.ptr (2 : Nat) (0 : Nat) = AV.ptr (2 : Nat) (0 : Nat) ∧ List.map Fm.d (Fm.l f) = List.map Fm.d (Fm.l f) ∧ (↑(List.length (List.map Fm.d (Fm.l f))) : Int) =
    (↑(List.length (List.map Fm.d (Fm.l f))) : Int) ∧ (0 : Int) = (↑x0 : Int) ∧ True) ∧ (Fm.kind f = Fm.kind f ∧ Fm.name f = Fm.name f ∧ Fm.n f = Fm.n f ∧ List.map Tm.d (Fm.ts f) = List.map
    Tm.d (Fm.ts f) ∧ List.map Bd.d (Fm.bs f) = List.map Bd.d (Fm.bs f) ∧ List.map Fm.d (Fm.l f) = List.map Fm.d (Fm.l f) ∧ True) ∧ ((0 : Int) = (0 : Int) ∧ Array.toList (ByteArray.data
    (ByteArray.mk #[])) = Array.toList (ByteArray.data (ByteArray.mk #[])) ∧ (0 : Int) = (0 : Int) ∧ ([] : List D) = [] ∧ ([] : List D) = [] ∧ ([] : List D) = [] ∧ True) ∧ (D.toInt
    (Option.getD (lookD (Maps.du (Maps.on (Maps.mk ar si du re nd))) (D.int IntKind.i64 (Fm.kind f))) (D.int IntKind.i64 (0 : Int))) = D.toInt (Option.getD (lookD (Maps.du (Maps.on (Maps.mk
    ar si du re nd))) (D.int IntKind.i64 (Fm.kind f))) (D.int IntKind.i64 (0 : Int))) ∧ Fm.name f = Fm.name f ∧ Fm.n f = Fm.n f ∧ l = l ∧ l_1 = l_1 ∧ ([] = List.map Fm.d (List.map (fun (x :
    Fm) => Fm.right x (t && !countB (Fm.kind f))) (List.take x0 (Fm.l f))) ∧ List.length ([] : List D) ≤ x0) ∧ True) ∧ True) ∧ ∀ (x : Nat), x ≤ List.length (Fm.l f) → (decide ((↑x : Int) <
    (↑(List.length (List.map Fm.d (Fm.l f))) : Int)) = true → ((0 : Int) ≤ (↑x : Int) ∧ (List.map Fm.d (Fm.l f))[Int.toNat (↑x : Int)]? = some (aggAt [Sh.int IntKind.i64, Sh.str, Sh.int
    IntKind.i64, Sh.sl, Sh.sl, Sh.sl] (List.map Fm.d (Fm.l f)) (Int.toNat (↑x : Int)))) ∧ PFn Tryd.prog (GG (Maps.on (Maps.mk ar si du re nd))) (70 : Nat) [D.int IntKind.i64 (Fm.kind f)] fun
    (rs : List D) => ∃ (b : Bool), rs = [D.bool b] ∧ PFn Tryd.prog (GG (Maps.on (Maps.mk ar si du re nd))) (51 : Nat) [aggAt [Sh.int IntKind.i64, Sh.str, Sh.int IntKind.i64, Sh.sl, Sh.sl,
    Sh.sl] (List.map Fm.d (Fm.l f)) (Int.toNat (↑x : Int)), D.bool (bif t then !b else false)] fun (rs : List D) => ∃ (n : Int), ∃ (s : List UInt8), ∃ (n_1 : Int), ∃ (l_2 : List D), ∃ (l_3 :
    List D), ∃ (l_4 : List D), rs = [D.agg [D.int IntKind.i64 n, D.str s, D.int IntKind.i64 n_1, D.sl l_2, D.sl l_3, D.sl l_4]] ∧ (x = List.length (List.map Fm.d (List.map (fun (x : Fm) =>
    Fm.right x (t && !countB (Fm.kind f))) (List.take x (Fm.l f)))) ∧ (6 : Nat) = (6 : Nat) ∧ FA (List.map Fm.d (List.map (fun (x : Fm) => Fm.right x (t && !countB (Fm.kind f))) (List.take x
    (Fm.l f)))) [D.agg [D.int IntKind.i64 n, D.str s, D.int IntKind.i64 n_1, D.sl l_2, D.sl l_3, D.sl l_4]] (nat_lit 6) (nat_lit 104)) ∧ ∃ (y : Nat), y ≤ List.length (Fm.l f) ∧ List.length
    (Fm.l f) - y < List.length (Fm.l f) - x ∧ (t = t ∧ AV.ptr (0 : Nat) (0 : Nat) = AV.ptr (0 : Nat) (0 : Nat) ∧ AV.ptr (1 : Nat) (0 : Nat) = AV.ptr (1 : Nat) (0 : Nat) ∧ AV.ptr (2 : Nat) (0
    : Nat) = AV.ptr (2 : Nat) (0 : Nat) ∧ List.map Fm.d (Fm.l f) = List.map Fm.d (Fm.l f) ∧ (↑(List.length (List.map Fm.d (Fm.l f))) : Int) = (↑(List.length (List.map Fm.d (Fm.l f))) : Int)
    ∧ IntKind.wrap IntKind.i64 ((↑x : Int) + (1 : Int)) = (↑y : Int) ∧ True) ∧ (Fm.kind f = Fm.kind f ∧ Fm.name f = Fm.name f ∧ Fm.n f = Fm.n f ∧ List.map Tm.d (Fm.ts f) = List.map Tm.d
    (Fm.ts f) ∧ List.map Bd.d (Fm.bs f) = List.map Bd.d (Fm.bs f) ∧ List.map Fm.d (Fm.l f) = List.map Fm.d (Fm.l f) ∧ True) ∧ ((0 : Int) = (0 : Int) ∧ Array.toList (ByteArray.data
    (ByteArray.mk #[])) = Array.toList (ByteArray.data (ByteArray.mk #[])) ∧ (0 : Int) = (0 : Int) ∧ ([] : List D) = [] ∧ ([] : List D) = [] ∧ ([] : List D) = [] ∧ True) ∧ (D.toInt
    (Option.getD (lookD (Maps.du (Maps.on (Maps.mk ar si du re nd))) (D.int IntKind.i64 (Fm.kind f))) (D.int IntKind.i64 (0 : Int))) = D.toInt (Option.getD (lookD (Maps.du (Maps.on (Maps.mk
    ar si du re nd))) (D.int IntKind.i64 (Fm.kind f))) (D.int IntKind.i64 (0 : Int))) ∧ Fm.name f = Fm.name f ∧ Fm.n f = Fm.n f ∧ l = l ∧ l_1 = l_1 ∧ List.map Fm.d (List.map (fun (x : Fm) =>
    Fm.right x (t && !countB (Fm.kind f))) (List.take x (Fm.l f))) ++ List.reverse [mkD true [D.int IntKind.i64 n, D.str s, D.int IntKind.i64 n_1, D.sl l_2, D.sl l_3, D.sl l_4]] = List.map
    Fm.d (List.map (fun (x : Fm) => Fm.right x (t && !countB (Fm.kind f))) (List.take y (Fm.l f))) ∧ True) ∧ List.length (List.map Fm.d (List.map (fun (x : Fm) => Fm.right x (t && !countB
    (Fm.kind f))) (List.take x (Fm.l f)))) + List.length (List.reverse [mkD true [D.int IntKind.i64 n, D.str s, D.int IntKind.i64 n_1, D.sl l_2, D.sl l_3, D.sl l_4]]) = y ∧ True) ∧ (decide
    ((↑x : Int) < (↑(List.length (List.map Fm.d (Fm.l f))) : Int)) = false → [D.agg [D.int IntKind.i64 (D.toInt (Option.getD (lookD (Maps.du (Maps.on (Maps.mk ar si du re nd))) (D.int
    IntKind.i64 (Fm.kind f))) (D.int IntKind.i64 (0 : Int)))), D.str (Fm.name f), D.int IntKind.i64 (Fm.n f), D.sl l, D.sl l_1, D.sl (List.map Fm.d (List.map (fun (x : Fm) => Fm.right x (t
    && !countB (Fm.kind f))) (List.take x (Fm.l f))))]] = [r])) ∧ ((Fm.kind f != (9 : Int)) = false → ∃ (x0 : Nat), x0 ≤ List.length (Fm.l f) ∧ ((t = t ∧ AV.ptr (0 : Nat) (0 : Nat) = AV.ptr
    (0 : Nat) (0 : Nat) ∧ AV.ptr (1 : Nat) (0 : Nat) = AV.ptr (1 : Nat) (0 : Nat) ∧ AV.ptr (2 : Nat) (0 : Nat) = AV.ptr (2 : Nat) (0 : Nat) ∧ List.map Fm.d (Fm.l f) = List.map Fm.d (Fm.l f)
    ∧ (↑(List.length (List.map Fm.d (Fm.l f))) : Int) = (↑(List.length (List.map Fm.d (Fm.l f))) : Int) ∧ (0 : Int) = (↑x0 : Int) ∧ True) ∧ (Fm.kind f = Fm.kind f ∧ Fm.name f = Fm.name f ∧
    Fm.n f = Fm.n f ∧ List.map Tm.d (Fm.ts f) = List.map Tm.d (Fm.ts f) ∧ List.map Bd.d (Fm.bs f) = List.map Bd.d (Fm.bs f) ∧ List.map Fm.d (Fm.l f) = List.map Fm.d (Fm.l f) ∧ True) ∧ ((0 :
    Int) = (0 : Int) ∧ Array.toList (ByteArray.data (ByteArray.mk #[])) = Array.toList (ByteArray.data (ByteArray.mk #[])) ∧ (0 : Int) = (0 : Int) ∧ ([] : List D) = [] ∧ ([] : List D) = [] ∧
    ([] : List D) = [] ∧ True) ∧ (Fm.kind f = Fm.kind f ∧ Fm.name f = Fm.name f ∧ Fm.n f = Fm.n f ∧ l = l ∧ l_1 = l_1 ∧ ([] = List.map Fm.d (List.map (fun (x : Fm) => Fm.right x (t &&
    !countB (Fm.kind f))) (List.take x0 (Fm.l f))) ∧ List.length ([] : List D) ≤ x0) ∧ True) ∧ True) ∧ ∀ (x : Nat), x ≤ List.length (Fm.l f) → (decide ((↑x : Int) < (↑(List.length (List.map
    Fm.d (Fm.l f))) : Int)) = true → ((0 : Int) ≤ (↑x : Int) ∧ (List.map Fm.d (Fm.l f))[Int.toNat (↑x : Int)]? = some (aggAt [Sh.int IntKind.i64, Sh.str, Sh.int IntKind.i64, Sh.sl, Sh.sl,
    Sh.sl] (List.map Fm.d (Fm.l f)) (Int.toNat (↑x : Int)))) ∧ PFn Tryd.prog (GG (Maps.on (Maps.mk ar si du re nd))) (70 : Nat) [D.int IntKind.i64 (Fm.kind f)] fun (rs : List D) => ∃ (b :
    Bool), rs = [D.bool b] ∧ PFn Tryd.prog (GG (Maps.on (Maps.mk ar si du re nd))) (51 : Nat) [aggAt [Sh.int IntKind.i64, Sh.str, Sh.int IntKind.i64, Sh.sl, Sh.sl, Sh.sl] (List.map Fm.d
    (Fm.l f)) (Int.toNat (↑x : Int)), D.bool (bif t then !b else false)] fun (rs : List D) => ∃ (n : Int), ∃ (s : List UInt8), ∃ (n_1 : Int), ∃ (l_2 : List D), ∃ (l_3 : List D), ∃ (l_4 :
    List D), rs = [D.agg [D.int IntKind.i64 n, D.str s, D.int IntKind.i64 n_1, D.sl l_2, D.sl l_3, D.sl l_4]] ∧ (x = List.length (List.map Fm.d (List.map (fun (x : Fm) => Fm.right x (t &&
    !countB (Fm.kind f))) (List.take x (Fm.l f)))) ∧ (6 : Nat) = (6 : Nat) ∧ FA (List.map Fm.d (List.map (fun (x : Fm) => Fm.right x (t && !countB (Fm.kind f))) (List.take x (Fm.l f))))
    [D.agg [D.int IntKind.i64 n, D.str s, D.int IntKind.i64 n_1, D.sl l_2, D.sl l_3, D.sl l_4]] (nat_lit 6) (nat_lit 104)) ∧ ∃ (y : Nat), y ≤ List.length (Fm.l f) ∧ List.length (Fm.l f) - y
    < List.length (Fm.l f) - x ∧ (t = t ∧ AV.ptr (0 : Nat) (0 : Nat) = AV.ptr (0 : Nat) (0 : Nat) ∧ AV.ptr (1 : Nat) (0 : Nat) = AV.ptr (1 : Nat) (0 : Nat) ∧ AV.ptr (2 : Nat) (0 : Nat) =
    AV.ptr (2 : Nat) (0 : Nat) ∧ List.map Fm.d (Fm.l f) = List.map Fm.d (Fm.l f) ∧ (↑(List.length (List.map Fm.d (Fm.l f))) : Int) = (↑(List.length (List.map Fm.d (Fm.l f))) : Int) ∧
    IntKind.wrap IntKind.i64 ((↑x : Int) + (1 : Int)) = (↑y : Int) ∧ True) ∧ (Fm.kind f = Fm.kind f ∧ Fm.name f = Fm.name f ∧ Fm.n f = Fm.n f ∧ List.map Tm.d (Fm.ts f) = List.map Tm.d (Fm.ts
    f) ∧ List.map Bd.d (Fm.bs f) = List.map Bd.d (Fm.bs f) ∧ List.map Fm.d (Fm.l f) = List.map Fm.d (Fm.l f) ∧ True) ∧ ((0 : Int) = (0 : Int) ∧ Array.toList (ByteArray.data (ByteArray.mk
    #[])) = Array.toList (ByteArray.data (ByteArray.mk #[])) ∧ (0 : Int) = (0 : Int) ∧ ([] : List D) = [] ∧ ([] : List D) = [] ∧ ([] : List D) = [] ∧ True) ∧ (Fm.kind f = Fm.kind f ∧ Fm.name
    f = Fm.name f ∧ Fm.n f = Fm.n f ∧ l = l ∧ l_1 = l_1 ∧ List.map Fm.d (List.map (fun (x : Fm) => Fm.right x (t && !countB (Fm.kind f))) (List.take x (Fm.l f))) ++ List.reverse [mkD true
    [D.int IntKind.i64 n, D.str s, D.int IntKind.i64 n_1, D.sl l_2, D.sl l_3, D.sl l_4]] = List.map Fm.d (List.map (fun (x : Fm) => Fm.right x (t && !countB (Fm.kind f))) (List.take y (Fm.l
    f))) ∧ True) ∧ List.length (List.map Fm.d (List.map (fun (x : Fm) => Fm.right x (t && !countB (Fm.kind f))) (List.take x (Fm.l f)))) + List.length (List.reverse [mkD true [D.int
    IntKind.i64 n, D.str s, D.int IntKind.i64 n_1, D.sl l_2, D.sl l_3, D.sl l_4]]) = y ∧ True) ∧ (decide ((↑x : Int) < (↑(List.length (List.map Fm.d (Fm.l f))) : Int)) = false → [D.agg
    [D.int IntKind.i64 (Fm.kind f), D.str (Fm.name f), D.int IntKind.i64 (Fm.n f), D.sl l, D.sl l_1, D.sl (List.map Fm.d (List.map (fun (x : Fm) => Fm.right x (t && !countB (Fm.kind f)))
    (List.take x (Fm.l f))))]] = [r])))))) ∧ (t = false → ∃ (x0 : Nat), x0 ≤ List.length (Fm.l f) ∧ ((t = t ∧ AV.ptr (0 : Nat) (0 : Nat) = AV.ptr (0 : Nat) (0 : Nat) ∧ AV.ptr (1 : Nat) (0 :
    Nat) = AV.ptr (1 : Nat) (0 : Nat) ∧ AV.ptr (2 : Nat) (0 : Nat) = AV.ptr (2 : Nat) (0 : Nat) ∧ List.map Fm.d (Fm.l f) = List.map Fm.d (Fm.l f) ∧ (↑(List.length (List.map Fm.d (Fm.l f))) :
    Int) = (↑(List.length (List.map Fm.d (Fm.l f))) : Int) ∧ (0 : Int) = (↑x0 : Int) ∧ True) ∧ (Fm.kind f = Fm.kind f ∧ Fm.name f = Fm.name f ∧ Fm.n f = Fm.n f ∧ List.map Tm.d (Fm.ts f) =
    List.map Tm.d (Fm.ts f) ∧ List.map Bd.d (Fm.bs f) = List.map Bd.d (Fm.bs f) ∧ List.map Fm.d (Fm.l f) = List.map Fm.d (Fm.l f) ∧ True) ∧ ((0 : Int) = (0 : Int) ∧ Array.toList
    (ByteArray.data (ByteArray.mk #[])) = Array.toList (ByteArray.data (ByteArray.mk #[])) ∧ (0 : Int) = (0 : Int) ∧ ([] : List D) = [] ∧ ([] : List D) = [] ∧ ([] : List D) = [] ∧ True) ∧
    (Fm.kind f = Fm.kind f ∧ Fm.name f = Fm.name f ∧ Fm.n f = Fm.n f ∧ l = l ∧ l_1 = l_1 ∧ ([] = List.map Fm.d (List.map (fun (x : Fm) => Fm.right x (t && !countB (Fm.kind f))) (List.take x0
    (Fm.l f))) ∧ List.length ([] : List D) ≤ x0) ∧ True) ∧ True) ∧ ∀ (x : Nat), x ≤ List.length (Fm.l f) → (decide ((↑x : Int) < (↑(List.length (List.map Fm.d (Fm.l f))) : Int)) = true → ((0
    : Int) ≤ (↑x : Int) ∧ (List.map Fm.d (Fm.l f))[Int.toNat (↑x : Int)]? = some (aggAt [Sh.int IntKind.i64, Sh.str, Sh.int IntKind.i64, Sh.sl, Sh.sl, Sh.sl] (List.map Fm.d (Fm.l f))
    (Int.toNat (↑x : Int)))) ∧ PFn Tryd.prog (GG (Maps.on (Maps.mk ar si du re nd))) (70 : Nat) [D.int IntKind.i64 (Fm.kind f)] fun (rs : List D) => ∃ (b : Bool), rs = [D.bool b] ∧ PFn
    Tryd.prog (GG (Maps.on (Maps.mk ar si du re nd))) (51 : Nat) [aggAt [Sh.int IntKind.i64, Sh.str, Sh.int IntKind.i64, Sh.sl, Sh.sl, Sh.sl] (List.map Fm.d (Fm.l f)) (Int.toNat (↑x : Int)),
    D.bool (bif t then !b else false)] fun (rs : List D) => ∃ (n : Int), ∃ (s : List UInt8), ∃ (n_1 : Int), ∃ (l_2 : List D), ∃ (l_3 : List D), ∃ (l_4 : List D), rs = [D.agg [D.int
    IntKind.i64 n, D.str s, D.int IntKind.i64 n_1, D.sl l_2, D.sl l_3, D.sl l_4]] ∧ (x = List.length (List.map Fm.d (List.map (fun (x : Fm) => Fm.right x (t && !countB (Fm.kind f)))
    (List.take x (Fm.l f)))) ∧ (6 : Nat) = (6 : Nat) ∧ FA (List.map Fm.d (List.map (fun (x : Fm) => Fm.right x (t && !countB (Fm.kind f))) (List.take x (Fm.l f)))) [D.agg [D.int IntKind.i64
    n, D.str s, D.int IntKind.i64 n_1, D.sl l_2, D.sl l_3, D.sl l_4]] (nat_lit 6) (nat_lit 104)) ∧ ∃ (y : Nat), y ≤ List.length (Fm.l f) ∧ List.length (Fm.l f) - y < List.length (Fm.l f) - x
    ∧ (t = t ∧ AV.ptr (0 : Nat) (0 : Nat) = AV.ptr (0 : Nat) (0 : Nat) ∧ AV.ptr (1 : Nat) (0 : Nat) = AV.ptr (1 : Nat) (0 : Nat) ∧ AV.ptr (2 : Nat) (0 : Nat) = AV.ptr (2 : Nat) (0 : Nat) ∧
    List.map Fm.d (Fm.l f) = List.map Fm.d (Fm.l f) ∧ (↑(List.length (List.map Fm.d (Fm.l f))) : Int) = (↑(List.length (List.map Fm.d (Fm.l f))) : Int) ∧ IntKind.wrap IntKind.i64 ((↑x : Int)
    + (1 : Int)) = (↑y : Int) ∧ True) ∧ (Fm.kind f = Fm.kind f ∧ Fm.name f = Fm.name f ∧ Fm.n f = Fm.n f ∧ List.map Tm.d (Fm.ts f) = List.map Tm.d (Fm.ts f) ∧ List.map Bd.d (Fm.bs f) =
    List.map Bd.d (Fm.bs f) ∧ List.map Fm.d (Fm.l f) = List.map Fm.d (Fm.l f) ∧ True) ∧ ((0 : Int) = (0 : Int) ∧ Array.toList (ByteArray.data (ByteArray.mk #[])) = Array.toList
    (ByteArray.data (ByteArray.mk #[])) ∧ (0 : Int) = (0 : Int) ∧ ([] : List D) = [] ∧ ([] : List D) = [] ∧ ([] : List D) = [] ∧ True) ∧ (Fm.kind f = Fm.kind f ∧ Fm.name f = Fm.name f ∧ Fm.n
    f = Fm.n f ∧ l = l ∧ l_1 = l_1 ∧ List.map Fm.d (List.map (fun (x : Fm) => Fm.right x (t && !countB (Fm.kind f))) (List.take x (Fm.l f))) ++ List.reverse [mkD true [D.int IntKind.i64 n,
    D.str s, D.int IntKind.i64 n_1, D.sl l_2, D.sl l_3, D.sl l_4]] = List.map Fm.d (List.map (fun (x : Fm) => Fm.right x (t && !countB (Fm.kind f))) (List.take y (Fm.l f))) ∧ True) ∧
    List.length (List.map Fm.d (List.map (fun (x : Fm) => Fm.right x (t && !countB (Fm.kind f))) (List.take x (Fm.l f)))) + List.length (List.reverse [mkD true [D.int IntKind.i64 n, D.str s,
    D.int IntKind.i64 n_1, D.sl l_2, D.sl l_3, D.sl l_4]]) = y ∧ True) ∧ (decide ((↑x : Int) < (↑(List.length (List.map Fm.d (Fm.l f))) : Int)) = false → [D.agg [D.int IntKind.i64 (Fm.kind
    f), D.str (Fm.name f), D.int IntKind.i64 (Fm.n f), D.sl l, D.sl l_1, D.sl (List.map Fm.d (List.map (fun (x : Fm) => Fm.right x (t && !countB (Fm.kind f))) (List.take x (Fm.l f))))]] =
    [r]))))))))
  · kernel_rfl
  have hre := right_eq f t
  have e0 : Array.toList (ByteArray.data { data := #[] }) = ([] : List UInt8) := rfl
  refine h56.mono ?_
  rintro rs rfl
  refine ⟨_, rfl, ?_⟩
  have e1 : (bif bif alwaysB f then t else false then true else bif f.kind == 2 then !t else false) = (alwaysB f && t || f.kind == 2 && !t) := by simp only [bif_or, bif_and]
  rw [e1]
  refine ⟨fun h => ?_, fun h => ?_⟩
  · rw [← hr, hre, if_pos h, Fm.d_mk]; rfl
  rw [if_neg (by rw [h]; simp)] at hre
  refine h56.mono ?_
  rintro rs rfl
  refine ⟨_, rfl, ?_⟩
  rw [bif_or]
  refine ⟨fun h2 => ?_, fun h2 => ?_⟩
  · rw [← hr, hre, if_pos h2, Fm.d_mk]; rfl
  rw [if_neg (by rw [h2]; simp)] at hre
  refine ⟨fun h3 => ?_, fun h3 => ?_⟩
  · have h3' : f.kind = 10 := by simpa using h3
    obtain ⟨x, hx⟩ := hl10 h3'
    rw [if_pos h3', hx] at hre
    rw [hx, agg_fm (i := Int.toNat 0) (f := x) rfl]
    refine ⟨⟨by decide, rfl⟩, ?_⟩
    refine (ih x (by rw [hx]; simp) (hall x (by rw [hx]; simp)) (!t)).mono ?_
    rintro rs rfl
    refine ⟨_, _, _, _, _, _, congrArg (fun z => [z]) (Fm.d_eq _), ?_⟩
    rw [← Fm.d_eq, ← hr, hre]; rfl
  have h3' : ¬ f.kind = 10 := by simpa using h3
  rw [if_neg h3'] at hre
  refine ⟨fun h4 => ?_, fun h4 => ?_⟩
  · have h4' : f.kind = 13 := by simpa using h4
    obtain ⟨x, y, hx⟩ := hl13 h4'
    rw [if_pos h4', hx] at hre
    rw [hx, agg_fm (i := Int.toNat 0) (f := x) rfl, agg_fm (i := Int.toNat 1) (f := y) rfl]
    refine ⟨⟨by decide, rfl⟩, ⟨by decide, rfl⟩, ?_⟩
    refine (ih x (by rw [hx]; simp) (hall x (by rw [hx]; simp)) (!t)).mono ?_
    rintro rs rfl
    refine ⟨_, _, _, _, _, _, congrArg (fun z => [z]) (Fm.d_eq _), ?_⟩
    refine (ih y (by rw [hx]; simp) (hall y (by rw [hx]; simp)) t).mono ?_
    rintro rs rfl
    refine ⟨_, _, _, _, _, _, congrArg (fun z => [z]) (Fm.d_eq _), fun ht => ?_, fun ht => ?_⟩
    · subst ht; rw [← Fm.d_eq, ← Fm.d_eq, ← hr, hre, Fm.d_mk]; rfl
    · subst ht; rw [← Fm.d_eq, ← Fm.d_eq, ← hr, hre, Fm.d_mk]; rfl
  have h4' : ¬ f.kind = 13 := by simpa using h4
  rw [if_neg h4'] at hre
  refine (fn42 f.kind).mono ?_
  rintro rs rfl
  refine ⟨_, rfl, ?_⟩
  rw [bif_and, bif_and]
  refine ⟨fun h5 => ?_, fun h5 => ?_⟩
  · rw [← hr, hre, if_pos h5, Fm.d_mk]
    simp only [List.map_cons, List.map_nil, f.d_eq]
  rw [if_neg (by rw [h5]; simp)] at hre
  refine (fn57 f.ts (by omega)).mono ?_
  rintro rs rfl
  refine ⟨_, rfl, ?_⟩
  refine (fn58 f.bs (by omega)).mono ?_
  rintro rs rfl
  refine ⟨_, rfl, ?_⟩
  have hdu : D.toInt (Option.getD (lookD du (.int .i64 f.kind)) (.int .i64 0)) = dualI f.kind := by rw [hM.duG, ← dual_look]; cases duL.lookup f.kind <;> rfl
  have hsi : f.kind = 9 → D.toStr (Option.getD (lookD si (.str f.name)) (.str (Array.toList (ByteArray.data { data := #[] })))) = turnS f.name := fun hk => by
    rw [hM.siG, ← sign_turn f.name (hsg hk)]; cases siL.lookup f.name <;> rfl
  have hsiA : (si.all fun kv => sameKind (.str f.name) kv.1 && Sh.ok .str kv.2) = true := by simp only [same_str f.name]; exact hM.siA
  have hduA : (du.all fun kv => sameKind (.int .i64 f.kind) kv.1 && Sh.ok (.int .i64) kv.2) = true := by simp only [same_int f.kind]; exact hM.duA
  have tr : ∀ {b : Bool}, b = true → ¬ b = false := fun h h' => by rw [h] at h'; cases h'
  refine ⟨fun ht => ⟨fun h9 => ⟨hsiA, fun hne => ?_, fun hne => ?_⟩, fun h9 => ⟨fun h16 => ⟨fun hne => ⟨hduA, ?_⟩, fun hne => ?_⟩, fun h16 => ⟨fun h17 => ⟨fun hne => ⟨hduA, ?_⟩, fun hne => ?_⟩, fun h17 => ⟨fun hne => ⟨hduA, ?_⟩, fun hne => ?_⟩⟩⟩⟩, fun ht => ?_⟩
  · simp [bne, h9] at hne
  · have hk : f.kind = 9 := by simpa using h9
    have hR : f.right t = Fm.mk f.kind (D.toStr (Option.getD (lookD si (.str f.name)) (.str (Array.toList (ByteArray.data { data := #[] }))))) f.n f.ts f.bs (f.l.map (·.right (t && !countB f.kind))) := by
      rw [hre, hsi hk, ht]; simp [hk]
    refine ⟨0, Nat.zero_le _, by simp, fun i hi => ⟨fun hlt => ?_, fun hge => ?_⟩⟩
    · simp only [List.length_map, decide_eq_true_eq] at hlt
      obtain ⟨z, hz, hm⟩ := get_nat (l := f.l) (x := i) (by omega)
      rw [Int.toNat_natCast, agg_fm hz]
      refine ⟨⟨by omega, by simp [hz]⟩, ?_⟩
      refine (fn44 f.kind).mono ?_
      rintro rs rfl
      refine ⟨_, rfl, ?_⟩
      rw [bif_and]
      refine (ih z hm (hall z hm) (t && !countB f.kind)).mono ?_
      rintro rs rfl
      refine ⟨_, _, _, _, _, _, congrArg (fun z => [z]) (Fm.d_eq _), ⟨?_, rfl, ?_, ?_⟩, i + 1, by omega, by omega, ⟨rfl, rfl, rfl, rfl, rfl, rfl, ?_, trivial⟩, ⟨rfl, rfl, rfl, rfl, rfl, rfl, trivial⟩, ⟨rfl, rfl, rfl, rfl, rfl, rfl, trivial⟩, ⟨rfl, rfl, rfl, rfl, rfl, ?_, trivial⟩, ?_, trivial⟩
      · simp; omega
      · rw [← Fm.d_eq]
        have := cells_fm ((f.l.take i).map (·.right (t && !countB f.kind)) ++ [z.right (t && !countB f.kind)])
        simpa using this
      · simp; omega
      · rw [wrap64 (by omega) (by omega)]; simp
      · show _ ++ [D.agg (fmCells (z.right (t && !countB f.kind)))] = _
        rw [← d_cells, List.take_add_one, hz]; simp
      · simp; omega
    · simp only [List.length_map, decide_eq_false_iff_not] at hge
      rw [List.take_of_length_le (by omega), ← hr, hR, Fm.d_mk]
  · have hk : f.kind = 16 := by simpa using h16
    have hw : IntKind.wrap IntKind.i64 (f.n - 1) = f.n - 1 := by
      have := hn0 (.inl hk); rw [wrap64 (by omega) (by omega)]
    have hR : f.right t = Fm.mk (D.toInt (Option.getD (lookD du (.int .i64 f.kind)) (.int .i64 0))) f.name (IntKind.wrap IntKind.i64 (f.n - 1)) f.ts f.bs (f.l.map (·.right (t && !countB f.kind))) := by
      rw [hre, hdu, hw, ht]; simp [hk]
    refine ⟨0, Nat.zero_le _, by simp, fun i hi => ⟨fun hlt => ?_, fun hge => ?_⟩⟩
    · simp only [List.length_map, decide_eq_true_eq] at hlt
      obtain ⟨z, hz, hm⟩ := get_nat (l := f.l) (x := i) (by omega)
      rw [Int.toNat_natCast, agg_fm hz]
      refine ⟨⟨by omega, by simp [hz]⟩, ?_⟩
      refine (fn44 f.kind).mono ?_
      rintro rs rfl
      refine ⟨_, rfl, ?_⟩
      rw [bif_and]
      refine (ih z hm (hall z hm) (t && !countB f.kind)).mono ?_
      rintro rs rfl
      refine ⟨_, _, _, _, _, _, congrArg (fun z => [z]) (Fm.d_eq _), ⟨?_, rfl, ?_, ?_⟩, i + 1, by omega, by omega, ⟨rfl, rfl, rfl, rfl, rfl, rfl, ?_, trivial⟩, ⟨rfl, rfl, rfl, rfl, rfl, rfl, trivial⟩, ⟨rfl, rfl, rfl, rfl, rfl, rfl, trivial⟩, ⟨rfl, rfl, rfl, rfl, rfl, ?_, trivial⟩, ?_, trivial⟩
      · simp; omega
      · rw [← Fm.d_eq]
        have := cells_fm ((f.l.take i).map (·.right (t && !countB f.kind)) ++ [z.right (t && !countB f.kind)])
        simpa using this
      · simp; omega
      · rw [wrap64 (by omega) (by omega)]; simp
      · show _ ++ [D.agg (fmCells (z.right (t && !countB f.kind)))] = _
        rw [← d_cells, List.take_add_one, hz]; simp
      · simp; omega
    · simp only [List.length_map, decide_eq_false_iff_not] at hge
      rw [List.take_of_length_le (by omega), ← hr, hR, Fm.d_mk]
  · simp [bne, h9] at hne
  · have hk : f.kind = 17 := by simpa using h17
    have hw : IntKind.wrap IntKind.i64 (f.n + 1) = f.n + 1 := by
      have := hn0 (.inr hk); rw [wrap64 (by omega) (by omega)]
    have hR : f.right t = Fm.mk (D.toInt (Option.getD (lookD du (.int .i64 f.kind)) (.int .i64 0))) f.name (IntKind.wrap IntKind.i64 (f.n + 1)) f.ts f.bs (f.l.map (·.right (t && !countB f.kind))) := by
      rw [hre, hdu, hw, ht]; simp [hk]
    refine ⟨0, Nat.zero_le _, by simp, fun i hi => ⟨fun hlt => ?_, fun hge => ?_⟩⟩
    · simp only [List.length_map, decide_eq_true_eq] at hlt
      obtain ⟨z, hz, hm⟩ := get_nat (l := f.l) (x := i) (by omega)
      rw [Int.toNat_natCast, agg_fm hz]
      refine ⟨⟨by omega, by simp [hz]⟩, ?_⟩
      refine (fn44 f.kind).mono ?_
      rintro rs rfl
      refine ⟨_, rfl, ?_⟩
      rw [bif_and]
      refine (ih z hm (hall z hm) (t && !countB f.kind)).mono ?_
      rintro rs rfl
      refine ⟨_, _, _, _, _, _, congrArg (fun z => [z]) (Fm.d_eq _), ⟨?_, rfl, ?_, ?_⟩, i + 1, by omega, by omega, ⟨rfl, rfl, rfl, rfl, rfl, rfl, ?_, trivial⟩, ⟨rfl, rfl, rfl, rfl, rfl, rfl, trivial⟩, ⟨rfl, rfl, rfl, rfl, rfl, rfl, trivial⟩, ⟨rfl, rfl, rfl, rfl, rfl, ?_, trivial⟩, ?_, trivial⟩
      · simp; omega
      · rw [← Fm.d_eq]
        have := cells_fm ((f.l.take i).map (·.right (t && !countB f.kind)) ++ [z.right (t && !countB f.kind)])
        simpa using this
      · simp; omega
      · rw [wrap64 (by omega) (by omega)]; simp
      · show _ ++ [D.agg (fmCells (z.right (t && !countB f.kind)))] = _
        rw [← d_cells, List.take_add_one, hz]; simp
      · simp; omega
    · simp only [List.length_map, decide_eq_false_iff_not] at hge
      rw [List.take_of_length_le (by omega), ← hr, hR, Fm.d_mk]
  · simp [bne, h9] at hne
  · have hk1 : ¬ f.kind = 16 := by simpa using h16
    have hk2 : ¬ f.kind = 17 := by simpa using h17
    have hk3 : ¬ f.kind = 9 := by simpa using h9
    have hR : f.right t = Fm.mk (D.toInt (Option.getD (lookD du (.int .i64 f.kind)) (.int .i64 0))) f.name f.n f.ts f.bs (f.l.map (·.right (t && !countB f.kind))) := by
      rw [hre, hdu, ht]; simp [hk1, hk2, hk3]
    refine ⟨0, Nat.zero_le _, by simp, fun i hi => ⟨fun hlt => ?_, fun hge => ?_⟩⟩
    · simp only [List.length_map, decide_eq_true_eq] at hlt
      obtain ⟨z, hz, hm⟩ := get_nat (l := f.l) (x := i) (by omega)
      rw [Int.toNat_natCast, agg_fm hz]
      refine ⟨⟨by omega, by simp [hz]⟩, ?_⟩
      refine (fn44 f.kind).mono ?_
      rintro rs rfl
      refine ⟨_, rfl, ?_⟩
      rw [bif_and]
      refine (ih z hm (hall z hm) (t && !countB f.kind)).mono ?_
      rintro rs rfl
      refine ⟨_, _, _, _, _, _, congrArg (fun z => [z]) (Fm.d_eq _), ⟨?_, rfl, ?_, ?_⟩, i + 1, by omega, by omega, ⟨rfl, rfl, rfl, rfl, rfl, rfl, ?_, trivial⟩, ⟨rfl, rfl, rfl, rfl, rfl, rfl, trivial⟩, ⟨rfl, rfl, rfl, rfl, rfl, rfl, trivial⟩, ⟨rfl, rfl, rfl, rfl, rfl, ?_, trivial⟩, ?_, trivial⟩
      · simp; omega
      · rw [← Fm.d_eq]
        have := cells_fm ((f.l.take i).map (·.right (t && !countB f.kind)) ++ [z.right (t && !countB f.kind)])
        simpa using this
      · simp; omega
      · rw [wrap64 (by omega) (by omega)]; simp
      · show _ ++ [D.agg (fmCells (z.right (t && !countB f.kind)))] = _
        rw [← d_cells, List.take_add_one, hz]; simp
      · simp; omega
    · simp only [List.length_map, decide_eq_false_iff_not] at hge
      rw [List.take_of_length_le (by omega), ← hr, hR, Fm.d_mk]
  · simp [bne, h9] at hne
  · have hR : f.right t = Fm.mk f.kind f.name f.n f.ts f.bs (f.l.map (·.right (t && !countB f.kind))) := by
      rw [hre, ht]; simp
    refine ⟨0, Nat.zero_le _, by simp, fun i hi => ⟨fun hlt => ?_, fun hge => ?_⟩⟩
    · simp only [List.length_map, decide_eq_true_eq] at hlt
      obtain ⟨z, hz, hm⟩ := get_nat (l := f.l) (x := i) (by omega)
      rw [Int.toNat_natCast, agg_fm hz]
      refine ⟨⟨by omega, by simp [hz]⟩, ?_⟩
      refine (fn44 f.kind).mono ?_
      rintro rs rfl
      refine ⟨_, rfl, ?_⟩
      rw [bif_and]
      refine (ih z hm (hall z hm) (t && !countB f.kind)).mono ?_
      rintro rs rfl
      refine ⟨_, _, _, _, _, _, congrArg (fun z => [z]) (Fm.d_eq _), ⟨?_, rfl, ?_, ?_⟩, i + 1, by omega, by omega, ⟨rfl, rfl, rfl, rfl, rfl, rfl, ?_, trivial⟩, ⟨rfl, rfl, rfl, rfl, rfl, rfl, trivial⟩, ⟨rfl, rfl, rfl, rfl, rfl, rfl, trivial⟩, ⟨rfl, rfl, rfl, rfl, rfl, ?_, trivial⟩, ?_, trivial⟩
      · simp; omega
      · rw [← Fm.d_eq]
        have := cells_fm ((f.l.take i).map (·.right (t && !countB f.kind)) ++ [z.right (t && !countB f.kind)])
        simpa using this
      · simp; omega
      · rw [wrap64 (by omega) (by omega)]; simp
      · show _ ++ [D.agg (fmCells (z.right (t && !countB f.kind)))] = _
        rw [← d_cells, List.take_add_one, hz]; simp
      · simp; omega
    · simp only [List.length_map, decide_eq_false_iff_not] at hge
      rw [List.take_of_length_le (by omega), ← hr, hR, Fm.d_mk]
end
end Go.Fo
/- Free variables: the program's closure. -/
namespace Go.Fo
open Go Go.Sx Go.Proofs
set_option maxRecDepth 100000
set_option maxHeartbeats 0

abbrev Nm := List UInt8
def addT (bnd : List Nm) (o : List Nm) (t : Tm) : List Nm := if t.kind != 1 && !bnd.contains t.name && !o.contains t.name then o ++ [t.name] else o
theorem addT_pos {bnd o : List Nm} {t : Tm} (h : (t.kind != 1 && !bnd.contains t.name && !o.contains t.name) = true) : addT bnd o t = o ++ [t.name] := if_pos h
theorem addT_neg {bnd o : List Nm} {t : Tm} (h : (t.kind != 1 && !bnd.contains t.name && !o.contains t.name) = false) : addT bnd o t = o := if_neg (by rw [h]; simp)
mutual
def Fm.look (bnd out : List Nm) : Fm → List Nm
  | .mk _ _ _ ts bs l => Fm.looks (bs.map (·.name) ++ bnd) (ts.foldl (addT (bs.map (·.name) ++ bnd)) out) l
def Fm.looks (bnd out : List Nm) : List Fm → List Nm
  | [] => out
  | x :: r => Fm.looks bnd (x.look bnd out) r
end
theorem Fm.look_eq (bnd out : List Nm) (f : Fm) : f.look bnd out = Fm.looks (f.bs.map (·.name) ++ bnd) (f.ts.foldl (addT (f.bs.map (·.name) ++ bnd)) out) f.l := by cases f; rw [Fm.look]; rfl
theorem looks_fold (bnd : List Nm) (l : List Fm) : ∀ out, Fm.looks bnd out l = l.foldl (fun o x => x.look bnd o) out := by
  induction l with
  | nil => intro out; rw [Fm.looks]; rfl
  | cons x r ih => intro out; rw [Fm.looks, ih]; rfl

def cntE (es : List (D × D)) (s : Nm) : Int := D.toInt (Option.getD (lookD es (.str s)) (.int .i64 0))
structure EsOk (es : List (D × D)) (bnd : List Nm) : Prop where
  all : (es.all fun kv => sameKind (.str []) kv.1 && Sh.ok (.int .i64) kv.2) = true
  cnt : ∀ s, cntE es s = (bnd.count s : Int)

theorem look_upd (k k' : Nm) (x : D) : ∀ (es : List (D × D)), lookD (updD es (.str k) x) (.str k') = if k' = k then some x else lookD es (.str k')
  | [] => by
    simp only [updD, lookD, List.find?]
    by_cases h : k' = k
    · subst h; simp [beqD]
    · have h1 : (k' == k) = false := by simpa using h
      simp [beqD, h, h1]
  | kv :: r => by
    have ih := look_upd k k' x r
    simp only [updD]
    by_cases hb : beqD (.str k) kv.1 = true
    · rw [if_pos hb]
      by_cases h : k' = k
      · subst h; simp [lookD, beqD]
      · simp only [lookD, List.find?, if_neg h]
        have h1 : beqD (.str k') (.str k) = false := by simp [beqD, h]
        have h2 : beqD (.str k') kv.1 = false := by
          obtain ⟨a, b⟩ := kv
          cases a <;> simp [beqD] at hb ⊢
          subst hb; exact h
        rw [h1, h2]
    · rw [if_neg hb]
      have e : ∀ l : List (D × D), lookD (kv :: l) (.str k') = if beqD (.str k') kv.1 = true then some kv.2 else lookD l (.str k') := fun l => by
        simp only [lookD, List.find?]
        cases beqD (.str k') kv.1 <;> rfl
      rw [e, e, ih]
      by_cases h : k' = k
      · subst h; rw [if_neg hb]; simp
      · simp only [if_neg h]
theorem upd_all {Q : D × D → Bool} (k x : D) : ∀ (es : List (D × D)), es.all Q = true → Q (k, x) = true → (updD es k x).all Q = true
  | [], _, h => by simp [updD, h]
  | kv :: r, h, h2 => by
    simp only [List.all_cons, Bool.and_eq_true] at h
    simp only [updD]
    split
    · simp [h2, h.2]
    · simp [h.1, upd_all k x r h.2 h2]

theorem EsOk.set {es : List (D × D)} {b1 b2 : List Nm} {s : Nm} {v : Int} (he : EsOk es b1) (hc : ∀ s', (b2.count s' : Int) = if s' = s then v else (b1.count s' : Int)) : EsOk (updD es (.str s) (.int .i64 v)) b2 := by
  refine ⟨upd_all _ _ es he.all rfl, fun s' => ?_⟩
  unfold cntE
  rw [look_upd, hc]
  split
  · rfl
  · exact he.cnt s'

theorem addT_len (bnd : List Nm) (ts : List Tm) : ∀ out, (ts.foldl (addT bnd) out).length ≤ out.length + ts.length := by
  induction ts with
  | nil => intro out; simp
  | cons t r ih =>
    intro out
    have := ih (addT bnd out t)
    have h2 : (addT bnd out t).length ≤ out.length + 1 := by unfold addT; split <;> simp
    simp only [List.foldl_cons, List.length_cons]; omega
theorem Fm.look_len (f : Fm) : ∀ bnd out, (f.look bnd out).length ≤ out.length + f.wt := by
  induction f using Fm.induct with
  | h f ih =>
  intro bnd out
  rw [f.look_eq, looks_fold]
  have h1 := addT_len (f.bs.map (·.name) ++ bnd) f.ts out
  have h2 : ∀ (l : List Fm) (o : List Nm), (∀ x ∈ l, x ∈ f.l) → (l.foldl (fun o x => x.look (f.bs.map (·.name) ++ bnd) o) o).length ≤ o.length + Fm.wts l := by
    intro l
    induction l with
    | nil => intro o _; simp
    | cons x r ihr =>
      intro o hx
      have := ihr (x.look (f.bs.map (·.name) ++ bnd) o) (fun y hy => hx y (by simp [hy]))
      have := ih x (hx x (by simp)) (f.bs.map (·.name) ++ bnd) o
      simp only [List.foldl_cons, Fm.wts]; omega
  have := h2 f.l (f.ts.foldl (addT (f.bs.map (·.name) ++ bnd)) out) (fun _ h => h)
  have := f.wt_eq
  omega
theorem fold_look_len (bnd : List Nm) (l : List Fm) : ∀ out : List Nm, (l.foldl (fun o x => x.look bnd o) out).length ≤ out.length + Fm.wts l := by
  induction l with
  | nil => intro out; simp
  | cons x r ih =>
    intro out
    have := ih (x.look bnd out)
    have := x.look_len bnd out
    simp only [List.foldl_cons, Fm.wts]; omega
theorem wtsTake (l : List Fm) (i : Nat) : Fm.wts (l.take i) ≤ Fm.wts l := by
  induction l generalizing i with
  | nil => simp
  | cons y r ih =>
    cases i with
    | zero => simp [Fm.wts]
    | succ i => simp only [List.take_succ_cons, Fm.wts]; have := ih i; omega
theorem wtsTakeSucc {l : List Fm} {i : Nat} {z : Fm} (h : l[i]? = some z) : Fm.wts (l.take (i + 1)) = Fm.wts (l.take i) + z.wt := by
  induction l generalizing i with
  | nil => simp at h
  | cons y r ih =>
    cases i with
    | zero => simp at h; subst h; simp [Fm.wts]
    | succ i => simp at h; simp only [List.take_succ_cons, Fm.wts]; rw [ih h]; omega

noncomputable def hF (f0 : Fm) (es : List (D × D)) (out : List Nm) : List Box :=
  [.cells 33 (fmAVs f0), .map es, .cells 70 [.map 1], .cells 51 [.vec 5 (out.map .str)], .cells 71 [.clo 49 [] [.ptr 2 0, .ptr 3 0, .ptr 4 0]], .vec out.length 1]

section
variable {G : Nat → Option (List D)}
theorem fn33 (f0 f : Fm) (es : List (D × D)) (bnd out : List Nm) (he : EsOk es bnd) (hb : bnd.length + f.wt < 1099511627776) (ho : out.length + f.wt < 1099511627776) : PCall Tryd.prog G 49 [.d f.d, .ptr 2 0, .ptr 3 0, .ptr 4 0] (hF f0 es out) (fun rs H' => rs = [] ∧ ∃ es', EsOk es' bnd ∧ H' = hF f0 es' (f.look bnd out)) := by
  induction f using Fm.induct generalizing es bnd out with
  | h f ih =>
  rw [d_cells]
  refine PCall.walk (fn := Tryd.f49) (code := bodyOf Tryd.f49) mixed
    (LL [(2, loopW (α := Nat × List (D × D)) Tryd.prog G L0 6 (loopN (bodyOf Tryd.f49) 0) [1, 2, 3, 4, 14, 15] (fun x => x.1 ≤ f.bs.length ∧ EsOk x.2 ((f.bs.take x.1).map (·.name) ++ bnd)) (fun x => f.bs.length - x.1)
        (fun x => [(16, .d (.int .i64 x.1))]) (fun _ x => hF f0 x.2 out ++ [.cells 33 (fmAVs f)])),
      (7, loopW (α := Nat × List (D × D)) Tryd.prog G L0 6 (loopN (bodyOf Tryd.f49) 1) [1, 2, 3, 4, 27, 28] (fun x => x.1 ≤ f.ts.length ∧ EsOk x.2 (f.bs.map (·.name) ++ bnd)) (fun x => f.ts.length - x.1)
        (fun x => [(29, .d (.int .i64 x.1))]) (fun _ x => hF f0 x.2 ((f.ts.take x.1).foldl (addT (f.bs.map (·.name) ++ bnd)) out) ++ [.cells 33 (fmAVs f)])),
      (13, loopW (α := Nat × List (D × D)) Tryd.prog G L0 6 (loopN (bodyOf Tryd.f49) 2) [1, 2, 3, 4, 57, 58] (fun x => x.1 ≤ f.l.length ∧ EsOk x.2 (f.bs.map (·.name) ++ bnd)) (fun x => f.l.length - x.1)
        (fun x => [(59, .d (.int .i64 x.1))]) (fun _ x => hF f0 x.2 ((f.l.take x.1).foldl (fun o y => y.look (f.bs.map (·.name) ++ bnd) o) (f.ts.foldl (addT (f.bs.map (·.name) ++ bnd)) out)) ++ [.cells 33 (fmAVs f)])),
      (18, loopW (α := Nat × List (D × D)) Tryd.prog G L0 6 (loopN (bodyOf Tryd.f49) 3) [1, 2, 3, 4, 68, 69] (fun x => x.1 ≤ f.bs.length ∧ EsOk x.2 ((f.bs.drop x.1).map (·.name) ++ bnd)) (fun x => f.bs.length - x.1)
        (fun x => [(70, .d (.int .i64 x.1))]) (fun _ x => hF f0 x.2 (f.look bnd out) ++ [.cells 33 (fmAVs f)]))])
    Tryd.func49 (by kernel_rfl) rfl ⟨_, _, rfl, es, he, rfl⟩
    (LoopsOk.four (b1 := loopN (bodyOf Tryd.f49) 0) (b2 := loopN (bodyOf Tryd.f49) 1) (b3 := loopN (bodyOf Tryd.f49) 2) (b4 := loopN (bodyOf Tryd.f49) 3) (by kernel_rfl) (by kernel_rfl) (by kernel_rfl) (by kernel_rfl) (by kernel_rfl) (loopW_sound mixed (ok0 (by kernel_rfl))) (loopW_sound mixed (ok0 (by kernel_rfl))) (loopW_sound mixed (ok0 (by kernel_rfl))) (loopW_sound mixed (ok0 (by kernel_rfl)))) ?_
  apply @of_vc _ (
    ∃ (x0 : Nat × List (D × D)), (Prod.fst x0 ≤ List.length (Fm.bs f) ∧ EsOk (Prod.snd x0) (List.map (fun (x : Bd) => Bd.name x) (List.take (Prod.fst x0) (Fm.bs f)) ++ bnd)) ∧ ((AV.ptr (2 : Nat) (0 : Nat) = AV.ptr (2 : Nat) (0 : Nat) ∧ AV.ptr (3 : Nat) (0 : Nat) = AV.ptr (3 : Nat) (0 : Nat) ∧ AV.ptr (4 : Nat) (0 : Nat) = AV.ptr (4 : Nat) (0 : Nat) ∧ AV.ptr (6 : Nat) (0 : Nat) = AV.ptr (6 : Nat) (0 : Nat) ∧ List.map Bd.d (Fm.bs f) = List.map Bd.d (Fm.bs f) ∧ (↑(List.length (List.map Bd.d (Fm.bs f))) : Int) = (↑(List.length (List.map Bd.d (Fm.bs f))) : Int) ∧ (0 : Int) = (↑(Prod.fst x0) : Int) ∧ True) ∧ (Fm.kind f0 = Fm.kind f0 ∧ Fm.name f0 = Fm.name f0 ∧ Fm.n f0 = Fm.n f0 ∧ List.map Tm.d (Fm.ts f0) = List.map Tm.d (Fm.ts f0) ∧ List.map Bd.d (Fm.bs f0) = List.map Bd.d (Fm.bs f0) ∧ List.map Fm.d (Fm.l f0) = List.map Fm.d (Fm.l f0) ∧ True) ∧ es = Prod.snd x0 ∧ (AV.map (1 : Nat) = AV.map (1 : Nat) ∧ True) ∧ (List.map D.str out = List.map D.str out ∧ True) ∧ (AV.clo (49 : Nat) [] [AV.ptr (2 : Nat) (0 : Nat), AV.ptr (3 : Nat) (0 : Nat), AV.ptr (4 : Nat) (0 : Nat)] = AV.clo (49 : Nat) [] [AV.ptr (2 : Nat) (0 : Nat), AV.ptr (3 : Nat) (0 : Nat), AV.ptr (4 : Nat) (0 : Nat)] ∧ True) ∧ List.length out = List.length out ∧ (Fm.kind f = Fm.kind f ∧ Fm.name f = Fm.name f ∧ Fm.n f = Fm.n f ∧ List.map Tm.d (Fm.ts f) = List.map Tm.d (Fm.ts f) ∧ List.map Bd.d (Fm.bs f) = List.map Bd.d (Fm.bs f) ∧ List.map Fm.d (Fm.l f) = List.map Fm.d (Fm.l f) ∧ True) ∧ True) ∧ ∀ (x : Nat × List (D × D)), Prod.fst x ≤ List.length (Fm.bs f) ∧ EsOk (Prod.snd x) (List.map (fun (x : Bd) => Bd.name x) (List.take (Prod.fst x) (Fm.bs f)) ++ bnd) → (decide ((↑(Prod.fst x) : Int) < (↑(List.length (List.map Bd.d (Fm.bs f))) : Int)) = true → ((0 : Int) ≤ (↑(Prod.fst x) : Int) ∧ (List.map Bd.d (Fm.bs f))[Int.toNat (↑(Prod.fst x) : Int)]? = some (aggAt [Sh.str, Sh.int IntKind.i64] (List.map Bd.d (Fm.bs f)) (Int.toNat (↑(Prod.fst x) : Int)))) ∧ (List.all (Prod.snd x) fun (kv : D × D) => sameKind ((fun (x_1 : Sh × Nat) => match x_1 with | (sh, j) => Sh.norm sh (Option.getD (cellAt (List.map Bd.d (Fm.bs f)) (Int.toNat (↑(Prod.fst x) : Int)) j) default)) (Sh.str, (0 : Nat))) (Prod.fst kv) && Sh.ok (Sh.int IntKind.i64) (Prod.snd kv)) = true ∧ (List.all (Prod.snd x) fun (kv : D × D) => sameKind ((fun (x_1 : Sh × Nat) => match x_1 with | (sh, j) => Sh.norm sh (Option.getD (cellAt (List.map Bd.d (Fm.bs f)) (Int.toNat (↑(Prod.fst x) : Int)) j) default)) (Sh.str, (0 : Nat))) (Prod.fst kv)) = true ∧ ∃ (y : Nat × List (D × D)), (Prod.fst y ≤ List.length (Fm.bs f) ∧ EsOk (Prod.snd y) (List.map (fun (x : Bd) => Bd.name x) (List.take (Prod.fst y) (Fm.bs f)) ++ bnd)) ∧ List.length (Fm.bs f) - Prod.fst y < List.length (Fm.bs f) - Prod.fst x ∧ (AV.ptr (2 : Nat) (0 : Nat) = AV.ptr (2 : Nat) (0 : Nat) ∧ AV.ptr (3 : Nat) (0 : Nat) = AV.ptr (3 : Nat) (0 : Nat) ∧ AV.ptr (4 : Nat) (0 : Nat) = AV.ptr (4 : Nat) (0 : Nat) ∧ AV.ptr (6 : Nat) (0 : Nat) = AV.ptr (6 : Nat) (0 : Nat) ∧ List.map Bd.d (Fm.bs f) = List.map Bd.d (Fm.bs f) ∧ (↑(List.length (List.map Bd.d (Fm.bs f))) : Int) = (↑(List.length (List.map Bd.d (Fm.bs f))) : Int) ∧ IntKind.wrap IntKind.i64 ((↑(Prod.fst x) : Int) + (1 : Int)) = (↑(Prod.fst y) : Int) ∧ True) ∧ (Fm.kind f0 = Fm.kind f0 ∧ Fm.name f0 = Fm.name f0 ∧ Fm.n f0 = Fm.n f0 ∧ List.map Tm.d (Fm.ts f0) = List.map Tm.d (Fm.ts f0) ∧ List.map Bd.d (Fm.bs f0) = List.map Bd.d (Fm.bs f0) ∧ List.map Fm.d (Fm.l f0) = List.map Fm.d (Fm.l f0) ∧ True) ∧ updD (Prod.snd x) ((fun (x_1 : Sh × Nat) => match x_1 with | (sh, j) => Sh.norm sh (Option.getD (cellAt (List.map Bd.d (Fm.bs f)) (Int.toNat (↑(Prod.fst x) : Int)) j) default)) (Sh.str, (0 : Nat))) (Prod.fst (D.int IntKind.i64 (IntKind.wrap IntKind.i64 (D.toInt (Option.getD (lookD (Prod.snd x) ((fun (x_1 : Sh × Nat) => match x_1 with | (sh, j) => Sh.norm sh (Option.getD (cellAt (List.map Bd.d (Fm.bs f)) (Int.toNat (↑(Prod.fst x) : Int)) j) default)) (Sh.str, (0 : Nat)))) (D.int IntKind.i64 (0 : Int))) + (1 : Int))), True)) = Prod.snd y ∧ (AV.map (1 : Nat) = AV.map (1 : Nat) ∧ True) ∧ (List.map D.str out = List.map D.str out ∧ True) ∧ (AV.clo (49 : Nat) [] [AV.ptr (2 : Nat) (0 : Nat), AV.ptr (3 : Nat) (0 : Nat), AV.ptr (4 : Nat) (0 : Nat)] = AV.clo (49 : Nat) [] [AV.ptr (2 : Nat) (0 : Nat), AV.ptr (3 : Nat) (0 : Nat), AV.ptr (4 : Nat) (0 : Nat)] ∧ True) ∧ List.length out = List.length out ∧ (Fm.kind f = Fm.kind f ∧ Fm.name f = Fm.name f ∧ Fm.n f = Fm.n f ∧ List.map Tm.d (Fm.ts f) = List.map Tm.d (Fm.ts f) ∧ List.map Bd.d (Fm.bs f) = List.map Bd.d (Fm.bs f) ∧ List.map Fm.d (Fm.l f) = List.map Fm.d (Fm.l f) ∧ True) ∧ True) ∧ (decide ((↑(Prod.fst x) : Int) < (↑(List.length (List.map Bd.d (Fm.bs f))) : Int)) = false → ∃ (x0 : Nat × List (D × D)), (Prod.fst x0 ≤ List.length (Fm.ts f) ∧ EsOk (Prod.snd x0) (List.map (fun (x : Bd) => Bd.name x) (Fm.bs f) ++ bnd)) ∧ ((AV.ptr (2 : Nat) (0 : Nat) = AV.ptr (2 : Nat) (0 : Nat) ∧ AV.ptr (3 : Nat) (0 : Nat) = AV.ptr (3 : Nat) (0 : Nat) ∧ AV.ptr (4 : Nat) (0 : Nat) = AV.ptr (4 : Nat) (0 : Nat) ∧ AV.ptr (6 : Nat) (0 : Nat) = AV.ptr (6 : Nat) (0 : Nat) ∧ List.map Tm.d (Fm.ts f) = List.map Tm.d (Fm.ts f) ∧ (↑(List.length (List.map Tm.d (Fm.ts f))) : Int) = (↑(List.length (List.map Tm.d (Fm.ts f))) : Int) ∧ (0 : Int) = (↑(Prod.fst x0) : Int) ∧ True) ∧ (Fm.kind f0 = Fm.kind f0 ∧ Fm.name f0 = Fm.name f0 ∧ Fm.n f0 = Fm.n f0 ∧ List.map Tm.d (Fm.ts f0) = List.map Tm.d (Fm.ts f0) ∧ List.map Bd.d (Fm.bs f0) = List.map Bd.d (Fm.bs f0) ∧ List.map Fm.d (Fm.l f0) = List.map Fm.d (Fm.l f0) ∧ True) ∧ Prod.snd x = Prod.snd x0 ∧ (AV.map (1 : Nat) = AV.map (1 : Nat) ∧ True) ∧ (List.map D.str out = List.map D.str (List.foldl (addT (List.map (fun (x : Bd) => Bd.name x) (Fm.bs f) ++ bnd)) out (List.take (Prod.fst x0) (Fm.ts f))) ∧ True) ∧ (AV.clo (49 : Nat) [] [AV.ptr (2 : Nat) (0 : Nat), AV.ptr (3 : Nat) (0 : Nat), AV.ptr (4 : Nat) (0 : Nat)] = AV.clo (49 : Nat) [] [AV.ptr (2 : Nat) (0 : Nat), AV.ptr (3 : Nat) (0 : Nat), AV.ptr (4 : Nat) (0 : Nat)] ∧ True) ∧ List.length out = List.length (List.foldl (addT (List.map (fun (x : Bd) => Bd.name x) (Fm.bs f) ++ bnd)) out (List.take (Prod.fst x0) (Fm.ts f))) ∧ (Fm.kind f = Fm.kind f ∧ Fm.name f = Fm.name f ∧ Fm.n f = Fm.n f ∧ List.map Tm.d (Fm.ts f) = List.map Tm.d (Fm.ts f) ∧ List.map Bd.d (Fm.bs f) = List.map Bd.d (Fm.bs f) ∧ List.map Fm.d (Fm.l f) = List.map Fm.d (Fm.l f) ∧ True) ∧ True) ∧ ∀ (x : Nat × List (D × D)), Prod.fst x ≤ List.length (Fm.ts f) ∧ EsOk (Prod.snd x) (List.map (fun (x : Bd) => Bd.name x) (Fm.bs f) ++ bnd) → (decide ((↑(Prod.fst x) : Int) < (↑(List.length (List.map Tm.d (Fm.ts f))) : Int)) = true → ((0 : Int) ≤ (↑(Prod.fst x) : Int) ∧ (List.map Tm.d (Fm.ts f))[Int.toNat (↑(Prod.fst x) : Int)]? = some (aggAt [Sh.int IntKind.i64, Sh.str, Sh.int IntKind.i64] (List.map Tm.d (Fm.ts f)) (Int.toNat (↑(Prod.fst x) : Int)))) ∧ ((D.toInt (Option.getD (cellAt (List.map Tm.d (Fm.ts f)) (Int.toNat (↑(Prod.fst x) : Int)) (0 : Nat)) default) != (1 : Int)) = true → (List.all (Prod.snd x) fun (kv : D × D) => sameKind ((fun (x_1 : Sh × Nat) => match x_1 with | (sh, j) => Sh.norm sh (Option.getD (cellAt (List.map Tm.d (Fm.ts f)) (Int.toNat (↑(Prod.fst x) : Int)) j) default)) (Sh.str, (0 : Nat) + (1 : Nat))) (Prod.fst kv) && Sh.ok (Sh.int IntKind.i64) (Prod.snd kv)) = true) ∧ PFn Tryd.prog G (50 : Nat) [D.sl (List.map D.str (List.foldl (addT (List.map (fun (x : Bd) => Bd.name x) (Fm.bs f) ++ bnd)) out (List.take (Prod.fst x) (Fm.ts f)))), D.str (D.toStr (Option.getD (cellAt (List.map Tm.d (Fm.ts f)) (Int.toNat (↑(Prod.fst x) : Int)) ((0 : Nat) + (1 : Nat))) default))] fun (rs : List D) => ∃ (b : Bool), rs = [D.bool b] ∧ ((bif bif D.toInt (Option.getD (cellAt (List.map Tm.d (Fm.ts f)) (Int.toNat (↑(Prod.fst x) : Int)) (0 : Nat)) default) != (1 : Int) then D.toInt (Option.getD (lookD (Prod.snd x) ((fun (x_1 : Sh × Nat) => match x_1 with | (sh, j) => Sh.norm sh (Option.getD (cellAt (List.map Tm.d (Fm.ts f)) (Int.toNat (↑(Prod.fst x) : Int)) j) default)) (Sh.str, (0 : Nat) + (1 : Nat)))) (D.int IntKind.i64 (0 : Int))) == (0 : Int) else false then !b else false) = true → (List.length (List.foldl (addT (List.map (fun (x : Bd) => Bd.name x) (Fm.bs f) ++ bnd)) out (List.take (Prod.fst x) (Fm.ts f))) = List.length (List.map D.str (List.foldl (addT (List.map (fun (x : Bd) => Bd.name x) (Fm.bs f) ++ bnd)) out (List.take (Prod.fst x) (Fm.ts f)))) ∧ (1 : Nat) = (1 : Nat) ∧ FA (List.map D.str (List.foldl (addT (List.map (fun (x : Bd) => Bd.name x) (Fm.bs f) ++ bnd)) out (List.take (Prod.fst x) (Fm.ts f)))) [D.str (D.toStr (Option.getD (cellAt (List.map Tm.d (Fm.ts f)) (Int.toNat (↑(Prod.fst x) : Int)) ((0 : Nat) + (1 : Nat))) default))] (nat_lit 1) (nat_lit 16)) ∧ ∃ (y : Nat × List (D × D)), (Prod.fst y ≤ List.length (Fm.ts f) ∧ EsOk (Prod.snd y) (List.map (fun (x : Bd) => Bd.name x) (Fm.bs f) ++ bnd)) ∧ List.length (Fm.ts f) - Prod.fst y < List.length (Fm.ts f) - Prod.fst x ∧ (AV.ptr (2 : Nat) (0 : Nat) = AV.ptr (2 : Nat) (0 : Nat) ∧ AV.ptr (3 : Nat) (0 : Nat) = AV.ptr (3 : Nat) (0 : Nat) ∧ AV.ptr (4 : Nat) (0 : Nat) = AV.ptr (4 : Nat) (0 : Nat) ∧ AV.ptr (6 : Nat) (0 : Nat) = AV.ptr (6 : Nat) (0 : Nat) ∧ List.map Tm.d (Fm.ts f) = List.map Tm.d (Fm.ts f) ∧ (↑(List.length (List.map Tm.d (Fm.ts f))) : Int) = (↑(List.length (List.map Tm.d (Fm.ts f))) : Int) ∧ IntKind.wrap IntKind.i64 ((↑(Prod.fst x) : Int) + (1 : Int)) = (↑(Prod.fst y) : Int) ∧ True) ∧ (Fm.kind f0 = Fm.kind f0 ∧ Fm.name f0 = Fm.name f0 ∧ Fm.n f0 = Fm.n f0 ∧ List.map Tm.d (Fm.ts f0) = List.map Tm.d (Fm.ts f0) ∧ List.map Bd.d (Fm.bs f0) = List.map Bd.d (Fm.bs f0) ∧ List.map Fm.d (Fm.l f0) = List.map Fm.d (Fm.l f0) ∧ True) ∧ Prod.snd x = Prod.snd y ∧ (AV.map (1 : Nat) = AV.map (1 : Nat) ∧ True) ∧ (List.map D.str (List.foldl (addT (List.map (fun (x : Bd) => Bd.name x) (Fm.bs f) ++ bnd)) out (List.take (Prod.fst x) (Fm.ts f))) ++ List.reverse [(fun (x_1 : Sh × Nat) => match x_1 with | (sh, j) => Sh.norm sh (Option.getD (cellAt (List.map Tm.d (Fm.ts f)) (Int.toNat (↑(Prod.fst x) : Int)) j) default)) (Sh.str, (0 : Nat) + (1 : Nat))] = List.map D.str (List.foldl (addT (List.map (fun (x : Bd) => Bd.name x) (Fm.bs f) ++ bnd)) out (List.take (Prod.fst y) (Fm.ts f))) ∧ True) ∧ (AV.clo (49 : Nat) [] [AV.ptr (2 : Nat) (0 : Nat), AV.ptr (3 : Nat) (0 : Nat), AV.ptr (4 : Nat) (0 : Nat)] = AV.clo (49 : Nat) [] [AV.ptr (2 : Nat) (0 : Nat), AV.ptr (3 : Nat) (0 : Nat), AV.ptr (4 : Nat) (0 : Nat)] ∧ True) ∧ List.length (List.map D.str (List.foldl (addT (List.map (fun (x : Bd) => Bd.name x) (Fm.bs f) ++ bnd)) out (List.take (Prod.fst x) (Fm.ts f)))) + List.length (List.reverse [(fun (x_1 : Sh × Nat) => match x_1 with | (sh, j) => Sh.norm sh (Option.getD (cellAt (List.map Tm.d (Fm.ts f)) (Int.toNat (↑(Prod.fst x) : Int)) j) default)) (Sh.str, (0 : Nat) + (1 : Nat))]) = List.length (List.foldl (addT (List.map (fun (x : Bd) => Bd.name x) (Fm.bs f) ++ bnd)) out (List.take (Prod.fst y) (Fm.ts f))) ∧ (Fm.kind f = Fm.kind f ∧ Fm.name f = Fm.name f ∧ Fm.n f = Fm.n f ∧ List.map Tm.d (Fm.ts f) = List.map Tm.d (Fm.ts f) ∧ List.map Bd.d (Fm.bs f) = List.map Bd.d (Fm.bs f) ∧ List.map Fm.d (Fm.l f) = List.map Fm.d (Fm.l f) ∧ True) ∧ True) ∧ ((bif bif D.toInt (Option.getD (cellAt (List.map Tm.d (Fm.ts f)) (Int.toNat (↑(Prod.fst x) : Int)) (0 : Nat)) default) != (1 : Int) then D.toInt (Option.getD (lookD (Prod.snd x) ((fun (x_1 : Sh × Nat) => match x_1 with | (sh, j) => Sh.norm sh (Option.getD (cellAt (List.map Tm.d (Fm.ts f)) (Int.toNat (↑(Prod.fst x) : Int)) j) default)) (Sh.str, (0 : Nat) + (1 : Nat)))) (D.int IntKind.i64 (0 : Int))) == (0 : Int) else false then !b else false) = false → ∃ (y : Nat × List (D × D)), (Prod.fst y ≤ List.length (Fm.ts f) ∧ EsOk (Prod.snd y) (List.map (fun (x : Bd) => Bd.name x) (Fm.bs f) ++ bnd)) ∧ List.length (Fm.ts f) - Prod.fst y < List.length (Fm.ts f) - Prod.fst x ∧ (AV.ptr (2 : Nat) (0 : Nat) = AV.ptr (2 : Nat) (0 : Nat) ∧ AV.ptr (3 : Nat) (0 : Nat) = AV.ptr (3 : Nat) (0 : Nat) ∧ AV.ptr (4 : Nat) (0 : Nat) = AV.ptr (4 : Nat) (0 : Nat) ∧ AV.ptr (6 : Nat) (0 : Nat) = AV.ptr (6 : Nat) (0 : Nat) ∧ List.map Tm.d (Fm.ts f) = List.map Tm.d (Fm.ts f) ∧ (↑(List.length (List.map Tm.d (Fm.ts f))) : Int) = (↑(List.length (List.map Tm.d (Fm.ts f))) : Int) ∧ IntKind.wrap IntKind.i64 ((↑(Prod.fst x) : Int) + (1 : Int)) = (↑(Prod.fst y) : Int) ∧ True) ∧ (Fm.kind f0 = Fm.kind f0 ∧ Fm.name f0 = Fm.name f0 ∧ Fm.n f0 = Fm.n f0 ∧ List.map Tm.d (Fm.ts f0) = List.map Tm.d (Fm.ts f0) ∧ List.map Bd.d (Fm.bs f0) = List.map Bd.d (Fm.bs f0) ∧ List.map Fm.d (Fm.l f0) = List.map Fm.d (Fm.l f0) ∧ True) ∧ Prod.snd x = Prod.snd y ∧ (AV.map (1 : Nat) = AV.map (1 : Nat) ∧ True) ∧ (List.map D.str (List.foldl (addT (List.map (fun (x : Bd) => Bd.name x) (Fm.bs f) ++ bnd)) out (List.take (Prod.fst x) (Fm.ts f))) = List.map D.str (List.foldl (addT (List.map (fun (x : Bd) => Bd.name x) (Fm.bs f) ++ bnd)) out (List.take (Prod.fst y) (Fm.ts f))) ∧ True) ∧ (AV.clo (49 : Nat) [] [AV.ptr (2 : Nat) (0 : Nat), AV.ptr (3 : Nat) (0 : Nat), AV.ptr (4 : Nat) (0 : Nat)] = AV.clo (49 : Nat) [] [AV.ptr (2 : Nat) (0 : Nat), AV.ptr (3 : Nat) (0 : Nat), AV.ptr (4 : Nat) (0 : Nat)] ∧ True) ∧ List.length (List.foldl (addT (List.map (fun (x : Bd) => Bd.name x) (Fm.bs f) ++ bnd)) out (List.take (Prod.fst x) (Fm.ts f))) = List.length (List.foldl (addT (List.map (fun (x : Bd) => Bd.name x) (Fm.bs f) ++ bnd)) out (List.take (Prod.fst y) (Fm.ts f))) ∧ (Fm.kind f = Fm.kind f ∧ Fm.name f = Fm.name f ∧ Fm.n f = Fm.n f ∧ List.map Tm.d (Fm.ts f) = List.map Tm.d (Fm.ts f) ∧ List.map Bd.d (Fm.bs f) = List.map Bd.d (Fm.bs f) ∧ List.map Fm.d (Fm.l f) = List.map Fm.d (Fm.l f) ∧ True) ∧ True)) ∧ (decide ((↑(Prod.fst x) : Int) < (↑(List.length (List.map Tm.d (Fm.ts f))) : Int)) = false → ∃ (x0 : Nat × List (D × D)), (Prod.fst x0 ≤ List.length (Fm.l f) ∧ EsOk (Prod.snd x0) (List.map (fun (x : Bd) => Bd.name x) (Fm.bs f) ++ bnd)) ∧ ((AV.ptr (2 : Nat) (0 : Nat) = AV.ptr (2 : Nat) (0 : Nat) ∧ AV.ptr (3 : Nat) (0 : Nat) = AV.ptr (3 : Nat) (0 : Nat) ∧ AV.ptr (4 : Nat) (0 : Nat) = AV.ptr (4 : Nat) (0 : Nat) ∧ AV.ptr (6 : Nat) (0 : Nat) = AV.ptr (6 : Nat) (0 : Nat) ∧ List.map Fm.d (Fm.l f) = List.map Fm.d (Fm.l f) ∧ (↑(List.length (List.map Fm.d (Fm.l f))) : Int) = (↑(List.length (List.map Fm.d (Fm.l f))) : Int) ∧ (0 : Int) = (↑(Prod.fst x0) : Int) ∧ True) ∧ (Fm.kind f0 = Fm.kind f0 ∧ Fm.name f0 = Fm.name f0 ∧ Fm.n f0 = Fm.n f0 ∧ List.map Tm.d (Fm.ts f0) = List.map Tm.d (Fm.ts f0) ∧ List.map Bd.d (Fm.bs f0) = List.map Bd.d (Fm.bs f0) ∧ List.map Fm.d (Fm.l f0) = List.map Fm.d (Fm.l f0) ∧ True) ∧ Prod.snd x = Prod.snd x0 ∧ (AV.map (1 : Nat) = AV.map (1 : Nat) ∧ True) ∧ (List.map D.str (List.foldl (addT (List.map (fun (x : Bd) => Bd.name x) (Fm.bs f) ++ bnd)) out (List.take (Prod.fst x) (Fm.ts f))) = List.map D.str (List.foldl (fun (o : List Nm) (y : Fm) => Fm.look (List.map (fun (x : Bd) => Bd.name x) (Fm.bs f) ++ bnd) o y) (List.foldl (addT (List.map (fun (x : Bd) => Bd.name x) (Fm.bs f) ++ bnd)) out (Fm.ts f)) (List.take (Prod.fst x0) (Fm.l f))) ∧ True) ∧ (AV.clo (49 : Nat) [] [AV.ptr (2 : Nat) (0 : Nat), AV.ptr (3 : Nat) (0 : Nat), AV.ptr (4 : Nat) (0 : Nat)] = AV.clo (49 : Nat) [] [AV.ptr (2 : Nat) (0 : Nat), AV.ptr (3 : Nat) (0 : Nat), AV.ptr (4 : Nat) (0 : Nat)] ∧ True) ∧ List.length (List.foldl (addT (List.map (fun (x : Bd) => Bd.name x) (Fm.bs f) ++ bnd)) out (List.take (Prod.fst x) (Fm.ts f))) = List.length (List.foldl (fun (o : List Nm) (y : Fm) => Fm.look (List.map (fun (x : Bd) => Bd.name x) (Fm.bs f) ++ bnd) o y) (List.foldl (addT (List.map (fun (x : Bd) => Bd.name x) (Fm.bs f) ++ bnd)) out (Fm.ts f)) (List.take (Prod.fst x0) (Fm.l f))) ∧ (Fm.kind f = Fm.kind f ∧ Fm.name f = Fm.name f ∧ Fm.n f = Fm.n f ∧ List.map Tm.d (Fm.ts f) = List.map Tm.d (Fm.ts f) ∧ List.map Bd.d (Fm.bs f) = List.map Bd.d (Fm.bs f) ∧ List.map Fm.d (Fm.l f) = List.map Fm.d (Fm.l f) ∧ True) ∧ True) ∧ ∀ (x : Nat × List (D × D)), Prod.fst x ≤ List.length (Fm.l f) ∧ EsOk (Prod.snd x) (List.map (fun (x : Bd) => Bd.name x) (Fm.bs f) ++ bnd) → (decide ((↑(Prod.fst x) : Int) < (↑(List.length (List.map Fm.d (Fm.l f))) : Int)) = true → ((0 : Int) ≤ (↑(Prod.fst x) : Int) ∧ (List.map Fm.d (Fm.l f))[Int.toNat (↑(Prod.fst x) : Int)]? = some (aggAt [Sh.int IntKind.i64, Sh.str, Sh.int IntKind.i64, Sh.sl, Sh.sl, Sh.sl] (List.map Fm.d (Fm.l f)) (Int.toNat (↑(Prod.fst x) : Int)))) ∧ PCall Tryd.prog G (49 : Nat) [AV.d (aggAt [Sh.int IntKind.i64, Sh.str, Sh.int IntKind.i64, Sh.sl, Sh.sl, Sh.sl] (List.map Fm.d (Fm.l f)) (Int.toNat (↑(Prod.fst x) : Int))), AV.ptr (2 : Nat) (0 : Nat), AV.ptr (3 : Nat) (0 : Nat), AV.ptr (4 : Nat) (0 : Nat)] [Box.cells (33 : Nat) [AV.d (D.int IntKind.i64 (Fm.kind f0)), AV.d (D.str (Fm.name f0)), AV.d (D.int IntKind.i64 (Fm.n f0)), AV.d (D.sl (List.map Tm.d (Fm.ts f0))), AV.d (D.sl (List.map Bd.d (Fm.bs f0))), AV.d (D.sl (List.map Fm.d (Fm.l f0)))], Box.map (Prod.snd x), Box.cells (70 : Nat) [AV.map (1 : Nat)], Box.cells (51 : Nat) [AV.vec (5 : Nat) (List.map D.str (List.foldl (fun (o : List Nm) (y : Fm) => Fm.look (List.map (fun (x : Bd) => Bd.name x) (Fm.bs f) ++ bnd) o y) (List.foldl (addT (List.map (fun (x : Bd) => Bd.name x) (Fm.bs f) ++ bnd)) out (Fm.ts f)) (List.take (Prod.fst x) (Fm.l f))))], Box.cells (71 : Nat) [AV.clo (49 : Nat) [] [AV.ptr (2 : Nat) (0 : Nat), AV.ptr (3 : Nat) (0 : Nat), AV.ptr (4 : Nat) (0 : Nat)]], Box.vec (List.length (List.foldl (fun (o : List Nm) (y : Fm) => Fm.look (List.map (fun (x : Bd) => Bd.name x) (Fm.bs f) ++ bnd) o y) (List.foldl (addT (List.map (fun (x : Bd) => Bd.name x) (Fm.bs f) ++ bnd)) out (Fm.ts f)) (List.take (Prod.fst x) (Fm.l f)))) (1 : Nat)] fun (rs : List D) (H' : List Box) => rs = [] ∧ ∃ (n : Int), ∃ (s : List UInt8), ∃ (n_1 : Int), ∃ (l : List D), ∃ (l_1 : List D), ∃ (l_2 : List D), ∃ (es : List (D × D)), ∃ (l_3 : List D), ∃ (n_2 : Nat), H' = [Box.cells (33 : Nat) [AV.d (D.int IntKind.i64 n), AV.d (D.str s), AV.d (D.int IntKind.i64 n_1), AV.d (D.sl l), AV.d (D.sl l_1), AV.d (D.sl l_2)], Box.map es, Box.cells (70 : Nat) [AV.map (1 : Nat)], Box.cells (51 : Nat) [AV.vec (5 : Nat) l_3], Box.cells (71 : Nat) [AV.clo (49 : Nat) [] [AV.ptr (2 : Nat) (0 : Nat), AV.ptr (3 : Nat) (0 : Nat), AV.ptr (4 : Nat) (0 : Nat)]], Box.vec n_2 (1 : Nat)] ∧ ∃ (y : Nat × List (D × D)), (Prod.fst y ≤ List.length (Fm.l f) ∧ EsOk (Prod.snd y) (List.map (fun (x : Bd) => Bd.name x) (Fm.bs f) ++ bnd)) ∧ List.length (Fm.l f) - Prod.fst y < List.length (Fm.l f) - Prod.fst x ∧ (AV.ptr (2 : Nat) (0 : Nat) = AV.ptr (2 : Nat) (0 : Nat) ∧ AV.ptr (3 : Nat) (0 : Nat) = AV.ptr (3 : Nat) (0 : Nat) ∧ AV.ptr (4 : Nat) (0 : Nat) = AV.ptr (4 : Nat) (0 : Nat) ∧ AV.ptr (6 : Nat) (0 : Nat) = AV.ptr (6 : Nat) (0 : Nat) ∧ List.map Fm.d (Fm.l f) = List.map Fm.d (Fm.l f) ∧ (↑(List.length (List.map Fm.d (Fm.l f))) : Int) = (↑(List.length (List.map Fm.d (Fm.l f))) : Int) ∧ IntKind.wrap IntKind.i64 ((↑(Prod.fst x) : Int) + (1 : Int)) = (↑(Prod.fst y) : Int) ∧ True) ∧ (n = Fm.kind f0 ∧ s = Fm.name f0 ∧ n_1 = Fm.n f0 ∧ l = List.map Tm.d (Fm.ts f0) ∧ l_1 = List.map Bd.d (Fm.bs f0) ∧ l_2 = List.map Fm.d (Fm.l f0) ∧ True) ∧ es = Prod.snd y ∧ (AV.map (1 : Nat) = AV.map (1 : Nat) ∧ True) ∧ (l_3 = List.map D.str (List.foldl (fun (o : List Nm) (y : Fm) => Fm.look (List.map (fun (x : Bd) => Bd.name x) (Fm.bs f) ++ bnd) o y) (List.foldl (addT (List.map (fun (x : Bd) => Bd.name x) (Fm.bs f) ++ bnd)) out (Fm.ts f)) (List.take (Prod.fst y) (Fm.l f))) ∧ True) ∧ (AV.clo (49 : Nat) [] [AV.ptr (2 : Nat) (0 : Nat), AV.ptr (3 : Nat) (0 : Nat), AV.ptr (4 : Nat) (0 : Nat)] = AV.clo (49 : Nat) [] [AV.ptr (2 : Nat) (0 : Nat), AV.ptr (3 : Nat) (0 : Nat), AV.ptr (4 : Nat) (0 : Nat)] ∧ True) ∧ n_2 = List.length (List.foldl (fun (o : List Nm) (y : Fm) => Fm.look (List.map (fun (x : Bd) => Bd.name x) (Fm.bs f) ++ bnd) o y) (List.foldl (addT (List.map (fun (x : Bd) => Bd.name x) (Fm.bs f) ++ bnd)) out (Fm.ts f)) (List.take (Prod.fst y) (Fm.l f))) ∧ (Fm.kind f = Fm.kind f ∧ Fm.name f = Fm.name f ∧ Fm.n f = Fm.n f ∧ List.map Tm.d (Fm.ts f) = List.map Tm.d (Fm.ts f) ∧ List.map Bd.d (Fm.bs f) = List.map Bd.d (Fm.bs f) ∧ List.map Fm.d (Fm.l f) = List.map Fm.d (Fm.l f) ∧ True) ∧ True) ∧ (decide ((↑(Prod.fst x) : Int) < (↑(List.length (List.map Fm.d (Fm.l f))) : Int)) = false → ∃ (x0 : Nat × List (D × D)), (Prod.fst x0 ≤ List.length (Fm.bs f) ∧ EsOk (Prod.snd x0) (List.map (fun (x : Bd) => Bd.name x) (List.drop (Prod.fst x0) (Fm.bs f)) ++ bnd)) ∧ ((AV.ptr (2 : Nat) (0 : Nat) = AV.ptr (2 : Nat) (0 : Nat) ∧ AV.ptr (3 : Nat) (0 : Nat) = AV.ptr (3 : Nat) (0 : Nat) ∧ AV.ptr (4 : Nat) (0 : Nat) = AV.ptr (4 : Nat) (0 : Nat) ∧ AV.ptr (6 : Nat) (0 : Nat) = AV.ptr (6 : Nat) (0 : Nat) ∧ List.map Bd.d (Fm.bs f) = List.map Bd.d (Fm.bs f) ∧ (↑(List.length (List.map Bd.d (Fm.bs f))) : Int) = (↑(List.length (List.map Bd.d (Fm.bs f))) : Int) ∧ (0 : Int) = (↑(Prod.fst x0) : Int) ∧ True) ∧ (Fm.kind f0 = Fm.kind f0 ∧ Fm.name f0 = Fm.name f0 ∧ Fm.n f0 = Fm.n f0 ∧ List.map Tm.d (Fm.ts f0) = List.map Tm.d (Fm.ts f0) ∧ List.map Bd.d (Fm.bs f0) = List.map Bd.d (Fm.bs f0) ∧ List.map Fm.d (Fm.l f0) = List.map Fm.d (Fm.l f0) ∧ True) ∧ Prod.snd x = Prod.snd x0 ∧ (AV.map (1 : Nat) = AV.map (1 : Nat) ∧ True) ∧ (List.map D.str (List.foldl (fun (o : List Nm) (y : Fm) => Fm.look (List.map (fun (x : Bd) => Bd.name x) (Fm.bs f) ++ bnd) o y) (List.foldl (addT (List.map (fun (x : Bd) => Bd.name x) (Fm.bs f) ++ bnd)) out (Fm.ts f)) (List.take (Prod.fst x) (Fm.l f))) = List.map D.str (Fm.look bnd out f) ∧ True) ∧ (AV.clo (49 : Nat) [] [AV.ptr (2 : Nat) (0 : Nat), AV.ptr (3 : Nat) (0 : Nat), AV.ptr (4 : Nat) (0 : Nat)] = AV.clo (49 : Nat) [] [AV.ptr (2 : Nat) (0 : Nat), AV.ptr (3 : Nat) (0 : Nat), AV.ptr (4 : Nat) (0 : Nat)] ∧ True) ∧ List.length (List.foldl (fun (o : List Nm) (y : Fm) => Fm.look (List.map (fun (x : Bd) => Bd.name x) (Fm.bs f) ++ bnd) o y) (List.foldl (addT (List.map (fun (x : Bd) => Bd.name x) (Fm.bs f) ++ bnd)) out (Fm.ts f)) (List.take (Prod.fst x) (Fm.l f))) = List.length (Fm.look bnd out f) ∧ (Fm.kind f = Fm.kind f ∧ Fm.name f = Fm.name f ∧ Fm.n f = Fm.n f ∧ List.map Tm.d (Fm.ts f) = List.map Tm.d (Fm.ts f) ∧ List.map Bd.d (Fm.bs f) = List.map Bd.d (Fm.bs f) ∧ List.map Fm.d (Fm.l f) = List.map Fm.d (Fm.l f) ∧ True) ∧ True) ∧ ∀ (x : Nat × List (D × D)), Prod.fst x ≤ List.length (Fm.bs f) ∧ EsOk (Prod.snd x) (List.map (fun (x : Bd) => Bd.name x) (List.drop (Prod.fst x) (Fm.bs f)) ++ bnd) → (decide ((↑(Prod.fst x) : Int) < (↑(List.length (List.map Bd.d (Fm.bs f))) : Int)) = true → ((0 : Int) ≤ (↑(Prod.fst x) : Int) ∧ (List.map Bd.d (Fm.bs f))[Int.toNat (↑(Prod.fst x) : Int)]? = some (aggAt [Sh.str, Sh.int IntKind.i64] (List.map Bd.d (Fm.bs f)) (Int.toNat (↑(Prod.fst x) : Int)))) ∧ (List.all (Prod.snd x) fun (kv : D × D) => sameKind ((fun (x_1 : Sh × Nat) => match x_1 with | (sh, j) => Sh.norm sh (Option.getD (cellAt (List.map Bd.d (Fm.bs f)) (Int.toNat (↑(Prod.fst x) : Int)) j) default)) (Sh.str, (0 : Nat))) (Prod.fst kv) && Sh.ok (Sh.int IntKind.i64) (Prod.snd kv)) = true ∧ (List.all (Prod.snd x) fun (kv : D × D) => sameKind ((fun (x_1 : Sh × Nat) => match x_1 with | (sh, j) => Sh.norm sh (Option.getD (cellAt (List.map Bd.d (Fm.bs f)) (Int.toNat (↑(Prod.fst x) : Int)) j) default)) (Sh.str, (0 : Nat))) (Prod.fst kv)) = true ∧ ∃ (y : Nat × List (D × D)), (Prod.fst y ≤ List.length (Fm.bs f) ∧ EsOk (Prod.snd y) (List.map (fun (x : Bd) => Bd.name x) (List.drop (Prod.fst y) (Fm.bs f)) ++ bnd)) ∧ List.length (Fm.bs f) - Prod.fst y < List.length (Fm.bs f) - Prod.fst x ∧ (AV.ptr (2 : Nat) (0 : Nat) = AV.ptr (2 : Nat) (0 : Nat) ∧ AV.ptr (3 : Nat) (0 : Nat) = AV.ptr (3 : Nat) (0 : Nat) ∧ AV.ptr (4 : Nat) (0 : Nat) = AV.ptr (4 : Nat) (0 : Nat) ∧ AV.ptr (6 : Nat) (0 : Nat) = AV.ptr (6 : Nat) (0 : Nat) ∧ List.map Bd.d (Fm.bs f) = List.map Bd.d (Fm.bs f) ∧ (↑(List.length (List.map Bd.d (Fm.bs f))) : Int) = (↑(List.length (List.map Bd.d (Fm.bs f))) : Int) ∧ IntKind.wrap IntKind.i64 ((↑(Prod.fst x) : Int) + (1 : Int)) = (↑(Prod.fst y) : Int) ∧ True) ∧ (Fm.kind f0 = Fm.kind f0 ∧ Fm.name f0 = Fm.name f0 ∧ Fm.n f0 = Fm.n f0 ∧ List.map Tm.d (Fm.ts f0) = List.map Tm.d (Fm.ts f0) ∧ List.map Bd.d (Fm.bs f0) = List.map Bd.d (Fm.bs f0) ∧ List.map Fm.d (Fm.l f0) = List.map Fm.d (Fm.l f0) ∧ True) ∧ updD (Prod.snd x) ((fun (x_1 : Sh × Nat) => match x_1 with | (sh, j) => Sh.norm sh (Option.getD (cellAt (List.map Bd.d (Fm.bs f)) (Int.toNat (↑(Prod.fst x) : Int)) j) default)) (Sh.str, (0 : Nat))) (Prod.fst (D.int IntKind.i64 (IntKind.wrap IntKind.i64 (D.toInt (Option.getD (lookD (Prod.snd x) ((fun (x_1 : Sh × Nat) => match x_1 with | (sh, j) => Sh.norm sh (Option.getD (cellAt (List.map Bd.d (Fm.bs f)) (Int.toNat (↑(Prod.fst x) : Int)) j) default)) (Sh.str, (0 : Nat)))) (D.int IntKind.i64 (0 : Int))) - (1 : Int))), True)) = Prod.snd y ∧ (AV.map (1 : Nat) = AV.map (1 : Nat) ∧ True) ∧ (List.map D.str (Fm.look bnd out f) = List.map D.str (Fm.look bnd out f) ∧ True) ∧ (AV.clo (49 : Nat) [] [AV.ptr (2 : Nat) (0 : Nat), AV.ptr (3 : Nat) (0 : Nat), AV.ptr (4 : Nat) (0 : Nat)] = AV.clo (49 : Nat) [] [AV.ptr (2 : Nat) (0 : Nat), AV.ptr (3 : Nat) (0 : Nat), AV.ptr (4 : Nat) (0 : Nat)] ∧ True) ∧ List.length (Fm.look bnd out f) = List.length (Fm.look bnd out f) ∧ (Fm.kind f = Fm.kind f ∧ Fm.name f = Fm.name f ∧ Fm.n f = Fm.n f ∧ List.map Tm.d (Fm.ts f) = List.map Tm.d (Fm.ts f) ∧ List.map Bd.d (Fm.bs f) = List.map Bd.d (Fm.bs f) ∧ List.map Fm.d (Fm.l f) = List.map Fm.d (Fm.l f) ∧ True) ∧ True) ∧ (decide ((↑(Prod.fst x) : Int) < (↑(List.length (List.map Bd.d (Fm.bs f))) : Int)) = false → ([] : List D) = [] ∧ ∃ (es' : List (D × D)), EsOk es' bnd ∧ [Box.cells (33 : Nat) [AV.d (D.int IntKind.i64 (Fm.kind f0)), AV.d (D.str (Fm.name f0)), AV.d (D.int IntKind.i64 (Fm.n f0)), AV.d (D.sl (List.map Tm.d (Fm.ts f0))), AV.d (D.sl (List.map Bd.d (Fm.bs f0))), AV.d (D.sl (List.map Fm.d (Fm.l f0)))], Box.map (Prod.snd x), Box.cells (70 : Nat) [AV.map (1 : Nat)], Box.cells (51 : Nat) [AV.vec (5 : Nat) (List.map D.str (Fm.look bnd out f))], Box.cells (71 : Nat) [AV.clo (49 : Nat) [] [AV.ptr (2 : Nat) (0 : Nat), AV.ptr (3 : Nat) (0 : Nat), AV.ptr (4 : Nat) (0 : Nat)]], Box.vec (List.length (Fm.look bnd out f)) (1 : Nat)] = [Box.cells (33 : Nat) [AV.d (D.int IntKind.i64 (Fm.kind f0)), AV.d (D.str (Fm.name f0)), AV.d (D.int IntKind.i64 (Fm.n f0)), AV.d (D.sl (List.map Tm.d (Fm.ts f0))), AV.d (D.sl (List.map Bd.d (Fm.bs f0))), AV.d (D.sl (List.map Fm.d (Fm.l f0)))], Box.map es', Box.cells (70 : Nat) [AV.map (1 : Nat)], Box.cells (51 : Nat) [AV.vec (5 : Nat) (List.map D.str (Fm.look bnd out f))], Box.cells (71 : Nat) [AV.clo (49 : Nat) [] [AV.ptr (2 : Nat) (0 : Nat), AV.ptr (3 : Nat) (0 : Nat), AV.ptr (4 : Nat) (0 : Nat)]], Box.vec (List.length (Fm.look bnd out f)) (1 : Nat)])))))
  · kernel_rfl
  have hw := f.wt_eq
  have cntle : ∀ (l : List Nm) (s : Nm), l.count s ≤ l.length := fun l s => List.count_le_length
  refine ⟨(0, es), ⟨Nat.zero_le _, by simpa using he⟩, ⟨⟨rfl, rfl, rfl, rfl, rfl, rfl, rfl, trivial⟩, ⟨rfl, rfl, rfl, rfl, rfl, rfl, trivial⟩, rfl, ⟨rfl, trivial⟩, ⟨rfl, trivial⟩, ⟨rfl, trivial⟩, rfl, ⟨rfl, rfl, rfl, rfl, rfl, rfl, trivial⟩, trivial⟩, ?_⟩
  rintro ⟨i, es1⟩ ⟨hi, he1⟩
  simp only at hi he1
  refine ⟨fun hlt => ?_, fun hge => ?_⟩
  · simp only [List.length_map, decide_eq_true_eq] at hlt
    obtain ⟨z, hz, hm⟩ := get_nat (l := f.bs) (x := i) (by omega)
    dsimp only
    rw [Int.toNat_natCast, agg_bd hz, cell_bd0 hz]
    have e1 : Sh.norm Sh.str (Option.getD (some (D.str z.name)) default) = .str z.name := rfl
    rw [e1]
    have hc := he1.cnt z.name
    unfold cntE at hc
    have hcl := cntle ((f.bs.take i).map (·.name) ++ bnd) z.name
    rw [List.length_append, List.length_map, List.length_take] at hcl
    have hwr : IntKind.wrap IntKind.i64 ((((f.bs.take i).map (·.name) ++ bnd).count z.name : Int) + 1) = (((f.bs.take i).map (·.name) ++ bnd).count z.name : Int) + 1 := wrap64 (by omega) (by omega)
    rw [hc, hwr]
    refine ⟨⟨by omega, by simp [hz]⟩, ?_, ?_, (i + 1, _), ⟨by omega, ?_⟩, by omega, ⟨rfl, rfl, rfl, rfl, rfl, rfl, ?_, trivial⟩, ⟨rfl, rfl, rfl, rfl, rfl, rfl, trivial⟩, rfl, ⟨rfl, trivial⟩, ⟨rfl, trivial⟩, ⟨rfl, trivial⟩, rfl, ⟨rfl, rfl, rfl, rfl, rfl, rfl, trivial⟩, trivial⟩
    · simp only [same_str z.name]; exact he1.all
    · have := he1.all
      simp only [same_str z.name]
      rw [List.all_eq_true] at this ⊢
      intro x hx
      have := this x hx
      simp only [Bool.and_eq_true] at this
      exact this.1
    · refine he1.set fun s' => ?_
      simp only [List.take_add_one, hz, Option.toList_some, List.map_append, List.map_cons, List.map_nil, List.count_append, List.count_cons, List.count_nil]
      by_cases h : s' = z.name
      · subst h; simp; omega
      · have h2 : (z.name == s') = false := by simpa using fun e => h e.symm
        simp [h, h2]
    · rw [wrap64 (by omega) (by omega)]; simp
  simp only [List.length_map, decide_eq_false_iff_not] at hge
  rw [List.take_of_length_le (by omega)] at he1
  refine ⟨(0, es1), ⟨Nat.zero_le _, he1⟩, ⟨⟨rfl, rfl, rfl, rfl, rfl, rfl, rfl, trivial⟩, ⟨rfl, rfl, rfl, rfl, rfl, rfl, trivial⟩, rfl, ⟨rfl, trivial⟩, ⟨rfl, trivial⟩, ⟨rfl, trivial⟩, rfl, ⟨rfl, rfl, rfl, rfl, rfl, rfl, trivial⟩, trivial⟩, ?_⟩
  rintro ⟨j, es2⟩ ⟨hj, he2⟩
  simp only at hj he2
  refine ⟨fun hlt => ?_, fun hge2 => ?_⟩
  · simp only [List.length_map, decide_eq_true_eq] at hlt
    obtain ⟨z, hz, hm⟩ := get_nat (l := f.ts) (x := j) (by omega)
    dsimp only
    rw [Int.toNat_natCast, agg_tm hz, cell_tm0 hz, cell_tm1 hz]
    have e1 : Sh.norm Sh.str (Option.getD (some (D.str z.name)) default) = .str z.name := rfl
    have e2 : D.toStr (Option.getD (some (D.str z.name)) default) = z.name := rfl
    have e3 : D.toInt (Option.getD (some (D.int IntKind.i64 z.kind)) default) = z.kind := rfl
    rw [e1, e2, e3]
    have hc := he2.cnt z.name
    unfold cntE at hc
    rw [hc]
    have hol := addT_len (f.bs.map (·.name) ++ bnd) (f.ts.take j) out
    have htk : (f.ts.take j).length ≤ f.ts.length := by simp; omega
    refine ⟨⟨by omega, by simp [hz]⟩, fun _ => by simp only [same_str z.name]; exact he2.all, ?_⟩
    refine (fn34 _ z.name (by omega)).mono ?_
    rintro rs rfl
    have hcond : (bif bif z.kind != 1 then (((f.bs.map (·.name) ++ bnd).count z.name : Int) == 0) else false then !((f.ts.take j).foldl (addT (f.bs.map (·.name) ++ bnd)) out).contains z.name else false) = (z.kind != 1 && !(f.bs.map (·.name) ++ bnd).contains z.name && !((f.ts.take j).foldl (addT (f.bs.map (·.name) ++ bnd)) out).contains z.name) := by
      rw [bif_and, bif_and]
      congr 2
      rw [Bool.eq_iff_iff]
      simp only [beq_iff_eq, Bool.not_eq_true', List.contains_eq_mem, decide_eq_false_iff_not]
      rw [← List.count_eq_zero]
      omega
    have hnx : (f.ts.take (j + 1)).foldl (addT (f.bs.map (·.name) ++ bnd)) out = addT (f.bs.map (·.name) ++ bnd) ((f.ts.take j).foldl (addT (f.bs.map (·.name) ++ bnd)) out) z := by
      rw [List.take_add_one, hz]; simp [List.foldl_append]
    refine ⟨_, rfl, ?_⟩
    rw [hcond]
    refine ⟨fun hyes => ⟨⟨by simp, rfl, ?_, ?_⟩, (j + 1, es2), ⟨by omega, he2⟩, by omega, ⟨rfl, rfl, rfl, rfl, rfl, rfl, ?_, trivial⟩, ⟨rfl, rfl, rfl, rfl, rfl, rfl, trivial⟩, rfl, ⟨rfl, trivial⟩, ⟨?_, trivial⟩, ⟨rfl, trivial⟩, ?_, ⟨rfl, rfl, rfl, rfl, rfl, rfl, trivial⟩, trivial⟩,
      fun hno => ⟨(j + 1, es2), ⟨by omega, he2⟩, by omega, ⟨rfl, rfl, rfl, rfl, rfl, rfl, ?_, trivial⟩, ⟨rfl, rfl, rfl, rfl, rfl, rfl, trivial⟩, rfl, ⟨rfl, trivial⟩, ⟨?_, trivial⟩, ⟨rfl, trivial⟩, ?_, ⟨rfl, rfl, rfl, rfl, rfl, rfl, trivial⟩, trivial⟩⟩
    · simp [D.cells]
    · simp; omega
    · rw [wrap64 (by omega) (by omega)]; simp
    · dsimp only
      rw [hnx, addT_pos hyes]
      simp
    · dsimp only
      rw [hnx, addT_pos hyes]
      simp
    · rw [wrap64 (by omega) (by omega)]; simp
    · dsimp only
      rw [hnx, addT_neg hno]
    · dsimp only
      rw [hnx, addT_neg hno]
  simp only [List.length_map, decide_eq_false_iff_not] at hge2
  dsimp only
  rw [List.take_of_length_le (by omega : f.ts.length ≤ j)]
  refine ⟨(0, es2), ⟨Nat.zero_le _, he2⟩, ⟨⟨rfl, rfl, rfl, rfl, rfl, rfl, rfl, trivial⟩, ⟨rfl, rfl, rfl, rfl, rfl, rfl, trivial⟩, rfl, ⟨rfl, trivial⟩, ⟨rfl, trivial⟩, ⟨rfl, trivial⟩, rfl, ⟨rfl, rfl, rfl, rfl, rfl, rfl, trivial⟩, trivial⟩, ?_⟩
  rintro ⟨k, es3⟩ ⟨hk, he3⟩
  simp only at hk he3
  refine ⟨fun hlt => ?_, fun hge3 => ?_⟩
  · simp only [List.length_map, decide_eq_true_eq] at hlt
    obtain ⟨z, hz, hm⟩ := get_nat (l := f.l) (x := k) (by omega)
    dsimp only
    rw [Int.toNat_natCast, agg_fm hz]
    refine ⟨⟨by omega, by simp [hz]⟩, ?_⟩
    have hol := addT_len (f.bs.map (·.name) ++ bnd) f.ts out
    have hfl := fold_look_len (f.bs.map (·.name) ++ bnd) (f.l.take k) (f.ts.foldl (addT (f.bs.map (·.name) ++ bnd)) out)
    have hw1 := wtsTakeSucc hz
    have hw2 := wtsTake f.l (k + 1)
    have hln := wts_len f.l
    have hnx : (f.l.take (k + 1)).foldl (fun o y => y.look (f.bs.map (·.name) ++ bnd) o) (f.ts.foldl (addT (f.bs.map (·.name) ++ bnd)) out) = z.look (f.bs.map (·.name) ++ bnd) ((f.l.take k).foldl (fun o y => y.look (f.bs.map (·.name) ++ bnd) o) (f.ts.foldl (addT (f.bs.map (·.name) ++ bnd)) out)) := by
      rw [List.take_add_one, hz]; simp [List.foldl_append]
    refine (ih z hm es3 (f.bs.map (·.name) ++ bnd) _ he3 (by simp only [List.length_append, List.length_map]; omega) (by omega)).mono ?_
    rintro rs H' ⟨rfl, es4, he4, rfl⟩
    refine ⟨rfl, _, _, _, _, _, _, _, _, _, rfl, (k + 1, es4), ⟨by omega, he4⟩, by omega, ⟨rfl, rfl, rfl, rfl, rfl, rfl, ?_, trivial⟩, ⟨rfl, rfl, rfl, rfl, rfl, rfl, trivial⟩, rfl, ⟨rfl, trivial⟩, ⟨?_, trivial⟩, ⟨rfl, trivial⟩, ?_, ⟨rfl, rfl, rfl, rfl, rfl, rfl, trivial⟩, trivial⟩
    · rw [wrap64 (by omega) (by omega)]; simp
    · dsimp only; rw [hnx]
    · dsimp only; rw [hnx]
  simp only [List.length_map, decide_eq_false_iff_not] at hge3
  dsimp only
  have hlk : (f.l.take k).foldl (fun o y => y.look (f.bs.map (·.name) ++ bnd) o) (f.ts.foldl (addT (f.bs.map (·.name) ++ bnd)) out) = f.look bnd out := by
    rw [List.take_of_length_le (by omega), f.look_eq, looks_fold]
  rw [hlk]
  refine ⟨(0, es3), ⟨Nat.zero_le _, by simpa using he3⟩, ⟨⟨rfl, rfl, rfl, rfl, rfl, rfl, rfl, trivial⟩, ⟨rfl, rfl, rfl, rfl, rfl, rfl, trivial⟩, rfl, ⟨rfl, trivial⟩, ⟨rfl, trivial⟩, ⟨rfl, trivial⟩, rfl, ⟨rfl, rfl, rfl, rfl, rfl, rfl, trivial⟩, trivial⟩, ?_⟩
  rintro ⟨m, es5⟩ ⟨hm5, he5⟩
  simp only at hm5 he5
  refine ⟨fun hlt => ?_, fun hge5 => ?_⟩
  · simp only [List.length_map, decide_eq_true_eq] at hlt
    obtain ⟨z, hz, hm⟩ := get_nat (l := f.bs) (x := m) (by omega)
    dsimp only
    rw [Int.toNat_natCast, agg_bd hz, cell_bd0 hz]
    have e1 : Sh.norm Sh.str (Option.getD (some (D.str z.name)) default) = .str z.name := rfl
    rw [e1]
    have hc := he5.cnt z.name
    unfold cntE at hc
    have hcl := cntle ((f.bs.drop m).map (·.name) ++ bnd) z.name
    rw [List.length_append, List.length_map, List.length_drop] at hcl
    have hwr : IntKind.wrap IntKind.i64 ((((f.bs.drop m).map (·.name) ++ bnd).count z.name : Int) - 1) = (((f.bs.drop m).map (·.name) ++ bnd).count z.name : Int) - 1 := wrap64 (by omega) (by omega)
    rw [hc, hwr]
    have hdr : f.bs.drop m = z :: f.bs.drop (m + 1) := by
      have hlt' : m < f.bs.length := by omega
      rw [List.drop_eq_getElem_cons hlt']
      congr 1
      have := List.getElem?_eq_getElem hlt'
      rw [hz] at this; simpa using this.symm
    refine ⟨⟨by omega, by simp [hz]⟩, ?_, ?_, (m + 1, _), ⟨by omega, ?_⟩, by omega, ⟨rfl, rfl, rfl, rfl, rfl, rfl, ?_, trivial⟩, ⟨rfl, rfl, rfl, rfl, rfl, rfl, trivial⟩, rfl, ⟨rfl, trivial⟩, ⟨rfl, trivial⟩, ⟨rfl, trivial⟩, rfl, ⟨rfl, rfl, rfl, rfl, rfl, rfl, trivial⟩, trivial⟩
    · simp only [same_str z.name]; exact he5.all
    · have := he5.all
      simp only [same_str z.name]
      rw [List.all_eq_true] at this ⊢
      intro x hx
      have := this x hx
      simp only [Bool.and_eq_true] at this
      exact this.1
    · refine he5.set fun s' => ?_
      simp only [hdr, List.map_cons, List.cons_append, List.count_cons]
      by_cases h : s' = z.name
      · subst h; simp
      · have h2 : (z.name == s') = false := by simpa using fun e => h e.symm
        simp [h, h2]
    · rw [wrap64 (by omega) (by omega)]; simp
  simp only [List.length_map, decide_eq_false_iff_not] at hge5
  rw [List.drop_eq_nil_of_le (by omega)] at he5
  exact ⟨rfl, es5, by simpa using he5, rfl⟩

theorem fn19 (f : Fm) (hf : f.wt < 1099511627776) : PFn Tryd.prog G 26 [f.d] (· = [.sl ((f.look [] []).map .str)]) := by
  have h := fn33 (G := G) f f [] [] [] ⟨rfl, fun s => rfl⟩ (by simpa using hf) (by simpa using hf)
  rw [d_cells] at h ⊢
  refine PFn.walk (fn := Tryd.f26) (code := bodyOf Tryd.f26) mixed L0 Tryd.func26 (by kernel_rfl) ⟨_, rfl⟩ (ok0 (by kernel_rfl)) ?_
  apply @of_vc _ (
    PCall Tryd.prog G (49 : Nat) [AV.d (D.agg [D.int IntKind.i64 (Fm.kind f), D.str (Fm.name f), D.int IntKind.i64 (Fm.n f), D.sl (List.map Tm.d (Fm.ts f)), D.sl (List.map Bd.d (Fm.bs f)),
    D.sl (List.map Fm.d (Fm.l f))]), AV.ptr (2 : Nat) (0 : Nat), AV.ptr (3 : Nat) (0 : Nat), AV.ptr (4 : Nat) (0 : Nat)] [Box.cells (33 : Nat) [AV.d (D.int IntKind.i64 (Fm.kind f)), AV.d
    (D.str (Fm.name f)), AV.d (D.int IntKind.i64 (Fm.n f)), AV.d (D.sl (List.map Tm.d (Fm.ts f))), AV.d (D.sl (List.map Bd.d (Fm.bs f))), AV.d (D.sl (List.map Fm.d (Fm.l f)))], Box.map [],
    Box.cells (70 : Nat) [AV.map (1 : Nat)], Box.cells (51 : Nat) [AV.vec (5 : Nat) []], Box.cells (71 : Nat) [AV.clo (49 : Nat) [] [AV.ptr (2 : Nat) (0 : Nat), AV.ptr (3 : Nat) (0 : Nat),
    AV.ptr (4 : Nat) (0 : Nat)]], Box.vec (0 : Nat) (1 : Nat)] fun (rs : List D) (H' : List Box) => rs = [] ∧ ∃ (n : Int), ∃ (s : List UInt8), ∃ (n_1 : Int), ∃ (l : List D), ∃ (l_1 : List
    D), ∃ (l_2 : List D), ∃ (es : List (D × D)), ∃ (l_3 : List D), ∃ (n_2 : Nat), H' = [Box.cells (33 : Nat) [AV.d (D.int IntKind.i64 n), AV.d (D.str s), AV.d (D.int IntKind.i64 n_1), AV.d
    (D.sl l), AV.d (D.sl l_1), AV.d (D.sl l_2)], Box.map es, Box.cells (70 : Nat) [AV.map (1 : Nat)], Box.cells (51 : Nat) [AV.vec (5 : Nat) l_3], Box.cells (71 : Nat) [AV.clo (49 : Nat) []
    [AV.ptr (2 : Nat) (0 : Nat), AV.ptr (3 : Nat) (0 : Nat), AV.ptr (4 : Nat) (0 : Nat)]], Box.vec n_2 (1 : Nat)] ∧ [D.sl l_3] = [D.sl (List.map D.str (Fm.look [] [] f))])
  · kernel_rfl
  refine h.mono ?_
  rintro rs H' ⟨rfl, es', he', rfl⟩
  exact ⟨rfl, _, _, _, _, _, _, _, _, _, rfl, rfl⟩
end
end Go.Fo
/- Free variables: the reference. -/
namespace Go.Fo
open Go Go.Sx Go.Proofs
set_option maxRecDepth 100000
set_option maxHeartbeats 0

def addA (bnd o : List Nm) (s : Nm) : List Nm := if !bnd.contains s && !o.contains s then o ++ [s] else o
def tsN (ts : List Tm) : List Nm := (ts.filter fun t => t.kind != 1).map (·.name)
mutual
def Fm.free : Fm → List Nm
  | .mk _ _ _ ts bs l => (tsN ts ++ Fm.frees l).foldl (addA (bs.map (·.name))) []
def Fm.frees : List Fm → List Nm
  | [] => []
  | x :: r => x.free ++ Fm.frees r
end
theorem Fm.free_eq (f : Fm) : f.free = (tsN f.ts ++ Fm.frees f.l).foldl (addA (f.bs.map (·.name))) [] := by cases f; rw [Fm.free]; rfl

theorem addA_pos {bnd o : List Nm} {s : Nm} (h : (!bnd.contains s && !o.contains s) = true) : addA bnd o s = o ++ [s] := if_pos h
theorem addA_neg {bnd o : List Nm} {s : Nm} (h : (!bnd.contains s && !o.contains s) = false) : addA bnd o s = o := if_neg (by rw [h]; simp)
theorem addA_len (bnd : List Nm) (l : List Nm) : ∀ o : List Nm, (l.foldl (addA bnd) o).length ≤ o.length + l.length := by
  induction l with
  | nil => intro o; simp
  | cons t r ih =>
    intro o
    have := ih (addA bnd o t)
    have h2 : (addA bnd o t).length ≤ o.length + 1 := by unfold addA; split <;> simp
    simp only [List.foldl_cons, List.length_cons]; omega
theorem tsN_len (ts : List Tm) : (tsN ts).length ≤ ts.length := by unfold tsN; rw [List.length_map]; exact List.length_filter_le _ _
theorem Fm.free_len (f : Fm) : f.free.length ≤ f.wt := by
  induction f using Fm.induct with
  | h f ih =>
  rw [f.free_eq]
  have h1 := addA_len (f.bs.map (·.name)) (tsN f.ts ++ Fm.frees f.l) []
  have h2 := tsN_len f.ts
  have h3 : ∀ l : List Fm, (∀ x ∈ l, x ∈ f.l) → (Fm.frees l).length ≤ Fm.wts l := by
    intro l
    induction l with
    | nil => intro _; simp [Fm.frees]
    | cons x r ihr =>
      intro hx
      have := ihr (fun y hy => hx y (by simp [hy]))
      have := ih x (hx x (by simp))
      simp only [Fm.frees, Fm.wts, List.length_append]; omega
  have := h3 f.l (fun _ h => h)
  have := f.wt_eq
  simp only [List.length_append, List.length_nil] at h1
  omega
theorem frees_len (l : List Fm) : (Fm.frees l).length ≤ Fm.wts l := by
  induction l with
  | nil => simp [Fm.frees]
  | cons x r ih => have := x.free_len; simp only [Fm.frees, Fm.wts, List.length_append]; omega
theorem frees_append (a b : List Fm) : Fm.frees (a ++ b) = Fm.frees a ++ Fm.frees b := by
  induction a with
  | nil => simp [Fm.frees]
  | cons x r ih => simp only [List.cons_append, Fm.frees, ih, List.append_assoc]
theorem frees_take_succ {l : List Fm} {i : Nat} {z : Fm} (h : l[i]? = some z) : Fm.frees (l.take (i + 1)) = Fm.frees (l.take i) ++ z.free := by
  rw [List.take_add_one, h, frees_append]; simp [Fm.frees]
theorem tsN_take_succ {l : List Tm} {i : Nat} {z : Tm} (h : l[i]? = some z) : tsN (l.take (i + 1)) = tsN (l.take i) ++ (if z.kind != 1 then [z.name] else []) := by
  unfold tsN
  rw [List.take_add_one, h, List.filter_append, List.map_append]
  congr 1
  simp only [Option.toList_some, List.filter_cons, List.filter_nil]
  cases z.kind != 1 <;> rfl
theorem cells_str (l : List Nm) : ((l.map D.str).all fun d => d.cells.length == 1) = true := by
  rw [List.all_eq_true]
  intro d hd
  obtain ⟨t, _, rfl⟩ := List.mem_map.1 hd
  rfl

section
variable {G : Nat → Option (List D)}
end
end Go.Fo
/- From the reading of the claim's form to the data of the walk. -/
namespace Go.Fo
open Go Go.Sx Go.Proofs
open Go.Proofs.YtnnkldnhlebmmaaDoor (Rows.uptoBulk Rows.uptoBulkAll)
set_option maxRecDepth 100000

def cW (W : World) : Cx := ⟨[], fun b o => ∃ v, W.cell? ⟨b, o, none⟩ = some v, fun r => ∃ es clk, W.heap[r]? = some (.map es clk)⟩

theorem hrW (W : World) : HR (cW W) [] W where
  len := rfl
  inj l l' b k k' h := by simp [cW] at h
  box l b k x h := by simp [cW] at h
  non l x h := by simp [cW] at h
  lt l b k h := by simp [cW] at h
  ilt b o h := by
    obtain ⟨v, hv⟩ := h
    unfold World.cell? at hv
    cases hb : W.heap[b]? with
    | none => simp [hb] at hv
    | some x => exact heap_lt hb
  jlt r h := by obtain ⟨es, clk, h⟩ := h; exact heap_lt h
  iap b o l k hi h := by simp [cW] at h
  jap r l k hr h := by simp [cW] at h

theorem list_choice {α : Type} {Q : Nat → α → Prop} : ∀ n, (∀ i, i < n → ∃ a, Q i a) → ∃ zs : List α, zs.length = n ∧ ∀ (i : Nat) a, zs[i]? = some a → Q i a
  | 0, _ => ⟨[], rfl, fun i a h => by simp at h⟩
  | n + 1, h => by
    obtain ⟨zs, h1, h2⟩ := list_choice n fun i hi => h i (by omega)
    obtain ⟨a, ha⟩ := h n (by omega)
    refine ⟨zs ++ [a], by simp [h1], fun i b hb => ?_⟩
    rcases get_snoc_cases hb with hb | ⟨rfl, rfl⟩
    · exact h2 i b hb
    · rw [h1]; exact ha

theorem sum_bulk {H α : Type} {wt : α → Nat} : ∀ {zs : List α} {es : List (DataW H × List MemPlace)}, zs.length = es.length → (∀ (i : Nat) a y, zs[i]? = some a → es[i]? = some y → wt a ≤ Rows.uptoBulk y.1) → (zs.map wt).sum ≤ Rows.uptoBulkAll (es.map (·.1))
  | [], [], _, _ => by simp
  | a :: zs, y :: es, hl, h => by
    have := sum_bulk (zs := zs) (es := es) (by simpa using hl) fun i b z hb hz => h (i + 1) b z (by simpa using hb) (by simpa using hz)
    have := h 0 a y rfl rfl
    simp only [List.map_cons, List.sum_cons, Rows.uptoBulkAll]; omega
  | [], _ :: _, hl, _ => by simp at hl
  | _ :: _, [], hl, _ => by simp at hl

section
variable {H : Type} {enc : TypeId × Value → H} {P : Program} {W : World} {held : Bool}

/-- A slice of elements that read. -/
theorem trodSlice {α : Type} (toD : α → D) (wt : α → Nat) {sz : Nat} (hs0 : 0 < sz) (hsz : ∀ a, (toD a).cells.length = sz) {t e : TypeId} {fuel : Nat} {cs : List Value} {x : DataW H × List MemPlace} (ht : P.underlying t = some (.slice e)) (hc : P.cellsOf e = sz)
    (helem : ∀ n cs' y, fuel = n + 1 → DataW.trod enc P W 0 (fun _ => true) held n e cs' = some y → ∃ a : α, All2 (R1 (cW W).I (cW W).J W) cs' (toD a).cells ∧ wt a ≤ Rows.uptoBulk y.1)
    (h : DataW.trod enc P W 0 (fun _ => true) held fuel t cs = some x) :
    ∃ (zs : List α) (v : Value), cs = [v] ∧ R1 (cW W).I (cW W).J W v (.sl (zs.map toD)) ∧ (zs.map wt).sum + 1 ≤ Rows.uptoBulk x.1 := by
  rcases DataW.trod_slice ht h with ⟨rfl, rfl⟩ | ⟨a, len, cap, elems, rest, n, hf, rfl, rfl, hb, hl, hm, hlen, hel, hsp, hns⟩
  · exact ⟨[], _, rfl, R1.nil, by simp [Rows.uptoBulk]⟩
  have hex : ∀ i, i < len → ∃ b : α, ∃ cs' y, W.cells? 0 (a.add (i * sz)) sz = some cs' ∧ elems[i]? = some y ∧ All2 (R1 (cW W).I (cW W).J W) cs' (toD b).cells ∧ wt b ≤ Rows.uptoBulk y.1 := by
    intro i hi
    have h1 := hel i hi
    rw [List.getElem?_eq_getElem (by omega : i < elems.length), hc] at h1
    obtain ⟨cs', h2, h3⟩ := Option.bind_eq_some_iff.1 h1
    obtain ⟨b, h4, h5⟩ := helem n cs' _ hf h3
    exact ⟨b, cs', _, h2, by simp [hlen, hi], h4, h5⟩
  obtain ⟨zs, has, hQ⟩ := list_choice len hex
  have hsum : (zs.map wt).sum ≤ Rows.uptoBulkAll (elems.map (·.1)) := sum_bulk (by rw [has, hlen]) fun i b y hb hy => by
    obtain ⟨cs', y', _, h2, _, h4⟩ := hQ i b hb
    rw [hy] at h2; cases h2; exact h4
  refine ⟨zs, _, rfl, ?_, by simp only [Rows.uptoBulk]; omega⟩
  rcases Nat.eq_zero_or_pos len with h0 | h0
  · have : zs = [] := List.eq_nil_of_length_eq_zero (by omega)
    subst this
    subst h0
    exact R1.emp a cap
  · have hspot : a = ⟨a.block, a.off, none⟩ := by
      have hlt : 0 < zs.length := by omega
      obtain ⟨cs', y, h1, _, h3, _⟩ := hQ 0 zs[0] (by simp [hlt])
      obtain ⟨_, h5, h6⟩ := World.cells?_some h1
      have h7 := h6 0 hs0
      have h8 : (a.add (0 * sz)).add 0 = a := by simp [Addr.add]
      rw [h8] at h7
      have h9 : 0 < cs'.length := by omega
      rw [List.getElem?_eq_getElem h9] at h7
      unfold World.cell? at h7
      split at h7
      · split at h7
        · cases h7
        · rename_i hs
          obtain ⟨b, o, s⟩ := a
          cases s with
          | none => rfl
          | some q => simp at hs
      · cases h7
    rw [hspot]
    have key : ∀ i j d, cellAt (zs.map toD) i j = some d → ∃ v, W.cell? ⟨a.block, a.off + i * sz + j, none⟩ = some v ∧ R1 (cW W).I (cW W).J W v d := by
      intro i j d hd
      unfold cellAt at hd
      obtain ⟨x, hx, hj⟩ := Option.bind_eq_some_iff.1 hd
      rw [List.getElem?_map] at hx
      obtain ⟨b, hb', rfl⟩ := Option.map_eq_some_iff.1 hx
      obtain ⟨cs', y, h1, _, h3, _⟩ := hQ i b hb'
      obtain ⟨_, h5, h6⟩ := World.cells?_some h1
      obtain ⟨v, hv, hr⟩ := h3.get hj
      have hjl : j < sz := by
        have := hsz b
        rcases Nat.lt_or_ge j (toD b).cells.length with h' | h'
        · omega
        · rw [List.getElem?_eq_none h'] at hj; cases hj
      have h7 := h6 j hjl
      rw [hv, Deep.add_add] at h7
      have h8 : a.add (i * sz + j) = ⟨a.block, a.off + i * sz + j, none⟩ := by
        have h9 := add_none a.block a.off (i * sz + j)
        rw [← hspot] at h9
        rw [h9, Nat.add_assoc]
      rw [h8] at h7
      exact ⟨v, h7, hr⟩
    have e1 : len = (zs.map toD).length := by simp [has]
    rw [e1]
    refine R1.sl a.block a.off cap sz (zs.map toD) (fun i j => (W.cell? ⟨a.block, a.off + i * sz + j, none⟩).getD undef) ?_ ?_ ?_ (by simp [has]; omega)
    · intro d hd
      obtain ⟨b, _, rfl⟩ := List.mem_map.1 hd
      exact hsz b
    · intro i j d hd
      obtain ⟨v, hv, _⟩ := key i j d hd
      exact ⟨⟨v, hv⟩, by simp [hv]⟩
    · intro i j d hd
      obtain ⟨v, hv, hr⟩ := key i j d hd
      simp only [hv, Option.getD_some]
      exact hr

theorem byte_str (s : ByteArray) : Value.string s = .string ⟨s.data.toList.toArray⟩ := by cases s; simp

/-- A term that reads. -/
theorem trodTm {fuel : Nat} {cs : List Value} {x : DataW H × List MemPlace} (h : DataW.trod enc Tryd.prog W 0 (fun _ => true) held fuel 24 cs = some x) :
    ∃ t : Tm, All2 (R1 (cW W).I (cW W).J W) cs t.d.cells ∧ t.name.length + 1 ≤ Rows.uptoBulk x.1 := by
  obtain ⟨xs, n, rfl, rfl, hl, hx, hf⟩ := DataW.trod_struct Tryd.underlying24 h
  have hc : Tryd.prog.cellsOf 24 = 3 := by kernel_rfl
  have hc3 : Tryd.prog.cellsOf 3 = 1 := by kernel_rfl
  have hc9 : Tryd.prog.cellsOf 9 = 1 := by kernel_rfl
  rw [hc] at hl
  match cs, hl with
  | [v0, v1, v2], _ =>
  match xs, hx with
  | [x0, x1, x2], _ =>
  have h0 : DataW.trod enc Tryd.prog W 0 (fun _ => true) held n 3 (List.take (Tryd.prog.cellsOf 3) [v0, v1, v2]) = some x0 := hf 0 _ rfl
  have h1 : DataW.trod enc Tryd.prog W 0 (fun _ => true) held n 9 (List.take (Tryd.prog.cellsOf 9) [v1, v2]) = some x1 := hf 1 _ rfl
  have h2 : DataW.trod enc Tryd.prog W 0 (fun _ => true) held n 3 (List.take (Tryd.prog.cellsOf 3) [v2]) = some x2 := hf 2 _ rfl
  simp only [hc3, hc9, List.take_succ_cons, List.take_zero] at h0 h1 h2
  obtain ⟨a, e0, f0, _⟩ := DataW.trod_int (k := .i64) Tryd.underlying3 h0
  obtain ⟨b, e1, f1, _⟩ := DataW.trod_string Tryd.underlying9 h1
  obtain ⟨c, e2, f2, _⟩ := DataW.trod_int (k := .i64) Tryd.underlying3 h2
  simp only [List.cons.injEq, and_true] at e0 e1 e2
  subst e0 e1 e2 f0 f1 f2
  refine ⟨⟨a, b.data.toList, c⟩, ?_, ?_⟩
  · rw [byte_str]
    exact All2.cons (.int _ _) (All2.cons (.str _) (All2.cons (.int _ _) All2.nil))
  · simp [Rows.uptoBulk, Rows.uptoBulkAll]; omega

theorem trodBd {fuel : Nat} {cs : List Value} {x : DataW H × List MemPlace} (h : DataW.trod enc Tryd.prog W 0 (fun _ => true) held fuel 43 cs = some x) :
    ∃ t : Bd, All2 (R1 (cW W).I (cW W).J W) cs t.d.cells ∧ t.name.length + 1 ≤ Rows.uptoBulk x.1 := by
  obtain ⟨xs, n, rfl, rfl, hl, hx, hf⟩ := DataW.trod_struct Tryd.underlying43 h
  have hc : Tryd.prog.cellsOf 43 = 2 := by kernel_rfl
  have hc3 : Tryd.prog.cellsOf 3 = 1 := by kernel_rfl
  have hc9 : Tryd.prog.cellsOf 9 = 1 := by kernel_rfl
  rw [hc] at hl
  match cs, hl with
  | [v0, v1], _ =>
  match xs, hx with
  | [x0, x1], _ =>
  have h0 : DataW.trod enc Tryd.prog W 0 (fun _ => true) held n 9 (List.take (Tryd.prog.cellsOf 9) [v0, v1]) = some x0 := hf 0 _ rfl
  have h1 : DataW.trod enc Tryd.prog W 0 (fun _ => true) held n 3 (List.take (Tryd.prog.cellsOf 3) [v1]) = some x1 := hf 1 _ rfl
  simp only [hc3, hc9, List.take_succ_cons, List.take_zero] at h0 h1
  obtain ⟨b, e1, f1, _⟩ := DataW.trod_string Tryd.underlying9 h0
  obtain ⟨c, e2, f2, _⟩ := DataW.trod_int (k := .i64) Tryd.underlying3 h1
  simp only [List.cons.injEq, and_true] at e1 e2
  subst e1 e2 f1 f2
  refine ⟨⟨b.data.toList, c⟩, ?_, ?_⟩
  · rw [byte_str]
    exact All2.cons (.str _) (All2.cons (.int _ _) All2.nil)
  · simp [Rows.uptoBulk, Rows.uptoBulkAll]

theorem sumT_eq (ts : List Tm) : (ts.map fun t => t.name.length + 1).sum = sumT ts + ts.length := by
  unfold sumT
  induction ts with
  | nil => rfl
  | cons t r ih => simp only [List.map_cons, List.sum_cons, List.length_cons, ih]; omega
theorem sumB_eq (ts : List Bd) : (ts.map fun t => t.name.length + 1).sum = sumB ts + ts.length := by
  unfold sumB
  induction ts with
  | nil => rfl
  | cons t r ih => simp only [List.map_cons, List.sum_cons, List.length_cons, ih]; omega
theorem wts_eq (l : List Fm) : (l.map Fm.wt).sum = Fm.wts l := by
  induction l with
  | nil => rfl
  | cons t r ih => simp only [List.map_cons, List.sum_cons, Fm.wts, ih]

/-- A formula that reads. -/
theorem trodFm : ∀ (fuel : Nat) (cs : List Value) (x : DataW H × List MemPlace), DataW.trod enc Tryd.prog W 0 (fun _ => true) held fuel 33 cs = some x →
    ∃ f : Fm, All2 (R1 (cW W).I (cW W).J W) cs f.d.cells ∧ f.wt ≤ Rows.uptoBulk x.1 := by
  intro fuel
  induction fuel using Nat.strongRecOn with
  | _ fuel ih =>
  intro cs x h
  obtain ⟨xs, n, rfl, rfl, hl, hx, hf⟩ := DataW.trod_struct Tryd.underlying33 h
  have hc : Tryd.prog.cellsOf 33 = 6 := by kernel_rfl
  have hc3 : Tryd.prog.cellsOf 3 = 1 := by kernel_rfl
  have hc9 : Tryd.prog.cellsOf 9 = 1 := by kernel_rfl
  have hc22 : Tryd.prog.cellsOf 30 = 1 := by kernel_rfl
  have hc23 : Tryd.prog.cellsOf 22 = 1 := by kernel_rfl
  have hc24 : Tryd.prog.cellsOf 31 = 1 := by kernel_rfl
  have hc43 : Tryd.prog.cellsOf 24 = 3 := by kernel_rfl
  have hc40 : Tryd.prog.cellsOf 43 = 2 := by kernel_rfl
  rw [hc] at hl
  match cs, hl with
  | [v0, v1, v2, v3, v4, v5], _ =>
  match xs, hx with
  | [x0, x1, x2, x3, x4, x5], _ =>
  have h0 : DataW.trod enc Tryd.prog W 0 (fun _ => true) held n 3 (List.take (Tryd.prog.cellsOf 3) [v0, v1, v2, v3, v4, v5]) = some x0 := hf 0 _ rfl
  have h1 : DataW.trod enc Tryd.prog W 0 (fun _ => true) held n 9 (List.take (Tryd.prog.cellsOf 9) [v1, v2, v3, v4, v5]) = some x1 := hf 1 _ rfl
  have h2 : DataW.trod enc Tryd.prog W 0 (fun _ => true) held n 3 (List.take (Tryd.prog.cellsOf 3) [v2, v3, v4, v5]) = some x2 := hf 2 _ rfl
  have h3 : DataW.trod enc Tryd.prog W 0 (fun _ => true) held n 30 (List.take (Tryd.prog.cellsOf 30) [v3, v4, v5]) = some x3 := hf 3 _ rfl
  have h4 : DataW.trod enc Tryd.prog W 0 (fun _ => true) held n 22 (List.take (Tryd.prog.cellsOf 22) [v4, v5]) = some x4 := hf 4 _ rfl
  have h5 : DataW.trod enc Tryd.prog W 0 (fun _ => true) held n 31 (List.take (Tryd.prog.cellsOf 31) [v5]) = some x5 := hf 5 _ rfl
  simp only [hc3, hc9, hc22, hc23, hc24, List.take_succ_cons, List.take_zero] at h0 h1 h2 h3 h4 h5
  obtain ⟨a, e0, f0, _⟩ := DataW.trod_int (k := .i64) Tryd.underlying3 h0
  obtain ⟨b, e1, f1, _⟩ := DataW.trod_string Tryd.underlying9 h1
  obtain ⟨c, e2, f2, _⟩ := DataW.trod_int (k := .i64) Tryd.underlying3 h2
  obtain ⟨ts, w3, e3, r3, b3⟩ := trodSlice Tm.d (fun t => t.name.length + 1) (by decide) (fun _ => rfl) Tryd.underlying30 hc43 (fun _ _ _ _ h => trodTm h) h3
  obtain ⟨bs, w4, e4, r4, b4⟩ := trodSlice Bd.d (fun t => t.name.length + 1) (by decide) (fun _ => rfl) Tryd.underlying22 hc40 (fun _ _ _ _ h => trodBd h) h4
  obtain ⟨l, w5, e5, r5, b5⟩ := trodSlice Fm.d Fm.wt (by decide : 0 < 6) (fun f => by rw [f.d_eq]; rfl) Tryd.underlying31 hc (fun m cs' y hm h => ih m (by omega) cs' y h) h5
  simp only [List.cons.injEq, and_true] at e0 e1 e2 e3 e4 e5
  subst e0 e1 e2 e3 e4 e5 f0 f1 f2
  refine ⟨.mk a b.data.toList c ts bs l, ?_, ?_⟩
  · rw [byte_str, Fm.d_mk]
    exact All2.cons (.int _ _) (All2.cons (.str _) (All2.cons (.int _ _) (All2.cons r3 (All2.cons r4 (All2.cons r5 All2.nil)))))
  · rw [sumT_eq] at b3
    rw [sumB_eq] at b4
    rw [wts_eq] at b5
    rw [Fm.wt_eq]
    simp only [Fm.name, Fm.ts, Fm.bs, Fm.l, List.map_cons, List.map_nil, Rows.uptoBulk, Rows.uptoBulkAll]
    omega
end
end Go.Fo
/- The package's maps, out of what the row lists. -/
namespace Go.Fo
open Go Go.Sx Go.Proofs
open Go.WideElems
open Go.ChangeMaps (mem_insert_iff)
set_option maxRecDepth 100000

def litD : Lit → D
  | .int k n => .int k n
  | .string s => .str s
  | .bool b => .bool b
  | _ => .bool false
def litOf {H : Type} : DataW H → Lit
  | .lit l => l
  | _ => .bool false
def conv {H : Type} (p : Lit × DataW H) : D × D := (litD p.1, litD (litOf p.2))

theorem mem_foldr {H : Type} {y : Lit × DataW H} : ∀ {l : List (Lit × DataW H)}, y ∈ l.foldr DataW.insert [] ↔ y ∈ l
  | [] => by simp
  | a :: l => by rw [List.foldr_cons, mem_insert_iff, mem_foldr]; simp

section
variable {H : Type} {enc : TypeId × Value → H} {P : Program} {W : World} {held : Bool}

theorem trodMap {t k e : TypeId} (ht : P.underlying t = some (.map k e)) (hkey : ∀ v l, keyOf P k v = some l → R1 (cW W).I (cW W).J W v (litD l))
    (hel : ∀ n v y, elemAt enc P W 0 (fun _ => true) held n e v = some y → R1 (cW W).I (cW W).J W v (litD (litOf y.1)))
    {fuel : Nat} {cs : List Value} {L : List (Lit × DataW H)} {p : List MemPlace} (h : DataW.trod enc P W 0 (fun _ => true) held fuel t cs = some (.map L, p)) :
    ∃ (es : List (D × D)) (v : Value), cs = [v] ∧ R1 (cW W).I (cW W).J W v (.gmap es) ∧ ∀ kv, kv ∈ es ↔ kv ∈ L.map conv := by
  rcases open_map ht h with ⟨_, hx⟩ | ⟨b, ents, clk, n, _, rfl, hb, _, F, hx⟩
  · cases hx
  simp only [Prod.mk.injEq, DataW.map.injEq] at hx
  refine ⟨ents.toList.map fun x => conv (rg P k (elemAt enc P W 0 (fun _ => true) held n e) x), _, rfl, ?_, fun kv => ?_⟩
  · have key : ∀ (i : Nat) kv, (ents.toList.map fun x => conv (rg P k (elemAt enc P W 0 (fun _ => true) held n e) x))[i]? = some kv → R1 (cW W).I (cW W).J W (ents.getD i default).key kv.1 ∧ R1 (cW W).I (cW W).J W (ents.getD i default).val kv.2 := by
      intro i kv hi
      rw [List.getElem?_map, Option.map_eq_some_iff] at hi
      obtain ⟨x, hx1, rfl⟩ := hi
      have hg : ents.getD i default = x := by
        rw [Array.getElem?_toList] at hx1
        simp [Array.getD_eq_getD_getElem?, hx1]
      obtain ⟨y, hy⟩ := F.reads x (List.mem_of_getElem? hx1)
      rw [hg, rg_of hy]
      obtain ⟨z, hz, hz2⟩ := rd_val hy
      refine ⟨hkey _ _ (rd_key hy), ?_⟩
      show R1 _ _ W x.val (litD (litOf y.2))
      rw [hz2]
      exact hel n _ _ hz
    exact .gmap b ents clk _ ⟨ents, clk, hb⟩ hb (by simp) (fun i kv h => (key i kv h).1) (fun i kv h => (key i kv h).2)
  · rw [hx.1]
    simp only [List.mem_map, mem_foldr]
    constructor
    · rintro ⟨x, hx, rfl⟩; exact ⟨_, ⟨x, hx, rfl⟩, rfl⟩
    · rintro ⟨_, ⟨x, hx, rfl⟩, rfl⟩; exact ⟨x, hx, rfl⟩

theorem key_int {k : TypeId} {q : IntKind} (hk : P.underlying k = some (.int q)) (v : Value) (l : Lit) (h : keyOf P k v = some l) : R1 (cW W).I (cW W).J W v (litD l) := by
  rw [keyOf_int hk] at h
  unfold mapKey at h
  rw [hk] at h
  split at h <;> simp_all
  obtain ⟨⟨rfl, _⟩, rfl⟩ := h
  exact .int _ _
theorem key_str {k : TypeId} (hk : P.underlying k = some .string) (v : Value) (l : Lit) (h : keyOf P k v = some l) : R1 (cW W).I (cW W).J W v (litD l) := by
  rw [keyOf_string hk] at h
  unfold mapKey at h
  rw [hk] at h
  split at h <;> simp_all
  obtain ⟨_, rfl⟩ := h
  rw [byte_str]
  exact .str _
theorem el_int {e : TypeId} {q : IntKind} (he : P.underlying e = some (.int q)) (n : Nat) (v : Value) (y : DataW H × List MemPlace) (h : elemAt enc P W 0 (fun _ => true) held n e v = some y) : R1 (cW W).I (cW W).J W v (litD (litOf y.1)) := by
  obtain ⟨a, rfl, rfl, _⟩ := elemAt_int he h
  exact .int _ _
theorem el_bool {e : TypeId} (he : P.underlying e = some .bool) (n : Nat) (v : Value) (y : DataW H × List MemPlace) (h : elemAt enc P W 0 (fun _ => true) held n e v = some y) : R1 (cW W).I (cW W).J W v (litD (litOf y.1)) := by
  obtain ⟨a, rfl, rfl⟩ := elemAt_bool he h
  exact .bool _
theorem el_str {e : TypeId} (he : P.underlying e = some .string) (n : Nat) (v : Value) (y : DataW H × List MemPlace) (h : elemAt enc P W 0 (fun _ => true) held n e v = some y) : R1 (cW W).I (cW W).J W v (litD (litOf y.1)) := by
  unfold elemAt at h
  split at h
  · rename_i hf
    obtain ⟨s, hc, hz, _⟩ := DataW.trod_string he h
    cases v <;> simp [Value.formed, he, Value.cells] at hf hc
    subst hc
    rw [hz, byte_str]
    exact .str _
  · cases h

/-- One listed variable. -/
theorem laid_mem {laid : List (String × DataW Unit)} : ∀ {ps : List MemPlace}, DataW.LaidVars P W laid ps → ∀ {n d}, (n, d) ∈ laid →
    ∃ g t cs fuel p, P.globalNamed n = some g ∧ (P.globals[g]?).map (·.type) = some t ∧ W.var? P n = some cs ∧ DataW.trod (fun _ => ()) P W 0 (fun _ => true) false fuel t cs.toList = some (d, p) := by
  induction laid with
  | nil => intro ps _ n d h; cases h
  | cons x r ih =>
    obtain ⟨n0, d0⟩ := x
    rintro ps ⟨g, t, cs, fuel, p, q, h1, h2, h3, h4, h5, _⟩ n d hm
    rcases List.mem_cons.1 hm with h | h
    · cases h; exact ⟨g, t, cs, fuel, p, h1, h2, h3, h4⟩
    · exact ih h5 h
end

/-- The same entries give the same answers. -/
theorem lookD_same {es L : List (D × D)} (k : D) (h : ∀ kv, kv ∈ es ↔ kv ∈ L) (hb : ∀ kv ∈ L, ∀ kv' ∈ L, beqD k kv.1 = true → beqD k kv'.1 = true → kv = kv') : lookD es k = lookD L k := by
  unfold lookD
  cases h1 : es.find? fun kv => beqD k kv.1 with
  | none =>
    rw [List.find?_eq_none] at h1
    have : L.find? (fun kv => beqD k kv.1) = none := by
      rw [List.find?_eq_none]
      exact fun x hx => h1 x ((h x).2 hx)
    rw [this]
  | some kv =>
    have hm := List.mem_of_find?_eq_some h1
    have hp := List.find?_some h1
    cases h2 : L.find? fun kv => beqD k kv.1 with
    | none =>
      rw [List.find?_eq_none] at h2
      exact absurd hp (h2 kv ((h kv).1 hm))
    | some kv' =>
      have hp' := List.find?_some h2
      rw [hb kv ((h kv).1 hm) kv' (List.mem_of_find?_eq_some h2) hp hp']

theorem beq_int {a : Int} {p : D × D} (k : Int) (h1 : p.1 = .int .i64 a) : beqD (.int .i64 k) p.1 = true ↔ k = a := by rw [h1]; simp [beqD]

theorem lookI (L : List (Int × Int)) (hL : (L.map Prod.fst).Nodup) {es : List (D × D)} (h : ∀ kv, kv ∈ es ↔ kv ∈ L.map fun p => (D.int .i64 p.1, D.int .i64 p.2)) (k : Int) : lookD es (.int .i64 k) = (L.lookup k).map (.int .i64) := by
  rw [lookD_same _ h ?_]
  · clear h hL
    induction L with
    | nil => rfl
    | cons p r ih =>
      obtain ⟨a, b⟩ := p
      unfold lookD at ih ⊢
      rw [List.map_cons, List.find?_cons, List.lookup_cons]
      simp only [beqD]
      cases hk : k == a with
      | true => rfl
      | false => exact ih
  · intro kv h1 kv' h2 e1 e2
    obtain ⟨p, hp, rfl⟩ := List.mem_map.1 h1
    obtain ⟨q, hq, rfl⟩ := List.mem_map.1 h2
    simp only [beqD, beq_iff_eq] at e1 e2
    have : p = q := inj_fst hL hp hq (e1.symm.trans e2)
    rw [this]
 where
  inj_fst {α β : Type} : ∀ {L : List (α × β)}, (L.map Prod.fst).Nodup → ∀ {p q}, p ∈ L → q ∈ L → p.1 = q.1 → p = q
    | [], _, _, _, h, _, _ => by cases h
    | a :: L, hn, p, q, hp, hq, he => by
      rw [List.map_cons, List.nodup_cons] at hn
      rcases List.mem_cons.1 hp with rfl | hp' <;> rcases List.mem_cons.1 hq with rfl | hq'
      · rfl
      · exact absurd (he ▸ List.mem_map_of_mem hq') hn.1
      · exact absurd (he ▸ List.mem_map_of_mem hp') hn.1
      · exact inj_fst hn.2 hp' hq' he

theorem lookS (L : List (List UInt8 × List UInt8)) (hL : (L.map Prod.fst).Nodup) {es : List (D × D)} (h : ∀ kv, kv ∈ es ↔ kv ∈ L.map fun p => (D.str p.1, D.str p.2)) (k : List UInt8) : lookD es (.str k) = (L.lookup k).map .str := by
  rw [lookD_same _ h ?_]
  · clear h hL
    induction L with
    | nil => rfl
    | cons p r ih =>
      obtain ⟨a, b⟩ := p
      unfold lookD at ih ⊢
      rw [List.map_cons, List.find?_cons, List.lookup_cons]
      simp only [beqD]
      cases hk : k == a with
      | true => rfl
      | false => exact ih
  · intro kv h1 kv' h2 e1 e2
    obtain ⟨p, hp, rfl⟩ := List.mem_map.1 h1
    obtain ⟨q, hq, rfl⟩ := List.mem_map.1 h2
    simp only [beqD, beq_iff_eq] at e1 e2
    have : p = q := lookI.inj_fst hL hp hq (e1.symm.trans e2)
    rw [this]

theorem lookB (L : List (List UInt8)) {es : List (D × D)} (h : ∀ kv, kv ∈ es ↔ kv ∈ L.map fun p => (D.str p, D.bool true)) (k : List UInt8) : lookD es (.str k) = if L.contains k then some (.bool true) else none := by
  rw [lookD_same _ h ?_]
  · clear h
    induction L with
    | nil => rfl
    | cons a r ih =>
      unfold lookD at ih ⊢
      rw [List.map_cons, List.find?_cons, List.contains_cons]
      simp only [beqD]
      cases hk : k == a with
      | true => rfl
      | false => exact ih
  · intro kv h1 kv' h2 e1 e2
    obtain ⟨p, hp, rfl⟩ := List.mem_map.1 h1
    obtain ⟨q, hq, rfl⟩ := List.mem_map.1 h2
    simp only [beqD, beq_iff_eq] at e1 e2
    rw [← e1, ← e2]

open Go.Proofs.YtnnkldnhlebmmaaDoor (Rows.laid_chalkline_formula_arity Rows.laid_chalkline_formula_signs Rows.laid_chalkline_formula_duals Rows.laid_chalkline_formula_reserved Rows.laid_chalkline_types_asks Rows.laid_chalkline_types_takes)

theorem u92 : Tryd.prog.underlying 92 = some (.map 3 3) := by kernel_rfl
theorem u93 : Tryd.prog.underlying 93 = some (.map 9 9) := by kernel_rfl
theorem u62 : Tryd.prog.underlying 62 = some (.map 9 4) := by kernel_rfl
theorem u4 : Tryd.prog.underlying 4 = some .bool := by kernel_rfl
theorem u76 : Tryd.prog.underlying 76 = some (.array 2 3) := by kernel_rfl
theorem u77 : Tryd.prog.underlying 77 = some (.array 8 76) := by kernel_rfl
theorem u83 : Tryd.prog.underlying 83 = some (.array 9 76) := by kernel_rfl
theorem c76 : Tryd.prog.cellsOf 76 = 2 := by kernel_rfl
theorem c3 : Tryd.prog.cellsOf 3 = 1 := by kernel_rfl

theorem arr_one {cs : Array Value} {v : Value} (h : cs.toList = [v]) : cs[0]? = some v := by
  rw [← Array.getElem?_toList, h]; rfl

def keysOf : DataW Unit → List (List UInt8)
  | .map L => L.map fun p => match p.1 with | .string s => s | _ => []
  | _ => []
def resK : List (List UInt8) := keysOf Rows.laid_chalkline_formula_reserved
theorem resK_iff (s : List UInt8) : s ∈ resK ↔ s ∈ words :=
  ⟨(by decide +kernel : ∀ s ∈ resK, s ∈ words) s, (by decide +kernel : ∀ s ∈ words, s ∈ resK) s⟩

/-! Tables of pairs. -/
theorem pairs_get : ∀ {L : List (Int × Int)} {j : Nat} {x : D}, (pairs L)[j]? = some x → ∃ p, L[j / 2]? = some p ∧ x = .int .i64 (if j % 2 = 0 then p.1 else p.2)
  | [], j, x, h => by simp [pairs] at h
  | p :: r, 0, x, h => by simp [pairs] at h; exact ⟨p, rfl, h.symm⟩
  | p :: r, 1, x, h => by simp [pairs] at h; exact ⟨p, rfl, h.symm⟩
  | p :: r, j + 2, x, h => by
    have h' : (pairs r)[j]? = some x := by simpa [pairs] using h
    obtain ⟨q, h1, h2⟩ := pairs_get h'
    have e1 : (j + 2) / 2 = j / 2 + 1 := by omega
    have e2 : (j + 2) % 2 = j % 2 := by omega
    exact ⟨q, by rw [e1]; simpa using h1, by rw [e2]; exact h2⟩
theorem seg_one {cs : List Value} {i : Nat} {v : Value} (h : (cs.drop i).take 1 = [v]) : cs[i]? = some v := by
  have := congrArg (fun l => l[0]?) h
  simpa [List.getElem?_take] using this
section
variable {H : Type} {enc : TypeId × Value → H} {W : World} {held : Bool}
theorem trodPairs {t : TypeId} {n fuel : Nat} {cs : List Value} {L : List (Int × Int)} {p : List MemPlace} (ht : Tryd.prog.underlying t = some (.array n 76)) (hn : L.length = n)
    (h : DataW.trod enc Tryd.prog W 0 (fun _ => true) held fuel t cs = some (.agg (L.map fun q => .agg [.lit (.int .i64 q.1), .lit (.int .i64 q.2)]), p)) {j : Nat} {x : D} (hx : (pairs L)[j]? = some x) :
    ∃ v, cs[j]? = some v ∧ R1 (cW W).I (cW W).J W v x := by
  obtain ⟨q, hq, rfl⟩ := pairs_get hx
  obtain ⟨xs, m, _, ex, _, hl, hel⟩ := DataW.trod_array ht h
  simp only [Prod.mk.injEq, DataW.agg.injEq] at ex
  have hlt : j / 2 < n := by
    rw [← hn]
    rcases Nat.lt_or_ge (j / 2) L.length with h' | h'
    · exact h'
    · rw [List.getElem?_eq_none h'] at hq; cases hq
  have h1 := hel (j / 2) hlt
  have hy : ∃ y, xs[j / 2]? = some y ∧ y.1 = .agg [.lit (.int .i64 q.1), .lit (.int .i64 q.2)] := by
    have h2 := congrArg (fun l => l[j / 2]?) ex.1
    simp only [List.getElem?_map, hq, Option.map_some] at h2
    cases hxs : xs[j / 2]? with
    | none => rw [hxs] at h2; cases h2
    | some y => rw [hxs] at h2; exact ⟨y, rfl, (Option.some.inj h2).symm⟩
  obtain ⟨y, hy1, hy2⟩ := hy
  rw [hy1, c76] at h1
  obtain ⟨y1, y2⟩ := y
  simp only at hy2
  subst hy2
  obtain ⟨ys, m2, _, ey, _, hl2, hel2⟩ := DataW.trod_array u76 h1
  simp only [Prod.mk.injEq, DataW.agg.injEq] at ey
  have key : ∀ r, r < 2 → ∀ z, [q.1, q.2][r]? = some z → cs[j / 2 * 2 + r]? = some (.int .i64 z) := by
    intro r hr z hz
    have h3 := hel2 r hr
    have h4 := congrArg (fun l => l[r]?) ey.1
    simp only [List.getElem?_map] at h4
    have h5 : [(DataW.lit (.int .i64 q.1) : DataW H), .lit (.int .i64 q.2)][r]? = some (.lit (.int .i64 z)) := by
      match r, hr, hz with
      | 0, _, hz => simp at hz; subst hz; rfl
      | 1, _, hz => simp at hz; subst hz; rfl
    rw [h5] at h4
    cases hys : ys[r]? with
    | none => rw [hys] at h4; cases h4
    | some u =>
      rw [hys, c3] at h3
      rw [hys] at h4
      obtain ⟨u1, u2⟩ := u
      simp only [Option.map_some, Option.some.injEq] at h4
      subst h4
      obtain ⟨a, e0, f0, _⟩ := DataW.trod_int (k := .i64) Tryd.underlying3 h3
      simp only [Prod.mk.injEq, DataW.lit.injEq, Lit.int.injEq] at f0
      have h6 := seg_one e0
      rw [Nat.mul_one, List.getElem?_take, if_pos hr, List.getElem?_drop] at h6
      rw [h6, f0.1.2]
  rcases Nat.mod_two_eq_zero_or_one j with hm | hm
  · have := key 0 (by omega) q.1 rfl
    rw [if_pos hm]
    exact ⟨_, by rw [← this]; congr 1; omega, .int _ _⟩
  · have := key 1 (by omega) q.2 rfl
    rw [if_neg (by omega)]
    exact ⟨_, by rw [← this]; congr 1; omega, .int _ _⟩
end

theorem all_same {es L : List (D × D)} (q : D × D → Bool) (h : ∀ kv, kv ∈ es ↔ kv ∈ L) (hq : L.all q = true) : es.all q = true := by
  rw [List.all_eq_true] at hq ⊢
  exact fun x hx => hq x ((h x).1 hx)
def duE : List (D × D) := duL.map fun p => (D.int .i64 p.1, D.int .i64 p.2)

/-- The maps and tables of the world that the row lists. -/
theorem maps_core {W : World} {laid : List (String × DataW Unit)} {ps : List MemPlace} (h : DataW.LaidVars Tryd.prog W laid ps)
    (h0 : ("chalkline/formula.arity", Rows.laid_chalkline_formula_arity) ∈ laid) (h1 : ("chalkline/formula.signs", Rows.laid_chalkline_formula_signs) ∈ laid)
    (h3 : ("chalkline/formula.reserved", Rows.laid_chalkline_formula_reserved) ∈ laid)
    (ha : ("chalkline/types.asks", Rows.laid_chalkline_types_asks) ∈ laid) (hk : ("chalkline/types.takes", Rows.laid_chalkline_types_takes) ∈ laid) :
    ∃ ar si re : List (D × D), (∀ du nd, (∀ kv, kv ∈ du ↔ kv ∈ duE) → (Maps.mk ar si du re nd).Ok) ∧ ∀ g cs, GG ⟨ar, si, [], re, true⟩ g = some cs → ∀ (j : Nat) x, cs[j]? = some x → (cW W).I g j ∧ ∃ v, W.cell? ⟨g, j, none⟩ = some v ∧ R1 (cW W).I (cW W).J W v x := by
  obtain ⟨g, t, cs, fuel, p, a1, a2, a3, a4⟩ := laid_mem h h0
  obtain rfl := Option.some.inj ((show Tryd.prog.globalNamed "chalkline/formula.arity" = some 2 by kernel_rfl).symm.trans a1)
  obtain rfl := Option.some.inj ((show (Tryd.prog.globals[2]?).map (·.type) = some 92 by kernel_rfl).symm.trans a2)
  obtain ⟨ar, v0, e0, r0, m0⟩ := trodMap u92 (key_int Tryd.underlying3) (el_int Tryd.underlying3) a4
  have c0 := (World.var?_cell a1 a3 0).trans (arr_one e0)
  clear a1 a2 a3 a4
  obtain ⟨g, t, cs, fuel, p, a1, a2, a3, a4⟩ := laid_mem h h1
  obtain rfl := Option.some.inj ((show Tryd.prog.globalNamed "chalkline/formula.signs" = some 3 by kernel_rfl).symm.trans a1)
  obtain rfl := Option.some.inj ((show (Tryd.prog.globals[3]?).map (·.type) = some 93 by kernel_rfl).symm.trans a2)
  obtain ⟨si, v1, e1, r1, m1⟩ := trodMap u93 (key_str Tryd.underlying9) (el_str Tryd.underlying9) a4
  have c1 := (World.var?_cell a1 a3 0).trans (arr_one e1)
  clear a1 a2 a3 a4
  obtain ⟨g, t, cs, fuel, p, a1, a2, a3, a4⟩ := laid_mem h h3
  obtain rfl := Option.some.inj ((show Tryd.prog.globalNamed "chalkline/formula.reserved" = some 5 by kernel_rfl).symm.trans a1)
  obtain rfl := Option.some.inj ((show (Tryd.prog.globals[5]?).map (·.type) = some 62 by kernel_rfl).symm.trans a2)
  obtain ⟨re, v3, e3, r3, m3⟩ := trodMap u62 (key_str Tryd.underlying9) (el_bool u4) a4
  have c5 := (World.var?_cell a1 a3 0).trans (arr_one e3)
  clear a1 a2 a3 a4
  obtain ⟨g, t, cs, fuel, p, a1, a2, a3, a4⟩ := laid_mem h ha
  obtain rfl := Option.some.inj ((show Tryd.prog.globalNamed "chalkline/types.asks" = some 1 by kernel_rfl).symm.trans a1)
  obtain rfl := Option.some.inj ((show (Tryd.prog.globals[1]?).map (·.type) = some 83 by kernel_rfl).symm.trans a2)
  have ra : ∀ (j : Nat) x, (pairs askL)[j]? = some x → (cW W).I 1 j ∧ ∃ v, W.cell? ⟨1, j, none⟩ = some v ∧ R1 (cW W).I (cW W).J W v x := by
    intro j x hx
    obtain ⟨v, hv, hr⟩ := trodPairs (L := askL) u83 rfl a4 hx
    have hv' : W.cell? ⟨1, j, none⟩ = some v := (World.var?_cell a1 a3 j).trans (by rw [← Array.getElem?_toList]; exact hv)
    exact ⟨⟨v, hv'⟩, v, hv', hr⟩
  clear a1 a2 a3 a4
  obtain ⟨g, t, cs, fuel, p, a1, a2, a3, a4⟩ := laid_mem h hk
  obtain rfl := Option.some.inj ((show Tryd.prog.globalNamed "chalkline/types.takes" = some 0 by kernel_rfl).symm.trans a1)
  obtain rfl := Option.some.inj ((show (Tryd.prog.globals[0]?).map (·.type) = some 77 by kernel_rfl).symm.trans a2)
  have rt : ∀ (j : Nat) x, (pairs takL)[j]? = some x → (cW W).I 0 j ∧ ∃ v, W.cell? ⟨0, j, none⟩ = some v ∧ R1 (cW W).I (cW W).J W v x := by
    intro j x hx
    obtain ⟨v, hv, hr⟩ := trodPairs (L := takL) u77 rfl a4 hx
    have hv' : W.cell? ⟨0, j, none⟩ = some v := (World.var?_cell a1 a3 j).trans (by rw [← Array.getElem?_toList]; exact hv)
    exact ⟨⟨v, hv'⟩, v, hv', hr⟩
  clear a1 a2 a3 a4
  have n3 : ∀ kv, kv ∈ re ↔ kv ∈ words.map fun p => (D.str p, D.bool true) := by
    have m3' : ∀ kv, kv ∈ re ↔ kv ∈ resK.map fun p => (D.str p, D.bool true) := m3
    intro kv
    rw [m3']
    simp only [List.mem_map, resK_iff]
  refine ⟨ar, si, re, fun du nd m2 => ⟨all_same _ m0 (by kernel_rfl), all_same _ m1 (by kernel_rfl), all_same _ m2 (by kernel_rfl), all_same _ m3 (by kernel_rfl), lookI arL (by decide) m0, lookS siL (by decide) m1, lookI duL (by decide) m2, lookB words n3⟩, ?_⟩
  intro g cs hg j x hx
  have one : ∀ {d : D} {v : Value} {g : Nat}, cs = [d] → W.cell? ⟨g, 0, none⟩ = some v → R1 (cW W).I (cW W).J W v d → (cW W).I g j ∧ ∃ v, W.cell? ⟨g, j, none⟩ = some v ∧ R1 (cW W).I (cW W).J W v x := by
    intro d v g hc hv hr
    subst hc
    match j, hx with
    | 0, hx =>
      simp only [List.getElem?_cons_zero, Option.some.injEq] at hx
      subst hx
      exact ⟨⟨v, hv⟩, v, hv, hr⟩
  match g, hg with
  | 0, hg => exact rt j x (by rw [Option.some.inj hg]; exact hx)
  | 1, hg => exact ra j x (by rw [Option.some.inj hg]; exact hx)
  | 2, hg => exact one (Option.some.inj hg).symm c0 r0
  | 3, hg => exact one (Option.some.inj hg).symm c1 r1
  | 4, hg => cases hg
  | 5, hg => exact one (Option.some.inj hg).symm c5 r3
  | _ + 6, hg => cases hg

/-- Without the duals. -/
theorem maps_of {W : World} {laid : List (String × DataW Unit)} {ps : List MemPlace} (h : DataW.LaidVars Tryd.prog W laid ps)
    (h0 : ("chalkline/formula.arity", Rows.laid_chalkline_formula_arity) ∈ laid) (h1 : ("chalkline/formula.signs", Rows.laid_chalkline_formula_signs) ∈ laid)
    (h3 : ("chalkline/formula.reserved", Rows.laid_chalkline_formula_reserved) ∈ laid)
    (ha : ("chalkline/types.asks", Rows.laid_chalkline_types_asks) ∈ laid) (hk : ("chalkline/types.takes", Rows.laid_chalkline_types_takes) ∈ laid) :
    ∃ M : Maps, M.Ok ∧ GR (GG M) (cW W) W := by
  obtain ⟨ar, si, re, hok, hg⟩ := maps_core h h0 h1 h3 ha hk
  refine ⟨⟨ar, si, duE, re, true⟩, hok _ _ fun _ => Iff.rfl, fun g cs hgc => hg g cs ?_⟩
  match g, hgc with
  | 0, hgc => exact hgc
  | 1, hgc => exact hgc
  | 2, hgc => exact hgc
  | 3, hgc => exact hgc
  | 4, hgc => cases hgc
  | 5, hgc => exact hgc
  | _ + 6, hgc => cases hgc
/-- With the duals. -/
theorem maps_ofD {W : World} {laid : List (String × DataW Unit)} {ps : List MemPlace} (h : DataW.LaidVars Tryd.prog W laid ps)
    (h0 : ("chalkline/formula.arity", Rows.laid_chalkline_formula_arity) ∈ laid) (h1 : ("chalkline/formula.signs", Rows.laid_chalkline_formula_signs) ∈ laid)
    (h3 : ("chalkline/formula.reserved", Rows.laid_chalkline_formula_reserved) ∈ laid)
    (ha : ("chalkline/types.asks", Rows.laid_chalkline_types_asks) ∈ laid) (hk : ("chalkline/types.takes", Rows.laid_chalkline_types_takes) ∈ laid) (h2 : ("chalkline/formula.duals", Rows.laid_chalkline_formula_duals) ∈ laid) :
    ∃ M : Maps, M.Ok ∧ GR (GG M.on) (cW W) W := by
  obtain ⟨ar, si, re, hok, hg⟩ := maps_core h h0 h1 h3 ha hk
  obtain ⟨g, t, cs, fuel, p, a1, a2, a3, a4⟩ := laid_mem h h2
  obtain rfl := Option.some.inj ((show Tryd.prog.globalNamed "chalkline/formula.duals" = some 4 by kernel_rfl).symm.trans a1)
  obtain rfl := Option.some.inj ((show (Tryd.prog.globals[4]?).map (·.type) = some 92 by kernel_rfl).symm.trans a2)
  obtain ⟨du, v2, e2, r2, m2⟩ := trodMap u92 (key_int Tryd.underlying3) (el_int Tryd.underlying3) a4
  have c4 := (World.var?_cell a1 a3 0).trans (arr_one e2)
  refine ⟨⟨ar, si, du, re, false⟩, hok _ _ m2, fun g cs hgc => ?_⟩
  match g, hgc with
  | 0, hgc => exact hg 0 cs hgc
  | 1, hgc => exact hg 1 cs hgc
  | 2, hgc => exact hg 2 cs hgc
  | 3, hgc => exact hg 3 cs hgc
  | 4, hgc =>
    obtain rfl := (Option.some.inj hgc).symm
    intro j x hx
    match j, hx with
    | 0, hx =>
      simp only [List.getElem?_cons_zero, Option.some.injEq] at hx
      subst hx
      exact ⟨⟨v2, c4⟩, v2, c4, r2⟩
  | 5, hgc => exact hg 5 cs hgc
  | _ + 6, hgc => cases hgc
end Go.Fo
/- The contract in the claim's form. -/
namespace Go.Fo
open Go Go.Sx Go.Proofs
open Go.ChangeShapes Go.WideShapes Go.RowKit
open Go.Proofs.YtnnkldnhlebmmaaDoor (Rows.uptoBulk Rows.uptoBulkAll Rows.uptoSmall Rows.laid_chalkline_formula_arity Rows.laid_chalkline_formula_signs Rows.laid_chalkline_formula_duals Rows.laid_chalkline_formula_reserved Rows.laid_chalkline_types_asks Rows.laid_chalkline_types_takes)
set_option maxRecDepth 100000

theorem laidOut : laidOutB Tryd.prog = true := by kernel_rfl

section
variable {H : Type} {enc : TypeId × Value → H} {W : World}

theorem trodAll_below {W' : World} (hb : Below W.heap.size W W') : ∀ {ts : List TypeId} {vs : List Value} {ds : List (DataW H)} {ps : List MemPlace}, (∀ t ∈ ts, Tryd.prog.readableRec t = true ∧ t < Tryd.prog.types.size) →
    DataW.TrodAll enc Tryd.prog W 0 (fun _ => true) true ts vs ds ps → (∀ x ∈ ps, x.block < W.heap.size) → DataW.TrodAll enc Tryd.prog W' 0 (fun b => decide (b < W.heap.size)) true ts vs ds ps := by
  intro ts
  induction ts with
  | nil =>
    intro vs ds ps _ h _
    cases vs <;> cases ds <;> simp [DataW.TrodAll] at h ⊢
    exact h
  | cons t ts ih =>
    intro vs ds ps ht h hlt
    obtain ⟨v, vs', d, ds', p, q, rfl, rfl, rfl, h1, h2⟩ := trodAll_cons h
    exact trodAll_cons_mk (Below.trod laidOut (ht t (by simp)).1 (ht t (by simp)).2 h1 hb fun x hx => hlt x (by simp [hx])) (ih (fun t' h' => ht t' (by simp [h'])) h2 fun x hx => hlt x (by simp [hx]))

/-- What a walk gives the claim's form. -/
theorem contractC {G : Nat → Option (List D)} {f : FuncId} {fn : Func} {s : ChangeSpec} {args : Array Value} {ds gs : List (DataW H)} {before : List MemPlace} {xs : List D} (hr : fn.resultTypes = #[4]) (hv : s.vars = [])
    (hfn : ∀ H (ds' : List (DataW H)), ds'.length = ds.length → (s.fn H ds').results = [.lit (.bool true)] ∧ (s.fn H ds').args = ds' ∧ (s.fn H ds').vars = []) (hts : ∀ t ∈ fn.params.toList, Tryd.prog.readableRec t = true ∧ t < Tryd.prog.types.size)
    (hW : DataW.Whole enc Tryd.prog fn.params.toList s.vars false W args.toList ds gs before)
    (hx : All2 (RV (cW W).I (cW W).J W) args.toList xs) (hG : GR G (cW W) W) (h : PFn Tryd.prog G f xs (· = [.bool true])) :
    Calls Tryd.prog f args W fun e W' => ∃ v, e = .returned v ∧ s.post enc Tryd.prog fn false true false false W args v W' := by
  have hc := h.run (cW W) W args.toList rfl (hrW W) hG hx
  rw [Array.toArray_toList] at hc
  refine hc.mono fun e W' hq => ?_
  obtain ⟨v, rs, c', rfl, rfl, hρ, he, hR, hres⟩ := hq
  have hvb : v = .bool true := by
    have h1 : RV c'.I c'.J W' v (.bool true) := hres
    simp only [RV] at h1
    cases h1; rfl
  subst hvb
  have hb : Below W.heap.size W W' := ⟨he.os, he.tape, he.output, he.size, fun k hk => he.frame k hk fun l k' hh => by simp [cW] at hh⟩
  have hlt := hW.lt
  have hW' := hW
  obtain ⟨p, q, hA, hV, rfl, hfz, hnd⟩ := hW
  rw [hv] at hV
  obtain ⟨rfl, rfl⟩ := trodVars_none hV
  obtain ⟨e1, e2, e3⟩ := hfn H (ds ++ []) (by simp)
  refine ⟨_, rfl, ds, [], p ++ [], [], p, [], hW', ?_, ?_, ?_, hb.frame _, fun h => by cases h⟩
  · rw [e1, hr]
    exact trodAll_mk1 (shut_bool u4 _)
  · rw [e2, List.append_nil]
    exact trodAll_below hb hts hA fun x hx => hlt x (by simp [hx])
  · rw [e3, hv]; rfl

theorem contractG {f : FuncId} {fn : Func} {s : ChangeSpec} {args : Array Value} {ds gs : List (DataW H)} {before : List MemPlace} {laid : List (String × DataW Unit)} {xs : List D} (hr : fn.resultTypes = #[4]) (hv : s.vars = [])
    (hfn : ∀ H (ds' : List (DataW H)), ds'.length = ds.length → (s.fn H ds').results = [.lit (.bool true)] ∧ (s.fn H ds').args = ds' ∧ (s.fn H ds').vars = []) (hts : ∀ t ∈ fn.params.toList, Tryd.prog.readableRec t = true ∧ t < Tryd.prog.types.size)
    (hW : DataW.Whole enc Tryd.prog fn.params.toList s.vars false W args.toList ds gs before)
    (hh : (laid.all fun x => x.2.handleName?.isNone) = true) (hL : laidMetH Tryd.prog laid W)
    (m0 : ("chalkline/formula.arity", Rows.laid_chalkline_formula_arity) ∈ laid) (m1 : ("chalkline/formula.signs", Rows.laid_chalkline_formula_signs) ∈ laid)
    (m3 : ("chalkline/formula.reserved", Rows.laid_chalkline_formula_reserved) ∈ laid) (ma : ("chalkline/types.asks", Rows.laid_chalkline_types_asks) ∈ laid) (mk : ("chalkline/types.takes", Rows.laid_chalkline_types_takes) ∈ laid)
    (hx : All2 (RV (cW W).I (cW W).J W) args.toList xs) (h : ∀ M : Maps, M.Ok → PFn Tryd.prog (GG M) f xs (· = [.bool true])) :
    Calls Tryd.prog f args W fun e W' => ∃ v, e = .returned v ∧ s.post enc Tryd.prog fn false true false false W args v W' := by
  rw [MakeChecks.laidMetH_plain _ _ _ hh] at hL
  obtain ⟨ps, hL, _⟩ := hL
  obtain ⟨M, hM, hG⟩ := maps_of hL m0 m1 m3 ma mk
  exact contractC hr hv hfn hts hW hx hG (h M hM)
theorem contractGD {f : FuncId} {fn : Func} {s : ChangeSpec} {args : Array Value} {ds gs : List (DataW H)} {before : List MemPlace} {laid : List (String × DataW Unit)} {xs : List D} (hr : fn.resultTypes = #[4]) (hv : s.vars = [])
    (hfn : ∀ H (ds' : List (DataW H)), ds'.length = ds.length → (s.fn H ds').results = [.lit (.bool true)] ∧ (s.fn H ds').args = ds' ∧ (s.fn H ds').vars = []) (hts : ∀ t ∈ fn.params.toList, Tryd.prog.readableRec t = true ∧ t < Tryd.prog.types.size)
    (hW : DataW.Whole enc Tryd.prog fn.params.toList s.vars false W args.toList ds gs before)
    (hh : (laid.all fun x => x.2.handleName?.isNone) = true) (hL : laidMetH Tryd.prog laid W)
    (m0 : ("chalkline/formula.arity", Rows.laid_chalkline_formula_arity) ∈ laid) (m1 : ("chalkline/formula.signs", Rows.laid_chalkline_formula_signs) ∈ laid)
    (m3 : ("chalkline/formula.reserved", Rows.laid_chalkline_formula_reserved) ∈ laid) (ma : ("chalkline/types.asks", Rows.laid_chalkline_types_asks) ∈ laid) (mk : ("chalkline/types.takes", Rows.laid_chalkline_types_takes) ∈ laid)
    (m2 : ("chalkline/formula.duals", Rows.laid_chalkline_formula_duals) ∈ laid)
    (hx : All2 (RV (cW W).I (cW W).J W) args.toList xs) (h : ∀ M : Maps, M.Ok → PFn Tryd.prog (GG M.on) f xs (· = [.bool true])) :
    Calls Tryd.prog f args W fun e W' => ∃ v, e = .returned v ∧ s.post enc Tryd.prog fn false true false false W args v W' := by
  rw [MakeChecks.laidMetH_plain _ _ _ hh] at hL
  obtain ⟨ps, hL, _⟩ := hL
  obtain ⟨M, hM, hG⟩ := maps_ofD hL m0 m1 m3 ma mk m2
  exact contractC hr hv hfn hts hW hx hG (h M hM)

theorem small_of {ds : List (DataW H)} (h : Rows.uptoSmall H ds = true) : Rows.uptoBulkAll ds ≤ 1048576 := of_decide_eq_true h

/-- An argument that is a formula. -/
theorem arg26 {base : Nat} {v : Value} {d : DataW H} {p : List MemPlace} (hok : Value.okWide Tryd.prog W .any base 33 v) (h : DataW.Trod enc Tryd.prog W 0 (fun _ => true) true  33 v d p) :
    ∃ f : Fm, RV (cW W).I (cW W).J W v f.d ∧ f.wt ≤ Rows.uptoBulk d := by
  obtain ⟨cs, rfl, _⟩ := okWide_struct Tryd.underlying33 hok
  obtain ⟨fuel, hf⟩ := h
  obtain ⟨f, h1, h2⟩ := trodFm _ _ _ hf
  refine ⟨f, ?_, h2⟩
  rw [f.d_eq] at h1 ⊢
  exact ⟨cs.toList, by simp, by simpa [Value.cells, D.cells] using h1⟩
end
end Go.Fo
/- The witness world. -/
namespace Go.Fo
open Go Go.Sx Go.Proofs
open Go.ChangeShapes Go.WideShapes Go.ChangeAt Go.RowKit
open Go.Proofs.YtnnkldnhlebmmaaDoor
set_option maxRecDepth 100000

def zeroFm : Value := .agg #[.int .i64 0, .string ⟨#[]⟩, .int .i64 0, .slice none 0 0, .slice none 0 0, .slice none 0 0]

def litV : DataW Unit → Value
  | .lit (.int k n) => .int k n
  | _ => .bool false
def partsV : DataW Unit → Array Value
  | .agg l => (l.map litV).toArray
  | _ => #[]
/-- The world that the program's own start lays, and Go's pinned table. -/
noncomputable def laidWorld (os : Os) : World :=
  { World.doorLaid Tryd.prog 400 os with heap := (World.doorLaid Tryd.prog 400 os).heap.modify 6 fun
      | .cells _ t frozen => .cells (partsV Rows.laid_unicode_utf8_first) t frozen
      | o => o }

theorem laid_met (os : Os) (args : Array Value) : laidMet Tryd.prog Rows.typesTermsUptoRow.laid ((laidWorld os).forCall (fun _ _ => 0) ⟨#[], args, []⟩).memory :=
  laidMet_of_run' 8 (by kernel_rfl) (by kernel_rfl)
theorem laid_metD (os : Os) (args : Array Value) : laidMet Tryd.prog Rows.typesNnfUptoRow.laid ((laidWorld os).forCall (fun _ _ => 0) ⟨#[], args, []⟩).memory :=
  laidMet_of_run' 8 (by kernel_rfl) (by kernel_rfl)
end Go.Fo
/- The witness world's shape. -/
namespace Go.Fo
open Go Go.Sx Go.Proofs
open Go.ChangeShapes Go.WideShapes Go.ChangeAt Go.RowKit
open Go.Proofs.YtnnkldnhlebmmaaDoor
set_option maxRecDepth 100000

theorem own : ownKnob Tryd.prog.godebug = none := by kernel_rfl
theorem laid_vars (os : Os) (args : Array Value) : ((laidWorld os).forCall (fun _ _ => 0) ⟨#[], args, []⟩).variablesRefB Tryd.prog = true := by kernel_rfl
theorem laid_rest (os : Os) (args : Array Value) : (((laidWorld os).forCall (fun _ _ => 0) ⟨#[], args, []⟩).heap.toList.drop Tryd.prog.globals.size).take ((begin Tryd.prog (fun _ _ => 0) default).world.heap.size - Tryd.prog.globals.size) =
      (begin Tryd.prog (fun _ _ => 0) default).world.heap.toList.drop Tryd.prog.globals.size := by kernel_rfl
def zeroD {H : Type} : DataW H := .agg [.lit (.int .i64 0), .lit (.string []), .lit (.int .i64 0), .nil, .nil, .nil]
end Go.Fo
