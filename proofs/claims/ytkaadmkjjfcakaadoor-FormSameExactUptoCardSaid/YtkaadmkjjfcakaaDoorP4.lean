/- Joined texts: the walk by computed conditions, the contracts of the functions, the plain laws. -/
import Derived.Test.YtkaadmkjjfcakaaDoorP3
import Derived.Test.YtkaadmkjjfcakaaDoorRows
import Derived.ChangeArms
import Derived.Deep.Slices
import Derived.WideKeyElems2
import Derived.WideKeyArgs2
import Derived.MakeChecks
import Derived.FnData
import Derived.Carry
import Derived.OpenShut
import Derived.WideShapes
import Derived.RowKit
import Derived.ChangeMaps5
import Derived.LaidMore
import Derived.Deep.DeepHandedRow
import Derived.Deep.DeepWitnessRowRef
import Derived.Test.YtkaadmkjjfcakaaDoorCards
import Derived.Test.YtkaadmkjjfcakaaDoorTie
import Derived.ProofKit
set_option linter.unusedVariables false
set_option linter.unusedSimpArgs false
/- Free variables: the program's closure. -/
namespace Go.Fo
open Go Go.Sx Go.Proofs
set_option maxRecDepth 100000
set_option maxHeartbeats 0

abbrev Nm := List UInt8
def addT (bnd : List Nm) (o : List Nm) (t : Tm) : List Nm := if t.kind != 1 && !bnd.contains t.name && !o.contains t.name then o ++ [t.name] else o
theorem addT_pos {bnd o : List Nm} {t : Tm} (h : (t.kind != 1 && !bnd.contains t.name && !o.contains t.name) = true) : addT bnd o t = o ++ [t.name] := if_pos h
theorem addT_neg {bnd o : List Nm} {t : Tm} (h : (t.kind != 1 && !bnd.contains t.name && !o.contains t.name) = false) : addT bnd o t = o := if_neg (by rw [h]; simp)
mutual
def Fm.look (bnd out : List Nm) : Fm → List Nm
  | .mk _ _ _ ts bs l => Fm.looks (bs.map (·.name) ++ bnd) (ts.foldl (addT (bs.map (·.name) ++ bnd)) out) l
def Fm.looks (bnd out : List Nm) : List Fm → List Nm
  | [] => out
  | x :: r => Fm.looks bnd (x.look bnd out) r
end
theorem Fm.look_eq (bnd out : List Nm) (f : Fm) : f.look bnd out = Fm.looks (f.bs.map (·.name) ++ bnd) (f.ts.foldl (addT (f.bs.map (·.name) ++ bnd)) out) f.l := by cases f; rw [Fm.look]; rfl
theorem looks_fold (bnd : List Nm) (l : List Fm) : ∀ out, Fm.looks bnd out l = l.foldl (fun o x => x.look bnd o) out := by
  induction l with
  | nil => intro out; rw [Fm.looks]; rfl
  | cons x r ih => intro out; rw [Fm.looks, ih]; rfl

def cntE (es : List (D × D)) (s : Nm) : Int := D.toInt (Option.getD (lookD es (.str s)) (.int .i64 0))
structure EsOk (es : List (D × D)) (bnd : List Nm) : Prop where
  all : (es.all fun kv => sameKind (.str []) kv.1 && Sh.ok (.int .i64) kv.2) = true
  cnt : ∀ s, cntE es s = (bnd.count s : Int)

theorem look_upd (k k' : Nm) (x : D) : ∀ (es : List (D × D)), lookD (updD es (.str k) x) (.str k') = if k' = k then some x else lookD es (.str k')
  | [] => by
    simp only [updD, lookD, List.find?]
    by_cases h : k' = k
    · subst h; simp [beqD]
    · have h1 : (k' == k) = false := by simpa using h
      simp [beqD, h, h1]
  | kv :: r => by
    have ih := look_upd k k' x r
    simp only [updD]
    by_cases hb : beqD (.str k) kv.1 = true
    · rw [if_pos hb]
      by_cases h : k' = k
      · subst h; simp [lookD, beqD]
      · simp only [lookD, List.find?, if_neg h]
        have h1 : beqD (.str k') (.str k) = false := by simp [beqD, h]
        have h2 : beqD (.str k') kv.1 = false := by
          obtain ⟨a, b⟩ := kv
          cases a <;> simp [beqD] at hb ⊢
          subst hb; exact h
        rw [h1, h2]
    · rw [if_neg hb]
      have e : ∀ l : List (D × D), lookD (kv :: l) (.str k') = if beqD (.str k') kv.1 = true then some kv.2 else lookD l (.str k') := fun l => by
        simp only [lookD, List.find?]
        cases beqD (.str k') kv.1 <;> rfl
      rw [e, e, ih]
      by_cases h : k' = k
      · subst h; rw [if_neg hb]; simp
      · simp only [if_neg h]
theorem upd_all {Q : D × D → Bool} (k x : D) : ∀ (es : List (D × D)), es.all Q = true → Q (k, x) = true → (updD es k x).all Q = true
  | [], _, h => by simp [updD, h]
  | kv :: r, h, h2 => by
    simp only [List.all_cons, Bool.and_eq_true] at h
    simp only [updD]
    split
    · simp [h2, h.2]
    · simp [h.1, upd_all k x r h.2 h2]

theorem EsOk.set {es : List (D × D)} {b1 b2 : List Nm} {s : Nm} {v : Int} (he : EsOk es b1) (hc : ∀ s', (b2.count s' : Int) = if s' = s then v else (b1.count s' : Int)) : EsOk (updD es (.str s) (.int .i64 v)) b2 := by
  refine ⟨upd_all _ _ es he.all rfl, fun s' => ?_⟩
  unfold cntE
  rw [look_upd, hc]
  split
  · rfl
  · exact he.cnt s'

theorem addT_len (bnd : List Nm) (ts : List Tm) : ∀ out, (ts.foldl (addT bnd) out).length ≤ out.length + ts.length := by
  induction ts with
  | nil => intro out; simp
  | cons t r ih =>
    intro out
    have := ih (addT bnd out t)
    have h2 : (addT bnd out t).length ≤ out.length + 1 := by unfold addT; split <;> simp
    simp only [List.foldl_cons, List.length_cons]; omega
theorem Fm.look_len (f : Fm) : ∀ bnd out, (f.look bnd out).length ≤ out.length + f.wt := by
  induction f using Fm.induct with
  | h f ih =>
  intro bnd out
  rw [f.look_eq, looks_fold]
  have h1 := addT_len (f.bs.map (·.name) ++ bnd) f.ts out
  have h2 : ∀ (l : List Fm) (o : List Nm), (∀ x ∈ l, x ∈ f.l) → (l.foldl (fun o x => x.look (f.bs.map (·.name) ++ bnd) o) o).length ≤ o.length + Fm.wts l := by
    intro l
    induction l with
    | nil => intro o _; simp
    | cons x r ihr =>
      intro o hx
      have := ihr (x.look (f.bs.map (·.name) ++ bnd) o) (fun y hy => hx y (by simp [hy]))
      have := ih x (hx x (by simp)) (f.bs.map (·.name) ++ bnd) o
      simp only [List.foldl_cons, Fm.wts]; omega
  have := h2 f.l (f.ts.foldl (addT (f.bs.map (·.name) ++ bnd)) out) (fun _ h => h)
  have := f.wt_eq
  omega
theorem fold_look_len (bnd : List Nm) (l : List Fm) : ∀ out : List Nm, (l.foldl (fun o x => x.look bnd o) out).length ≤ out.length + Fm.wts l := by
  induction l with
  | nil => intro out; simp
  | cons x r ih =>
    intro out
    have := ih (x.look bnd out)
    have := x.look_len bnd out
    simp only [List.foldl_cons, Fm.wts]; omega
theorem wtsTake (l : List Fm) (i : Nat) : Fm.wts (l.take i) ≤ Fm.wts l := by
  induction l generalizing i with
  | nil => simp
  | cons y r ih =>
    cases i with
    | zero => simp [Fm.wts]
    | succ i => simp only [List.take_succ_cons, Fm.wts]; have := ih i; omega
theorem wtsTakeSucc {l : List Fm} {i : Nat} {z : Fm} (h : l[i]? = some z) : Fm.wts (l.take (i + 1)) = Fm.wts (l.take i) + z.wt := by
  induction l generalizing i with
  | nil => simp at h
  | cons y r ih =>
    cases i with
    | zero => simp at h; subst h; simp [Fm.wts]
    | succ i => simp at h; simp only [List.take_succ_cons, Fm.wts]; rw [ih h]; omega

noncomputable def hF (f0 : Fm) (es : List (D × D)) (out : List Nm) : List Box :=
  [.cells 26 (fmAVs f0), .map es, .cells 50 [.map 1], .cells 32 [.vec 5 (out.map .str)], .cells 51 [.clo 33 [] [.ptr 2 0, .ptr 3 0, .ptr 4 0]], .vec out.length 1]

section
variable {G : Nat → Option (List D)}
theorem fn33 (f0 f : Fm) (es : List (D × D)) (bnd out : List Nm) (he : EsOk es bnd) (hb : bnd.length + f.wt < 1099511627776) (ho : out.length + f.wt < 1099511627776) : PCall Tryd.prog G 33 [.d f.d, .ptr 2 0, .ptr 3 0, .ptr 4 0] (hF f0 es out) (fun rs H' => rs = [] ∧ ∃ es', EsOk es' bnd ∧ H' = hF f0 es' (f.look bnd out)) := by
  induction f using Fm.induct generalizing es bnd out with
  | h f ih =>
  rw [d_cells]
  refine PCall.walk (fn := Tryd.f33) (code := bodyOf Tryd.f33) mixed
    (LL [(2, loopW (α := Nat × List (D × D)) Tryd.prog G L0 6 (loopN (bodyOf Tryd.f33) 0) [1, 2, 3, 4, 14, 15] (fun x => x.1 ≤ f.bs.length ∧ EsOk x.2 ((f.bs.take x.1).map (·.name) ++ bnd)) (fun x => f.bs.length - x.1)
        (fun x => [(16, .d (.int .i64 x.1))]) (fun _ x => hF f0 x.2 out ++ [.cells 26 (fmAVs f)])),
      (7, loopW (α := Nat × List (D × D)) Tryd.prog G L0 6 (loopN (bodyOf Tryd.f33) 1) [1, 2, 3, 4, 27, 28] (fun x => x.1 ≤ f.ts.length ∧ EsOk x.2 (f.bs.map (·.name) ++ bnd)) (fun x => f.ts.length - x.1)
        (fun x => [(29, .d (.int .i64 x.1))]) (fun _ x => hF f0 x.2 ((f.ts.take x.1).foldl (addT (f.bs.map (·.name) ++ bnd)) out) ++ [.cells 26 (fmAVs f)])),
      (13, loopW (α := Nat × List (D × D)) Tryd.prog G L0 6 (loopN (bodyOf Tryd.f33) 2) [1, 2, 3, 4, 57, 58] (fun x => x.1 ≤ f.l.length ∧ EsOk x.2 (f.bs.map (·.name) ++ bnd)) (fun x => f.l.length - x.1)
        (fun x => [(59, .d (.int .i64 x.1))]) (fun _ x => hF f0 x.2 ((f.l.take x.1).foldl (fun o y => y.look (f.bs.map (·.name) ++ bnd) o) (f.ts.foldl (addT (f.bs.map (·.name) ++ bnd)) out)) ++ [.cells 26 (fmAVs f)])),
      (18, loopW (α := Nat × List (D × D)) Tryd.prog G L0 6 (loopN (bodyOf Tryd.f33) 3) [1, 2, 3, 4, 68, 69] (fun x => x.1 ≤ f.bs.length ∧ EsOk x.2 ((f.bs.drop x.1).map (·.name) ++ bnd)) (fun x => f.bs.length - x.1)
        (fun x => [(70, .d (.int .i64 x.1))]) (fun _ x => hF f0 x.2 (f.look bnd out) ++ [.cells 26 (fmAVs f)]))])
    Tryd.func33 (by kernel_rfl) rfl ⟨_, _, rfl, es, he, rfl⟩
    (LoopsOk.four (b1 := loopN (bodyOf Tryd.f33) 0) (b2 := loopN (bodyOf Tryd.f33) 1) (b3 := loopN (bodyOf Tryd.f33) 2) (b4 := loopN (bodyOf Tryd.f33) 3) (by kernel_rfl) (by kernel_rfl) (by kernel_rfl) (by kernel_rfl) (by kernel_rfl) (loopW_sound mixed (ok0 (by kernel_rfl))) (loopW_sound mixed (ok0 (by kernel_rfl))) (loopW_sound mixed (ok0 (by kernel_rfl))) (loopW_sound mixed (ok0 (by kernel_rfl)))) ?_
  apply @of_vc _ (
    ∃ (x0 : Nat × List (D × D)), (Prod.fst x0 ≤ List.length (Fm.bs f) ∧ EsOk (Prod.snd x0) (List.map (fun (x : Bd) => Bd.name x) (List.take (Prod.fst x0) (Fm.bs f)) ++ bnd)) ∧ ((AV.ptr (2 : Nat) (0 : Nat) = AV.ptr (2 : Nat) (0 : Nat) ∧ AV.ptr (3 : Nat) (0 : Nat) = AV.ptr (3 : Nat) (0 : Nat) ∧ AV.ptr (4 : Nat) (0 : Nat) = AV.ptr (4 : Nat) (0 : Nat) ∧ AV.ptr (6 : Nat) (0 : Nat) = AV.ptr (6 : Nat) (0 : Nat) ∧ List.map Bd.d (Fm.bs f) = List.map Bd.d (Fm.bs f) ∧ (↑(List.length (List.map Bd.d (Fm.bs f))) : Int) = (↑(List.length (List.map Bd.d (Fm.bs f))) : Int) ∧ (0 : Int) = (↑(Prod.fst x0) : Int) ∧ True) ∧ (Fm.kind f0 = Fm.kind f0 ∧ Fm.name f0 = Fm.name f0 ∧ Fm.n f0 = Fm.n f0 ∧ List.map Tm.d (Fm.ts f0) = List.map Tm.d (Fm.ts f0) ∧ List.map Bd.d (Fm.bs f0) = List.map Bd.d (Fm.bs f0) ∧ List.map Fm.d (Fm.l f0) = List.map Fm.d (Fm.l f0) ∧ True) ∧ es = Prod.snd x0 ∧ (AV.map (1 : Nat) = AV.map (1 : Nat) ∧ True) ∧ (List.map D.str out = List.map D.str out ∧ True) ∧ (AV.clo (33 : Nat) [] [AV.ptr (2 : Nat) (0 : Nat), AV.ptr (3 : Nat) (0 : Nat), AV.ptr (4 : Nat) (0 : Nat)] = AV.clo (33 : Nat) [] [AV.ptr (2 : Nat) (0 : Nat), AV.ptr (3 : Nat) (0 : Nat), AV.ptr (4 : Nat) (0 : Nat)] ∧ True) ∧ List.length out = List.length out ∧ (Fm.kind f = Fm.kind f ∧ Fm.name f = Fm.name f ∧ Fm.n f = Fm.n f ∧ List.map Tm.d (Fm.ts f) = List.map Tm.d (Fm.ts f) ∧ List.map Bd.d (Fm.bs f) = List.map Bd.d (Fm.bs f) ∧ List.map Fm.d (Fm.l f) = List.map Fm.d (Fm.l f) ∧ True) ∧ True) ∧ ∀ (x : Nat × List (D × D)), Prod.fst x ≤ List.length (Fm.bs f) ∧ EsOk (Prod.snd x) (List.map (fun (x : Bd) => Bd.name x) (List.take (Prod.fst x) (Fm.bs f)) ++ bnd) → (decide ((↑(Prod.fst x) : Int) < (↑(List.length (List.map Bd.d (Fm.bs f))) : Int)) = true → ((0 : Int) ≤ (↑(Prod.fst x) : Int) ∧ (List.map Bd.d (Fm.bs f))[Int.toNat (↑(Prod.fst x) : Int)]? = some (aggAt [Sh.str, Sh.int IntKind.i64] (List.map Bd.d (Fm.bs f)) (Int.toNat (↑(Prod.fst x) : Int)))) ∧ (List.all (Prod.snd x) fun (kv : D × D) => sameKind ((fun (x_1 : Sh × Nat) => match x_1 with | (sh, j) => Sh.norm sh (Option.getD (cellAt (List.map Bd.d (Fm.bs f)) (Int.toNat (↑(Prod.fst x) : Int)) j) default)) (Sh.str, (0 : Nat))) (Prod.fst kv) && Sh.ok (Sh.int IntKind.i64) (Prod.snd kv)) = true ∧ (List.all (Prod.snd x) fun (kv : D × D) => sameKind ((fun (x_1 : Sh × Nat) => match x_1 with | (sh, j) => Sh.norm sh (Option.getD (cellAt (List.map Bd.d (Fm.bs f)) (Int.toNat (↑(Prod.fst x) : Int)) j) default)) (Sh.str, (0 : Nat))) (Prod.fst kv)) = true ∧ ∃ (y : Nat × List (D × D)), (Prod.fst y ≤ List.length (Fm.bs f) ∧ EsOk (Prod.snd y) (List.map (fun (x : Bd) => Bd.name x) (List.take (Prod.fst y) (Fm.bs f)) ++ bnd)) ∧ List.length (Fm.bs f) - Prod.fst y < List.length (Fm.bs f) - Prod.fst x ∧ (AV.ptr (2 : Nat) (0 : Nat) = AV.ptr (2 : Nat) (0 : Nat) ∧ AV.ptr (3 : Nat) (0 : Nat) = AV.ptr (3 : Nat) (0 : Nat) ∧ AV.ptr (4 : Nat) (0 : Nat) = AV.ptr (4 : Nat) (0 : Nat) ∧ AV.ptr (6 : Nat) (0 : Nat) = AV.ptr (6 : Nat) (0 : Nat) ∧ List.map Bd.d (Fm.bs f) = List.map Bd.d (Fm.bs f) ∧ (↑(List.length (List.map Bd.d (Fm.bs f))) : Int) = (↑(List.length (List.map Bd.d (Fm.bs f))) : Int) ∧ IntKind.wrap IntKind.i64 ((↑(Prod.fst x) : Int) + (1 : Int)) = (↑(Prod.fst y) : Int) ∧ True) ∧ (Fm.kind f0 = Fm.kind f0 ∧ Fm.name f0 = Fm.name f0 ∧ Fm.n f0 = Fm.n f0 ∧ List.map Tm.d (Fm.ts f0) = List.map Tm.d (Fm.ts f0) ∧ List.map Bd.d (Fm.bs f0) = List.map Bd.d (Fm.bs f0) ∧ List.map Fm.d (Fm.l f0) = List.map Fm.d (Fm.l f0) ∧ True) ∧ updD (Prod.snd x) ((fun (x_1 : Sh × Nat) => match x_1 with | (sh, j) => Sh.norm sh (Option.getD (cellAt (List.map Bd.d (Fm.bs f)) (Int.toNat (↑(Prod.fst x) : Int)) j) default)) (Sh.str, (0 : Nat))) (Prod.fst (D.int IntKind.i64 (IntKind.wrap IntKind.i64 (D.toInt (Option.getD (lookD (Prod.snd x) ((fun (x_1 : Sh × Nat) => match x_1 with | (sh, j) => Sh.norm sh (Option.getD (cellAt (List.map Bd.d (Fm.bs f)) (Int.toNat (↑(Prod.fst x) : Int)) j) default)) (Sh.str, (0 : Nat)))) (D.int IntKind.i64 (0 : Int))) + (1 : Int))), True)) = Prod.snd y ∧ (AV.map (1 : Nat) = AV.map (1 : Nat) ∧ True) ∧ (List.map D.str out = List.map D.str out ∧ True) ∧ (AV.clo (33 : Nat) [] [AV.ptr (2 : Nat) (0 : Nat), AV.ptr (3 : Nat) (0 : Nat), AV.ptr (4 : Nat) (0 : Nat)] = AV.clo (33 : Nat) [] [AV.ptr (2 : Nat) (0 : Nat), AV.ptr (3 : Nat) (0 : Nat), AV.ptr (4 : Nat) (0 : Nat)] ∧ True) ∧ List.length out = List.length out ∧ (Fm.kind f = Fm.kind f ∧ Fm.name f = Fm.name f ∧ Fm.n f = Fm.n f ∧ List.map Tm.d (Fm.ts f) = List.map Tm.d (Fm.ts f) ∧ List.map Bd.d (Fm.bs f) = List.map Bd.d (Fm.bs f) ∧ List.map Fm.d (Fm.l f) = List.map Fm.d (Fm.l f) ∧ True) ∧ True) ∧ (decide ((↑(Prod.fst x) : Int) < (↑(List.length (List.map Bd.d (Fm.bs f))) : Int)) = false → ∃ (x0 : Nat × List (D × D)), (Prod.fst x0 ≤ List.length (Fm.ts f) ∧ EsOk (Prod.snd x0) (List.map (fun (x : Bd) => Bd.name x) (Fm.bs f) ++ bnd)) ∧ ((AV.ptr (2 : Nat) (0 : Nat) = AV.ptr (2 : Nat) (0 : Nat) ∧ AV.ptr (3 : Nat) (0 : Nat) = AV.ptr (3 : Nat) (0 : Nat) ∧ AV.ptr (4 : Nat) (0 : Nat) = AV.ptr (4 : Nat) (0 : Nat) ∧ AV.ptr (6 : Nat) (0 : Nat) = AV.ptr (6 : Nat) (0 : Nat) ∧ List.map Tm.d (Fm.ts f) = List.map Tm.d (Fm.ts f) ∧ (↑(List.length (List.map Tm.d (Fm.ts f))) : Int) = (↑(List.length (List.map Tm.d (Fm.ts f))) : Int) ∧ (0 : Int) = (↑(Prod.fst x0) : Int) ∧ True) ∧ (Fm.kind f0 = Fm.kind f0 ∧ Fm.name f0 = Fm.name f0 ∧ Fm.n f0 = Fm.n f0 ∧ List.map Tm.d (Fm.ts f0) = List.map Tm.d (Fm.ts f0) ∧ List.map Bd.d (Fm.bs f0) = List.map Bd.d (Fm.bs f0) ∧ List.map Fm.d (Fm.l f0) = List.map Fm.d (Fm.l f0) ∧ True) ∧ Prod.snd x = Prod.snd x0 ∧ (AV.map (1 : Nat) = AV.map (1 : Nat) ∧ True) ∧ (List.map D.str out = List.map D.str (List.foldl (addT (List.map (fun (x : Bd) => Bd.name x) (Fm.bs f) ++ bnd)) out (List.take (Prod.fst x0) (Fm.ts f))) ∧ True) ∧ (AV.clo (33 : Nat) [] [AV.ptr (2 : Nat) (0 : Nat), AV.ptr (3 : Nat) (0 : Nat), AV.ptr (4 : Nat) (0 : Nat)] = AV.clo (33 : Nat) [] [AV.ptr (2 : Nat) (0 : Nat), AV.ptr (3 : Nat) (0 : Nat), AV.ptr (4 : Nat) (0 : Nat)] ∧ True) ∧ List.length out = List.length (List.foldl (addT (List.map (fun (x : Bd) => Bd.name x) (Fm.bs f) ++ bnd)) out (List.take (Prod.fst x0) (Fm.ts f))) ∧ (Fm.kind f = Fm.kind f ∧ Fm.name f = Fm.name f ∧ Fm.n f = Fm.n f ∧ List.map Tm.d (Fm.ts f) = List.map Tm.d (Fm.ts f) ∧ List.map Bd.d (Fm.bs f) = List.map Bd.d (Fm.bs f) ∧ List.map Fm.d (Fm.l f) = List.map Fm.d (Fm.l f) ∧ True) ∧ True) ∧ ∀ (x : Nat × List (D × D)), Prod.fst x ≤ List.length (Fm.ts f) ∧ EsOk (Prod.snd x) (List.map (fun (x : Bd) => Bd.name x) (Fm.bs f) ++ bnd) → (decide ((↑(Prod.fst x) : Int) < (↑(List.length (List.map Tm.d (Fm.ts f))) : Int)) = true → ((0 : Int) ≤ (↑(Prod.fst x) : Int) ∧ (List.map Tm.d (Fm.ts f))[Int.toNat (↑(Prod.fst x) : Int)]? = some (aggAt [Sh.int IntKind.i64, Sh.str, Sh.int IntKind.i64] (List.map Tm.d (Fm.ts f)) (Int.toNat (↑(Prod.fst x) : Int)))) ∧ ((D.toInt (Option.getD (cellAt (List.map Tm.d (Fm.ts f)) (Int.toNat (↑(Prod.fst x) : Int)) (0 : Nat)) default) != (1 : Int)) = true → (List.all (Prod.snd x) fun (kv : D × D) => sameKind ((fun (x_1 : Sh × Nat) => match x_1 with | (sh, j) => Sh.norm sh (Option.getD (cellAt (List.map Tm.d (Fm.ts f)) (Int.toNat (↑(Prod.fst x) : Int)) j) default)) (Sh.str, (0 : Nat) + (1 : Nat))) (Prod.fst kv) && Sh.ok (Sh.int IntKind.i64) (Prod.snd kv)) = true) ∧ PFn Tryd.prog G (34 : Nat) [D.sl (List.map D.str (List.foldl (addT (List.map (fun (x : Bd) => Bd.name x) (Fm.bs f) ++ bnd)) out (List.take (Prod.fst x) (Fm.ts f)))), D.str (D.toStr (Option.getD (cellAt (List.map Tm.d (Fm.ts f)) (Int.toNat (↑(Prod.fst x) : Int)) ((0 : Nat) + (1 : Nat))) default))] fun (rs : List D) => ∃ (b : Bool), rs = [D.bool b] ∧ ((bif bif D.toInt (Option.getD (cellAt (List.map Tm.d (Fm.ts f)) (Int.toNat (↑(Prod.fst x) : Int)) (0 : Nat)) default) != (1 : Int) then D.toInt (Option.getD (lookD (Prod.snd x) ((fun (x_1 : Sh × Nat) => match x_1 with | (sh, j) => Sh.norm sh (Option.getD (cellAt (List.map Tm.d (Fm.ts f)) (Int.toNat (↑(Prod.fst x) : Int)) j) default)) (Sh.str, (0 : Nat) + (1 : Nat)))) (D.int IntKind.i64 (0 : Int))) == (0 : Int) else false then !b else false) = true → (List.length (List.foldl (addT (List.map (fun (x : Bd) => Bd.name x) (Fm.bs f) ++ bnd)) out (List.take (Prod.fst x) (Fm.ts f))) = List.length (List.map D.str (List.foldl (addT (List.map (fun (x : Bd) => Bd.name x) (Fm.bs f) ++ bnd)) out (List.take (Prod.fst x) (Fm.ts f)))) ∧ (1 : Nat) = (1 : Nat) ∧ FA (List.map D.str (List.foldl (addT (List.map (fun (x : Bd) => Bd.name x) (Fm.bs f) ++ bnd)) out (List.take (Prod.fst x) (Fm.ts f)))) [D.str (D.toStr (Option.getD (cellAt (List.map Tm.d (Fm.ts f)) (Int.toNat (↑(Prod.fst x) : Int)) ((0 : Nat) + (1 : Nat))) default))] (nat_lit 1) (nat_lit 16)) ∧ ∃ (y : Nat × List (D × D)), (Prod.fst y ≤ List.length (Fm.ts f) ∧ EsOk (Prod.snd y) (List.map (fun (x : Bd) => Bd.name x) (Fm.bs f) ++ bnd)) ∧ List.length (Fm.ts f) - Prod.fst y < List.length (Fm.ts f) - Prod.fst x ∧ (AV.ptr (2 : Nat) (0 : Nat) = AV.ptr (2 : Nat) (0 : Nat) ∧ AV.ptr (3 : Nat) (0 : Nat) = AV.ptr (3 : Nat) (0 : Nat) ∧ AV.ptr (4 : Nat) (0 : Nat) = AV.ptr (4 : Nat) (0 : Nat) ∧ AV.ptr (6 : Nat) (0 : Nat) = AV.ptr (6 : Nat) (0 : Nat) ∧ List.map Tm.d (Fm.ts f) = List.map Tm.d (Fm.ts f) ∧ (↑(List.length (List.map Tm.d (Fm.ts f))) : Int) = (↑(List.length (List.map Tm.d (Fm.ts f))) : Int) ∧ IntKind.wrap IntKind.i64 ((↑(Prod.fst x) : Int) + (1 : Int)) = (↑(Prod.fst y) : Int) ∧ True) ∧ (Fm.kind f0 = Fm.kind f0 ∧ Fm.name f0 = Fm.name f0 ∧ Fm.n f0 = Fm.n f0 ∧ List.map Tm.d (Fm.ts f0) = List.map Tm.d (Fm.ts f0) ∧ List.map Bd.d (Fm.bs f0) = List.map Bd.d (Fm.bs f0) ∧ List.map Fm.d (Fm.l f0) = List.map Fm.d (Fm.l f0) ∧ True) ∧ Prod.snd x = Prod.snd y ∧ (AV.map (1 : Nat) = AV.map (1 : Nat) ∧ True) ∧ (List.map D.str (List.foldl (addT (List.map (fun (x : Bd) => Bd.name x) (Fm.bs f) ++ bnd)) out (List.take (Prod.fst x) (Fm.ts f))) ++ List.reverse [(fun (x_1 : Sh × Nat) => match x_1 with | (sh, j) => Sh.norm sh (Option.getD (cellAt (List.map Tm.d (Fm.ts f)) (Int.toNat (↑(Prod.fst x) : Int)) j) default)) (Sh.str, (0 : Nat) + (1 : Nat))] = List.map D.str (List.foldl (addT (List.map (fun (x : Bd) => Bd.name x) (Fm.bs f) ++ bnd)) out (List.take (Prod.fst y) (Fm.ts f))) ∧ True) ∧ (AV.clo (33 : Nat) [] [AV.ptr (2 : Nat) (0 : Nat), AV.ptr (3 : Nat) (0 : Nat), AV.ptr (4 : Nat) (0 : Nat)] = AV.clo (33 : Nat) [] [AV.ptr (2 : Nat) (0 : Nat), AV.ptr (3 : Nat) (0 : Nat), AV.ptr (4 : Nat) (0 : Nat)] ∧ True) ∧ List.length (List.map D.str (List.foldl (addT (List.map (fun (x : Bd) => Bd.name x) (Fm.bs f) ++ bnd)) out (List.take (Prod.fst x) (Fm.ts f)))) + List.length (List.reverse [(fun (x_1 : Sh × Nat) => match x_1 with | (sh, j) => Sh.norm sh (Option.getD (cellAt (List.map Tm.d (Fm.ts f)) (Int.toNat (↑(Prod.fst x) : Int)) j) default)) (Sh.str, (0 : Nat) + (1 : Nat))]) = List.length (List.foldl (addT (List.map (fun (x : Bd) => Bd.name x) (Fm.bs f) ++ bnd)) out (List.take (Prod.fst y) (Fm.ts f))) ∧ (Fm.kind f = Fm.kind f ∧ Fm.name f = Fm.name f ∧ Fm.n f = Fm.n f ∧ List.map Tm.d (Fm.ts f) = List.map Tm.d (Fm.ts f) ∧ List.map Bd.d (Fm.bs f) = List.map Bd.d (Fm.bs f) ∧ List.map Fm.d (Fm.l f) = List.map Fm.d (Fm.l f) ∧ True) ∧ True) ∧ ((bif bif D.toInt (Option.getD (cellAt (List.map Tm.d (Fm.ts f)) (Int.toNat (↑(Prod.fst x) : Int)) (0 : Nat)) default) != (1 : Int) then D.toInt (Option.getD (lookD (Prod.snd x) ((fun (x_1 : Sh × Nat) => match x_1 with | (sh, j) => Sh.norm sh (Option.getD (cellAt (List.map Tm.d (Fm.ts f)) (Int.toNat (↑(Prod.fst x) : Int)) j) default)) (Sh.str, (0 : Nat) + (1 : Nat)))) (D.int IntKind.i64 (0 : Int))) == (0 : Int) else false then !b else false) = false → ∃ (y : Nat × List (D × D)), (Prod.fst y ≤ List.length (Fm.ts f) ∧ EsOk (Prod.snd y) (List.map (fun (x : Bd) => Bd.name x) (Fm.bs f) ++ bnd)) ∧ List.length (Fm.ts f) - Prod.fst y < List.length (Fm.ts f) - Prod.fst x ∧ (AV.ptr (2 : Nat) (0 : Nat) = AV.ptr (2 : Nat) (0 : Nat) ∧ AV.ptr (3 : Nat) (0 : Nat) = AV.ptr (3 : Nat) (0 : Nat) ∧ AV.ptr (4 : Nat) (0 : Nat) = AV.ptr (4 : Nat) (0 : Nat) ∧ AV.ptr (6 : Nat) (0 : Nat) = AV.ptr (6 : Nat) (0 : Nat) ∧ List.map Tm.d (Fm.ts f) = List.map Tm.d (Fm.ts f) ∧ (↑(List.length (List.map Tm.d (Fm.ts f))) : Int) = (↑(List.length (List.map Tm.d (Fm.ts f))) : Int) ∧ IntKind.wrap IntKind.i64 ((↑(Prod.fst x) : Int) + (1 : Int)) = (↑(Prod.fst y) : Int) ∧ True) ∧ (Fm.kind f0 = Fm.kind f0 ∧ Fm.name f0 = Fm.name f0 ∧ Fm.n f0 = Fm.n f0 ∧ List.map Tm.d (Fm.ts f0) = List.map Tm.d (Fm.ts f0) ∧ List.map Bd.d (Fm.bs f0) = List.map Bd.d (Fm.bs f0) ∧ List.map Fm.d (Fm.l f0) = List.map Fm.d (Fm.l f0) ∧ True) ∧ Prod.snd x = Prod.snd y ∧ (AV.map (1 : Nat) = AV.map (1 : Nat) ∧ True) ∧ (List.map D.str (List.foldl (addT (List.map (fun (x : Bd) => Bd.name x) (Fm.bs f) ++ bnd)) out (List.take (Prod.fst x) (Fm.ts f))) = List.map D.str (List.foldl (addT (List.map (fun (x : Bd) => Bd.name x) (Fm.bs f) ++ bnd)) out (List.take (Prod.fst y) (Fm.ts f))) ∧ True) ∧ (AV.clo (33 : Nat) [] [AV.ptr (2 : Nat) (0 : Nat), AV.ptr (3 : Nat) (0 : Nat), AV.ptr (4 : Nat) (0 : Nat)] = AV.clo (33 : Nat) [] [AV.ptr (2 : Nat) (0 : Nat), AV.ptr (3 : Nat) (0 : Nat), AV.ptr (4 : Nat) (0 : Nat)] ∧ True) ∧ List.length (List.foldl (addT (List.map (fun (x : Bd) => Bd.name x) (Fm.bs f) ++ bnd)) out (List.take (Prod.fst x) (Fm.ts f))) = List.length (List.foldl (addT (List.map (fun (x : Bd) => Bd.name x) (Fm.bs f) ++ bnd)) out (List.take (Prod.fst y) (Fm.ts f))) ∧ (Fm.kind f = Fm.kind f ∧ Fm.name f = Fm.name f ∧ Fm.n f = Fm.n f ∧ List.map Tm.d (Fm.ts f) = List.map Tm.d (Fm.ts f) ∧ List.map Bd.d (Fm.bs f) = List.map Bd.d (Fm.bs f) ∧ List.map Fm.d (Fm.l f) = List.map Fm.d (Fm.l f) ∧ True) ∧ True)) ∧ (decide ((↑(Prod.fst x) : Int) < (↑(List.length (List.map Tm.d (Fm.ts f))) : Int)) = false → ∃ (x0 : Nat × List (D × D)), (Prod.fst x0 ≤ List.length (Fm.l f) ∧ EsOk (Prod.snd x0) (List.map (fun (x : Bd) => Bd.name x) (Fm.bs f) ++ bnd)) ∧ ((AV.ptr (2 : Nat) (0 : Nat) = AV.ptr (2 : Nat) (0 : Nat) ∧ AV.ptr (3 : Nat) (0 : Nat) = AV.ptr (3 : Nat) (0 : Nat) ∧ AV.ptr (4 : Nat) (0 : Nat) = AV.ptr (4 : Nat) (0 : Nat) ∧ AV.ptr (6 : Nat) (0 : Nat) = AV.ptr (6 : Nat) (0 : Nat) ∧ List.map Fm.d (Fm.l f) = List.map Fm.d (Fm.l f) ∧ (↑(List.length (List.map Fm.d (Fm.l f))) : Int) = (↑(List.length (List.map Fm.d (Fm.l f))) : Int) ∧ (0 : Int) = (↑(Prod.fst x0) : Int) ∧ True) ∧ (Fm.kind f0 = Fm.kind f0 ∧ Fm.name f0 = Fm.name f0 ∧ Fm.n f0 = Fm.n f0 ∧ List.map Tm.d (Fm.ts f0) = List.map Tm.d (Fm.ts f0) ∧ List.map Bd.d (Fm.bs f0) = List.map Bd.d (Fm.bs f0) ∧ List.map Fm.d (Fm.l f0) = List.map Fm.d (Fm.l f0) ∧ True) ∧ Prod.snd x = Prod.snd x0 ∧ (AV.map (1 : Nat) = AV.map (1 : Nat) ∧ True) ∧ (List.map D.str (List.foldl (addT (List.map (fun (x : Bd) => Bd.name x) (Fm.bs f) ++ bnd)) out (List.take (Prod.fst x) (Fm.ts f))) = List.map D.str (List.foldl (fun (o : List Nm) (y : Fm) => Fm.look (List.map (fun (x : Bd) => Bd.name x) (Fm.bs f) ++ bnd) o y) (List.foldl (addT (List.map (fun (x : Bd) => Bd.name x) (Fm.bs f) ++ bnd)) out (Fm.ts f)) (List.take (Prod.fst x0) (Fm.l f))) ∧ True) ∧ (AV.clo (33 : Nat) [] [AV.ptr (2 : Nat) (0 : Nat), AV.ptr (3 : Nat) (0 : Nat), AV.ptr (4 : Nat) (0 : Nat)] = AV.clo (33 : Nat) [] [AV.ptr (2 : Nat) (0 : Nat), AV.ptr (3 : Nat) (0 : Nat), AV.ptr (4 : Nat) (0 : Nat)] ∧ True) ∧ List.length (List.foldl (addT (List.map (fun (x : Bd) => Bd.name x) (Fm.bs f) ++ bnd)) out (List.take (Prod.fst x) (Fm.ts f))) = List.length (List.foldl (fun (o : List Nm) (y : Fm) => Fm.look (List.map (fun (x : Bd) => Bd.name x) (Fm.bs f) ++ bnd) o y) (List.foldl (addT (List.map (fun (x : Bd) => Bd.name x) (Fm.bs f) ++ bnd)) out (Fm.ts f)) (List.take (Prod.fst x0) (Fm.l f))) ∧ (Fm.kind f = Fm.kind f ∧ Fm.name f = Fm.name f ∧ Fm.n f = Fm.n f ∧ List.map Tm.d (Fm.ts f) = List.map Tm.d (Fm.ts f) ∧ List.map Bd.d (Fm.bs f) = List.map Bd.d (Fm.bs f) ∧ List.map Fm.d (Fm.l f) = List.map Fm.d (Fm.l f) ∧ True) ∧ True) ∧ ∀ (x : Nat × List (D × D)), Prod.fst x ≤ List.length (Fm.l f) ∧ EsOk (Prod.snd x) (List.map (fun (x : Bd) => Bd.name x) (Fm.bs f) ++ bnd) → (decide ((↑(Prod.fst x) : Int) < (↑(List.length (List.map Fm.d (Fm.l f))) : Int)) = true → ((0 : Int) ≤ (↑(Prod.fst x) : Int) ∧ (List.map Fm.d (Fm.l f))[Int.toNat (↑(Prod.fst x) : Int)]? = some (aggAt [Sh.int IntKind.i64, Sh.str, Sh.int IntKind.i64, Sh.sl, Sh.sl, Sh.sl] (List.map Fm.d (Fm.l f)) (Int.toNat (↑(Prod.fst x) : Int)))) ∧ PCall Tryd.prog G (33 : Nat) [AV.d (aggAt [Sh.int IntKind.i64, Sh.str, Sh.int IntKind.i64, Sh.sl, Sh.sl, Sh.sl] (List.map Fm.d (Fm.l f)) (Int.toNat (↑(Prod.fst x) : Int))), AV.ptr (2 : Nat) (0 : Nat), AV.ptr (3 : Nat) (0 : Nat), AV.ptr (4 : Nat) (0 : Nat)] [Box.cells (26 : Nat) [AV.d (D.int IntKind.i64 (Fm.kind f0)), AV.d (D.str (Fm.name f0)), AV.d (D.int IntKind.i64 (Fm.n f0)), AV.d (D.sl (List.map Tm.d (Fm.ts f0))), AV.d (D.sl (List.map Bd.d (Fm.bs f0))), AV.d (D.sl (List.map Fm.d (Fm.l f0)))], Box.map (Prod.snd x), Box.cells (50 : Nat) [AV.map (1 : Nat)], Box.cells (32 : Nat) [AV.vec (5 : Nat) (List.map D.str (List.foldl (fun (o : List Nm) (y : Fm) => Fm.look (List.map (fun (x : Bd) => Bd.name x) (Fm.bs f) ++ bnd) o y) (List.foldl (addT (List.map (fun (x : Bd) => Bd.name x) (Fm.bs f) ++ bnd)) out (Fm.ts f)) (List.take (Prod.fst x) (Fm.l f))))], Box.cells (51 : Nat) [AV.clo (33 : Nat) [] [AV.ptr (2 : Nat) (0 : Nat), AV.ptr (3 : Nat) (0 : Nat), AV.ptr (4 : Nat) (0 : Nat)]], Box.vec (List.length (List.foldl (fun (o : List Nm) (y : Fm) => Fm.look (List.map (fun (x : Bd) => Bd.name x) (Fm.bs f) ++ bnd) o y) (List.foldl (addT (List.map (fun (x : Bd) => Bd.name x) (Fm.bs f) ++ bnd)) out (Fm.ts f)) (List.take (Prod.fst x) (Fm.l f)))) (1 : Nat)] fun (rs : List D) (H' : List Box) => rs = [] ∧ ∃ (n : Int), ∃ (s : List UInt8), ∃ (n_1 : Int), ∃ (l : List D), ∃ (l_1 : List D), ∃ (l_2 : List D), ∃ (es : List (D × D)), ∃ (l_3 : List D), ∃ (n_2 : Nat), H' = [Box.cells (26 : Nat) [AV.d (D.int IntKind.i64 n), AV.d (D.str s), AV.d (D.int IntKind.i64 n_1), AV.d (D.sl l), AV.d (D.sl l_1), AV.d (D.sl l_2)], Box.map es, Box.cells (50 : Nat) [AV.map (1 : Nat)], Box.cells (32 : Nat) [AV.vec (5 : Nat) l_3], Box.cells (51 : Nat) [AV.clo (33 : Nat) [] [AV.ptr (2 : Nat) (0 : Nat), AV.ptr (3 : Nat) (0 : Nat), AV.ptr (4 : Nat) (0 : Nat)]], Box.vec n_2 (1 : Nat)] ∧ ∃ (y : Nat × List (D × D)), (Prod.fst y ≤ List.length (Fm.l f) ∧ EsOk (Prod.snd y) (List.map (fun (x : Bd) => Bd.name x) (Fm.bs f) ++ bnd)) ∧ List.length (Fm.l f) - Prod.fst y < List.length (Fm.l f) - Prod.fst x ∧ (AV.ptr (2 : Nat) (0 : Nat) = AV.ptr (2 : Nat) (0 : Nat) ∧ AV.ptr (3 : Nat) (0 : Nat) = AV.ptr (3 : Nat) (0 : Nat) ∧ AV.ptr (4 : Nat) (0 : Nat) = AV.ptr (4 : Nat) (0 : Nat) ∧ AV.ptr (6 : Nat) (0 : Nat) = AV.ptr (6 : Nat) (0 : Nat) ∧ List.map Fm.d (Fm.l f) = List.map Fm.d (Fm.l f) ∧ (↑(List.length (List.map Fm.d (Fm.l f))) : Int) = (↑(List.length (List.map Fm.d (Fm.l f))) : Int) ∧ IntKind.wrap IntKind.i64 ((↑(Prod.fst x) : Int) + (1 : Int)) = (↑(Prod.fst y) : Int) ∧ True) ∧ (n = Fm.kind f0 ∧ s = Fm.name f0 ∧ n_1 = Fm.n f0 ∧ l = List.map Tm.d (Fm.ts f0) ∧ l_1 = List.map Bd.d (Fm.bs f0) ∧ l_2 = List.map Fm.d (Fm.l f0) ∧ True) ∧ es = Prod.snd y ∧ (AV.map (1 : Nat) = AV.map (1 : Nat) ∧ True) ∧ (l_3 = List.map D.str (List.foldl (fun (o : List Nm) (y : Fm) => Fm.look (List.map (fun (x : Bd) => Bd.name x) (Fm.bs f) ++ bnd) o y) (List.foldl (addT (List.map (fun (x : Bd) => Bd.name x) (Fm.bs f) ++ bnd)) out (Fm.ts f)) (List.take (Prod.fst y) (Fm.l f))) ∧ True) ∧ (AV.clo (33 : Nat) [] [AV.ptr (2 : Nat) (0 : Nat), AV.ptr (3 : Nat) (0 : Nat), AV.ptr (4 : Nat) (0 : Nat)] = AV.clo (33 : Nat) [] [AV.ptr (2 : Nat) (0 : Nat), AV.ptr (3 : Nat) (0 : Nat), AV.ptr (4 : Nat) (0 : Nat)] ∧ True) ∧ n_2 = List.length (List.foldl (fun (o : List Nm) (y : Fm) => Fm.look (List.map (fun (x : Bd) => Bd.name x) (Fm.bs f) ++ bnd) o y) (List.foldl (addT (List.map (fun (x : Bd) => Bd.name x) (Fm.bs f) ++ bnd)) out (Fm.ts f)) (List.take (Prod.fst y) (Fm.l f))) ∧ (Fm.kind f = Fm.kind f ∧ Fm.name f = Fm.name f ∧ Fm.n f = Fm.n f ∧ List.map Tm.d (Fm.ts f) = List.map Tm.d (Fm.ts f) ∧ List.map Bd.d (Fm.bs f) = List.map Bd.d (Fm.bs f) ∧ List.map Fm.d (Fm.l f) = List.map Fm.d (Fm.l f) ∧ True) ∧ True) ∧ (decide ((↑(Prod.fst x) : Int) < (↑(List.length (List.map Fm.d (Fm.l f))) : Int)) = false → ∃ (x0 : Nat × List (D × D)), (Prod.fst x0 ≤ List.length (Fm.bs f) ∧ EsOk (Prod.snd x0) (List.map (fun (x : Bd) => Bd.name x) (List.drop (Prod.fst x0) (Fm.bs f)) ++ bnd)) ∧ ((AV.ptr (2 : Nat) (0 : Nat) = AV.ptr (2 : Nat) (0 : Nat) ∧ AV.ptr (3 : Nat) (0 : Nat) = AV.ptr (3 : Nat) (0 : Nat) ∧ AV.ptr (4 : Nat) (0 : Nat) = AV.ptr (4 : Nat) (0 : Nat) ∧ AV.ptr (6 : Nat) (0 : Nat) = AV.ptr (6 : Nat) (0 : Nat) ∧ List.map Bd.d (Fm.bs f) = List.map Bd.d (Fm.bs f) ∧ (↑(List.length (List.map Bd.d (Fm.bs f))) : Int) = (↑(List.length (List.map Bd.d (Fm.bs f))) : Int) ∧ (0 : Int) = (↑(Prod.fst x0) : Int) ∧ True) ∧ (Fm.kind f0 = Fm.kind f0 ∧ Fm.name f0 = Fm.name f0 ∧ Fm.n f0 = Fm.n f0 ∧ List.map Tm.d (Fm.ts f0) = List.map Tm.d (Fm.ts f0) ∧ List.map Bd.d (Fm.bs f0) = List.map Bd.d (Fm.bs f0) ∧ List.map Fm.d (Fm.l f0) = List.map Fm.d (Fm.l f0) ∧ True) ∧ Prod.snd x = Prod.snd x0 ∧ (AV.map (1 : Nat) = AV.map (1 : Nat) ∧ True) ∧ (List.map D.str (List.foldl (fun (o : List Nm) (y : Fm) => Fm.look (List.map (fun (x : Bd) => Bd.name x) (Fm.bs f) ++ bnd) o y) (List.foldl (addT (List.map (fun (x : Bd) => Bd.name x) (Fm.bs f) ++ bnd)) out (Fm.ts f)) (List.take (Prod.fst x) (Fm.l f))) = List.map D.str (Fm.look bnd out f) ∧ True) ∧ (AV.clo (33 : Nat) [] [AV.ptr (2 : Nat) (0 : Nat), AV.ptr (3 : Nat) (0 : Nat), AV.ptr (4 : Nat) (0 : Nat)] = AV.clo (33 : Nat) [] [AV.ptr (2 : Nat) (0 : Nat), AV.ptr (3 : Nat) (0 : Nat), AV.ptr (4 : Nat) (0 : Nat)] ∧ True) ∧ List.length (List.foldl (fun (o : List Nm) (y : Fm) => Fm.look (List.map (fun (x : Bd) => Bd.name x) (Fm.bs f) ++ bnd) o y) (List.foldl (addT (List.map (fun (x : Bd) => Bd.name x) (Fm.bs f) ++ bnd)) out (Fm.ts f)) (List.take (Prod.fst x) (Fm.l f))) = List.length (Fm.look bnd out f) ∧ (Fm.kind f = Fm.kind f ∧ Fm.name f = Fm.name f ∧ Fm.n f = Fm.n f ∧ List.map Tm.d (Fm.ts f) = List.map Tm.d (Fm.ts f) ∧ List.map Bd.d (Fm.bs f) = List.map Bd.d (Fm.bs f) ∧ List.map Fm.d (Fm.l f) = List.map Fm.d (Fm.l f) ∧ True) ∧ True) ∧ ∀ (x : Nat × List (D × D)), Prod.fst x ≤ List.length (Fm.bs f) ∧ EsOk (Prod.snd x) (List.map (fun (x : Bd) => Bd.name x) (List.drop (Prod.fst x) (Fm.bs f)) ++ bnd) → (decide ((↑(Prod.fst x) : Int) < (↑(List.length (List.map Bd.d (Fm.bs f))) : Int)) = true → ((0 : Int) ≤ (↑(Prod.fst x) : Int) ∧ (List.map Bd.d (Fm.bs f))[Int.toNat (↑(Prod.fst x) : Int)]? = some (aggAt [Sh.str, Sh.int IntKind.i64] (List.map Bd.d (Fm.bs f)) (Int.toNat (↑(Prod.fst x) : Int)))) ∧ (List.all (Prod.snd x) fun (kv : D × D) => sameKind ((fun (x_1 : Sh × Nat) => match x_1 with | (sh, j) => Sh.norm sh (Option.getD (cellAt (List.map Bd.d (Fm.bs f)) (Int.toNat (↑(Prod.fst x) : Int)) j) default)) (Sh.str, (0 : Nat))) (Prod.fst kv) && Sh.ok (Sh.int IntKind.i64) (Prod.snd kv)) = true ∧ (List.all (Prod.snd x) fun (kv : D × D) => sameKind ((fun (x_1 : Sh × Nat) => match x_1 with | (sh, j) => Sh.norm sh (Option.getD (cellAt (List.map Bd.d (Fm.bs f)) (Int.toNat (↑(Prod.fst x) : Int)) j) default)) (Sh.str, (0 : Nat))) (Prod.fst kv)) = true ∧ ∃ (y : Nat × List (D × D)), (Prod.fst y ≤ List.length (Fm.bs f) ∧ EsOk (Prod.snd y) (List.map (fun (x : Bd) => Bd.name x) (List.drop (Prod.fst y) (Fm.bs f)) ++ bnd)) ∧ List.length (Fm.bs f) - Prod.fst y < List.length (Fm.bs f) - Prod.fst x ∧ (AV.ptr (2 : Nat) (0 : Nat) = AV.ptr (2 : Nat) (0 : Nat) ∧ AV.ptr (3 : Nat) (0 : Nat) = AV.ptr (3 : Nat) (0 : Nat) ∧ AV.ptr (4 : Nat) (0 : Nat) = AV.ptr (4 : Nat) (0 : Nat) ∧ AV.ptr (6 : Nat) (0 : Nat) = AV.ptr (6 : Nat) (0 : Nat) ∧ List.map Bd.d (Fm.bs f) = List.map Bd.d (Fm.bs f) ∧ (↑(List.length (List.map Bd.d (Fm.bs f))) : Int) = (↑(List.length (List.map Bd.d (Fm.bs f))) : Int) ∧ IntKind.wrap IntKind.i64 ((↑(Prod.fst x) : Int) + (1 : Int)) = (↑(Prod.fst y) : Int) ∧ True) ∧ (Fm.kind f0 = Fm.kind f0 ∧ Fm.name f0 = Fm.name f0 ∧ Fm.n f0 = Fm.n f0 ∧ List.map Tm.d (Fm.ts f0) = List.map Tm.d (Fm.ts f0) ∧ List.map Bd.d (Fm.bs f0) = List.map Bd.d (Fm.bs f0) ∧ List.map Fm.d (Fm.l f0) = List.map Fm.d (Fm.l f0) ∧ True) ∧ updD (Prod.snd x) ((fun (x_1 : Sh × Nat) => match x_1 with | (sh, j) => Sh.norm sh (Option.getD (cellAt (List.map Bd.d (Fm.bs f)) (Int.toNat (↑(Prod.fst x) : Int)) j) default)) (Sh.str, (0 : Nat))) (Prod.fst (D.int IntKind.i64 (IntKind.wrap IntKind.i64 (D.toInt (Option.getD (lookD (Prod.snd x) ((fun (x_1 : Sh × Nat) => match x_1 with | (sh, j) => Sh.norm sh (Option.getD (cellAt (List.map Bd.d (Fm.bs f)) (Int.toNat (↑(Prod.fst x) : Int)) j) default)) (Sh.str, (0 : Nat)))) (D.int IntKind.i64 (0 : Int))) - (1 : Int))), True)) = Prod.snd y ∧ (AV.map (1 : Nat) = AV.map (1 : Nat) ∧ True) ∧ (List.map D.str (Fm.look bnd out f) = List.map D.str (Fm.look bnd out f) ∧ True) ∧ (AV.clo (33 : Nat) [] [AV.ptr (2 : Nat) (0 : Nat), AV.ptr (3 : Nat) (0 : Nat), AV.ptr (4 : Nat) (0 : Nat)] = AV.clo (33 : Nat) [] [AV.ptr (2 : Nat) (0 : Nat), AV.ptr (3 : Nat) (0 : Nat), AV.ptr (4 : Nat) (0 : Nat)] ∧ True) ∧ List.length (Fm.look bnd out f) = List.length (Fm.look bnd out f) ∧ (Fm.kind f = Fm.kind f ∧ Fm.name f = Fm.name f ∧ Fm.n f = Fm.n f ∧ List.map Tm.d (Fm.ts f) = List.map Tm.d (Fm.ts f) ∧ List.map Bd.d (Fm.bs f) = List.map Bd.d (Fm.bs f) ∧ List.map Fm.d (Fm.l f) = List.map Fm.d (Fm.l f) ∧ True) ∧ True) ∧ (decide ((↑(Prod.fst x) : Int) < (↑(List.length (List.map Bd.d (Fm.bs f))) : Int)) = false → ([] : List D) = [] ∧ ∃ (es' : List (D × D)), EsOk es' bnd ∧ [Box.cells (26 : Nat) [AV.d (D.int IntKind.i64 (Fm.kind f0)), AV.d (D.str (Fm.name f0)), AV.d (D.int IntKind.i64 (Fm.n f0)), AV.d (D.sl (List.map Tm.d (Fm.ts f0))), AV.d (D.sl (List.map Bd.d (Fm.bs f0))), AV.d (D.sl (List.map Fm.d (Fm.l f0)))], Box.map (Prod.snd x), Box.cells (50 : Nat) [AV.map (1 : Nat)], Box.cells (32 : Nat) [AV.vec (5 : Nat) (List.map D.str (Fm.look bnd out f))], Box.cells (51 : Nat) [AV.clo (33 : Nat) [] [AV.ptr (2 : Nat) (0 : Nat), AV.ptr (3 : Nat) (0 : Nat), AV.ptr (4 : Nat) (0 : Nat)]], Box.vec (List.length (Fm.look bnd out f)) (1 : Nat)] = [Box.cells (26 : Nat) [AV.d (D.int IntKind.i64 (Fm.kind f0)), AV.d (D.str (Fm.name f0)), AV.d (D.int IntKind.i64 (Fm.n f0)), AV.d (D.sl (List.map Tm.d (Fm.ts f0))), AV.d (D.sl (List.map Bd.d (Fm.bs f0))), AV.d (D.sl (List.map Fm.d (Fm.l f0)))], Box.map es', Box.cells (50 : Nat) [AV.map (1 : Nat)], Box.cells (32 : Nat) [AV.vec (5 : Nat) (List.map D.str (Fm.look bnd out f))], Box.cells (51 : Nat) [AV.clo (33 : Nat) [] [AV.ptr (2 : Nat) (0 : Nat), AV.ptr (3 : Nat) (0 : Nat), AV.ptr (4 : Nat) (0 : Nat)]], Box.vec (List.length (Fm.look bnd out f)) (1 : Nat)])))))
  · kernel_rfl
  have hw := f.wt_eq
  have cntle : ∀ (l : List Nm) (s : Nm), l.count s ≤ l.length := fun l s => List.count_le_length
  refine ⟨(0, es), ⟨Nat.zero_le _, by simpa using he⟩, ⟨⟨rfl, rfl, rfl, rfl, rfl, rfl, rfl, trivial⟩, ⟨rfl, rfl, rfl, rfl, rfl, rfl, trivial⟩, rfl, ⟨rfl, trivial⟩, ⟨rfl, trivial⟩, ⟨rfl, trivial⟩, rfl, ⟨rfl, rfl, rfl, rfl, rfl, rfl, trivial⟩, trivial⟩, ?_⟩
  rintro ⟨i, es1⟩ ⟨hi, he1⟩
  simp only at hi he1
  refine ⟨fun hlt => ?_, fun hge => ?_⟩
  · simp only [List.length_map, decide_eq_true_eq] at hlt
    obtain ⟨z, hz, hm⟩ := get_nat (l := f.bs) (x := i) (by omega)
    dsimp only
    rw [Int.toNat_natCast, agg_bd hz, cell_bd0 hz]
    have e1 : Sh.norm Sh.str (Option.getD (some (D.str z.name)) default) = .str z.name := rfl
    rw [e1]
    have hc := he1.cnt z.name
    unfold cntE at hc
    have hcl := cntle ((f.bs.take i).map (·.name) ++ bnd) z.name
    rw [List.length_append, List.length_map, List.length_take] at hcl
    have hwr : IntKind.wrap IntKind.i64 ((((f.bs.take i).map (·.name) ++ bnd).count z.name : Int) + 1) = (((f.bs.take i).map (·.name) ++ bnd).count z.name : Int) + 1 := wrap64 (by omega) (by omega)
    rw [hc, hwr]
    refine ⟨⟨by omega, by simp [hz]⟩, ?_, ?_, (i + 1, _), ⟨by omega, ?_⟩, by omega, ⟨rfl, rfl, rfl, rfl, rfl, rfl, ?_, trivial⟩, ⟨rfl, rfl, rfl, rfl, rfl, rfl, trivial⟩, rfl, ⟨rfl, trivial⟩, ⟨rfl, trivial⟩, ⟨rfl, trivial⟩, rfl, ⟨rfl, rfl, rfl, rfl, rfl, rfl, trivial⟩, trivial⟩
    · simp only [same_str z.name]; exact he1.all
    · have := he1.all
      simp only [same_str z.name]
      rw [List.all_eq_true] at this ⊢
      intro x hx
      have := this x hx
      simp only [Bool.and_eq_true] at this
      exact this.1
    · refine he1.set fun s' => ?_
      simp only [List.take_add_one, hz, Option.toList_some, List.map_append, List.map_cons, List.map_nil, List.count_append, List.count_cons, List.count_nil]
      by_cases h : s' = z.name
      · subst h; simp; omega
      · have h2 : (z.name == s') = false := by simpa using fun e => h e.symm
        simp [h, h2]
    · rw [wrap64 (by omega) (by omega)]; simp
  simp only [List.length_map, decide_eq_false_iff_not] at hge
  rw [List.take_of_length_le (by omega)] at he1
  refine ⟨(0, es1), ⟨Nat.zero_le _, he1⟩, ⟨⟨rfl, rfl, rfl, rfl, rfl, rfl, rfl, trivial⟩, ⟨rfl, rfl, rfl, rfl, rfl, rfl, trivial⟩, rfl, ⟨rfl, trivial⟩, ⟨rfl, trivial⟩, ⟨rfl, trivial⟩, rfl, ⟨rfl, rfl, rfl, rfl, rfl, rfl, trivial⟩, trivial⟩, ?_⟩
  rintro ⟨j, es2⟩ ⟨hj, he2⟩
  simp only at hj he2
  refine ⟨fun hlt => ?_, fun hge2 => ?_⟩
  · simp only [List.length_map, decide_eq_true_eq] at hlt
    obtain ⟨z, hz, hm⟩ := get_nat (l := f.ts) (x := j) (by omega)
    dsimp only
    rw [Int.toNat_natCast, agg_tm hz, cell_tm0 hz, cell_tm1 hz]
    have e1 : Sh.norm Sh.str (Option.getD (some (D.str z.name)) default) = .str z.name := rfl
    have e2 : D.toStr (Option.getD (some (D.str z.name)) default) = z.name := rfl
    have e3 : D.toInt (Option.getD (some (D.int IntKind.i64 z.kind)) default) = z.kind := rfl
    rw [e1, e2, e3]
    have hc := he2.cnt z.name
    unfold cntE at hc
    rw [hc]
    have hol := addT_len (f.bs.map (·.name) ++ bnd) (f.ts.take j) out
    have htk : (f.ts.take j).length ≤ f.ts.length := by simp; omega
    refine ⟨⟨by omega, by simp [hz]⟩, fun _ => by simp only [same_str z.name]; exact he2.all, ?_⟩
    refine (fn34 _ z.name (by omega)).mono ?_
    rintro rs rfl
    have hcond : (bif bif z.kind != 1 then (((f.bs.map (·.name) ++ bnd).count z.name : Int) == 0) else false then !((f.ts.take j).foldl (addT (f.bs.map (·.name) ++ bnd)) out).contains z.name else false) = (z.kind != 1 && !(f.bs.map (·.name) ++ bnd).contains z.name && !((f.ts.take j).foldl (addT (f.bs.map (·.name) ++ bnd)) out).contains z.name) := by
      rw [bif_and, bif_and]
      congr 2
      rw [Bool.eq_iff_iff]
      simp only [beq_iff_eq, Bool.not_eq_true', List.contains_eq_mem, decide_eq_false_iff_not]
      rw [← List.count_eq_zero]
      omega
    have hnx : (f.ts.take (j + 1)).foldl (addT (f.bs.map (·.name) ++ bnd)) out = addT (f.bs.map (·.name) ++ bnd) ((f.ts.take j).foldl (addT (f.bs.map (·.name) ++ bnd)) out) z := by
      rw [List.take_add_one, hz]; simp [List.foldl_append]
    refine ⟨_, rfl, ?_⟩
    rw [hcond]
    refine ⟨fun hyes => ⟨⟨by simp, rfl, ?_, ?_⟩, (j + 1, es2), ⟨by omega, he2⟩, by omega, ⟨rfl, rfl, rfl, rfl, rfl, rfl, ?_, trivial⟩, ⟨rfl, rfl, rfl, rfl, rfl, rfl, trivial⟩, rfl, ⟨rfl, trivial⟩, ⟨?_, trivial⟩, ⟨rfl, trivial⟩, ?_, ⟨rfl, rfl, rfl, rfl, rfl, rfl, trivial⟩, trivial⟩,
      fun hno => ⟨(j + 1, es2), ⟨by omega, he2⟩, by omega, ⟨rfl, rfl, rfl, rfl, rfl, rfl, ?_, trivial⟩, ⟨rfl, rfl, rfl, rfl, rfl, rfl, trivial⟩, rfl, ⟨rfl, trivial⟩, ⟨?_, trivial⟩, ⟨rfl, trivial⟩, ?_, ⟨rfl, rfl, rfl, rfl, rfl, rfl, trivial⟩, trivial⟩⟩
    · simp [D.cells]
    · simp; omega
    · rw [wrap64 (by omega) (by omega)]; simp
    · dsimp only
      rw [hnx, addT_pos hyes]
      simp
    · dsimp only
      rw [hnx, addT_pos hyes]
      simp
    · rw [wrap64 (by omega) (by omega)]; simp
    · dsimp only
      rw [hnx, addT_neg hno]
    · dsimp only
      rw [hnx, addT_neg hno]
  simp only [List.length_map, decide_eq_false_iff_not] at hge2
  dsimp only
  rw [List.take_of_length_le (by omega : f.ts.length ≤ j)]
  refine ⟨(0, es2), ⟨Nat.zero_le _, he2⟩, ⟨⟨rfl, rfl, rfl, rfl, rfl, rfl, rfl, trivial⟩, ⟨rfl, rfl, rfl, rfl, rfl, rfl, trivial⟩, rfl, ⟨rfl, trivial⟩, ⟨rfl, trivial⟩, ⟨rfl, trivial⟩, rfl, ⟨rfl, rfl, rfl, rfl, rfl, rfl, trivial⟩, trivial⟩, ?_⟩
  rintro ⟨k, es3⟩ ⟨hk, he3⟩
  simp only at hk he3
  refine ⟨fun hlt => ?_, fun hge3 => ?_⟩
  · simp only [List.length_map, decide_eq_true_eq] at hlt
    obtain ⟨z, hz, hm⟩ := get_nat (l := f.l) (x := k) (by omega)
    dsimp only
    rw [Int.toNat_natCast, agg_fm hz]
    refine ⟨⟨by omega, by simp [hz]⟩, ?_⟩
    have hol := addT_len (f.bs.map (·.name) ++ bnd) f.ts out
    have hfl := fold_look_len (f.bs.map (·.name) ++ bnd) (f.l.take k) (f.ts.foldl (addT (f.bs.map (·.name) ++ bnd)) out)
    have hw1 := wtsTakeSucc hz
    have hw2 := wtsTake f.l (k + 1)
    have hln := wts_len f.l
    have hnx : (f.l.take (k + 1)).foldl (fun o y => y.look (f.bs.map (·.name) ++ bnd) o) (f.ts.foldl (addT (f.bs.map (·.name) ++ bnd)) out) = z.look (f.bs.map (·.name) ++ bnd) ((f.l.take k).foldl (fun o y => y.look (f.bs.map (·.name) ++ bnd) o) (f.ts.foldl (addT (f.bs.map (·.name) ++ bnd)) out)) := by
      rw [List.take_add_one, hz]; simp [List.foldl_append]
    refine (ih z hm es3 (f.bs.map (·.name) ++ bnd) _ he3 (by simp only [List.length_append, List.length_map]; omega) (by omega)).mono ?_
    rintro rs H' ⟨rfl, es4, he4, rfl⟩
    refine ⟨rfl, _, _, _, _, _, _, _, _, _, rfl, (k + 1, es4), ⟨by omega, he4⟩, by omega, ⟨rfl, rfl, rfl, rfl, rfl, rfl, ?_, trivial⟩, ⟨rfl, rfl, rfl, rfl, rfl, rfl, trivial⟩, rfl, ⟨rfl, trivial⟩, ⟨?_, trivial⟩, ⟨rfl, trivial⟩, ?_, ⟨rfl, rfl, rfl, rfl, rfl, rfl, trivial⟩, trivial⟩
    · rw [wrap64 (by omega) (by omega)]; simp
    · dsimp only; rw [hnx]
    · dsimp only; rw [hnx]
  simp only [List.length_map, decide_eq_false_iff_not] at hge3
  dsimp only
  have hlk : (f.l.take k).foldl (fun o y => y.look (f.bs.map (·.name) ++ bnd) o) (f.ts.foldl (addT (f.bs.map (·.name) ++ bnd)) out) = f.look bnd out := by
    rw [List.take_of_length_le (by omega), f.look_eq, looks_fold]
  rw [hlk]
  refine ⟨(0, es3), ⟨Nat.zero_le _, by simpa using he3⟩, ⟨⟨rfl, rfl, rfl, rfl, rfl, rfl, rfl, trivial⟩, ⟨rfl, rfl, rfl, rfl, rfl, rfl, trivial⟩, rfl, ⟨rfl, trivial⟩, ⟨rfl, trivial⟩, ⟨rfl, trivial⟩, rfl, ⟨rfl, rfl, rfl, rfl, rfl, rfl, trivial⟩, trivial⟩, ?_⟩
  rintro ⟨m, es5⟩ ⟨hm5, he5⟩
  simp only at hm5 he5
  refine ⟨fun hlt => ?_, fun hge5 => ?_⟩
  · simp only [List.length_map, decide_eq_true_eq] at hlt
    obtain ⟨z, hz, hm⟩ := get_nat (l := f.bs) (x := m) (by omega)
    dsimp only
    rw [Int.toNat_natCast, agg_bd hz, cell_bd0 hz]
    have e1 : Sh.norm Sh.str (Option.getD (some (D.str z.name)) default) = .str z.name := rfl
    rw [e1]
    have hc := he5.cnt z.name
    unfold cntE at hc
    have hcl := cntle ((f.bs.drop m).map (·.name) ++ bnd) z.name
    rw [List.length_append, List.length_map, List.length_drop] at hcl
    have hwr : IntKind.wrap IntKind.i64 ((((f.bs.drop m).map (·.name) ++ bnd).count z.name : Int) - 1) = (((f.bs.drop m).map (·.name) ++ bnd).count z.name : Int) - 1 := wrap64 (by omega) (by omega)
    rw [hc, hwr]
    have hdr : f.bs.drop m = z :: f.bs.drop (m + 1) := by
      have hlt' : m < f.bs.length := by omega
      rw [List.drop_eq_getElem_cons hlt']
      congr 1
      have := List.getElem?_eq_getElem hlt'
      rw [hz] at this; simpa using this.symm
    refine ⟨⟨by omega, by simp [hz]⟩, ?_, ?_, (m + 1, _), ⟨by omega, ?_⟩, by omega, ⟨rfl, rfl, rfl, rfl, rfl, rfl, ?_, trivial⟩, ⟨rfl, rfl, rfl, rfl, rfl, rfl, trivial⟩, rfl, ⟨rfl, trivial⟩, ⟨rfl, trivial⟩, ⟨rfl, trivial⟩, rfl, ⟨rfl, rfl, rfl, rfl, rfl, rfl, trivial⟩, trivial⟩
    · simp only [same_str z.name]; exact he5.all
    · have := he5.all
      simp only [same_str z.name]
      rw [List.all_eq_true] at this ⊢
      intro x hx
      have := this x hx
      simp only [Bool.and_eq_true] at this
      exact this.1
    · refine he5.set fun s' => ?_
      simp only [hdr, List.map_cons, List.cons_append, List.count_cons]
      by_cases h : s' = z.name
      · subst h; simp
      · have h2 : (z.name == s') = false := by simpa using fun e => h e.symm
        simp [h, h2]
    · rw [wrap64 (by omega) (by omega)]; simp
  simp only [List.length_map, decide_eq_false_iff_not] at hge5
  rw [List.drop_eq_nil_of_le (by omega)] at he5
  exact ⟨rfl, es5, by simpa using he5, rfl⟩

theorem fn19 (f : Fm) (hf : f.wt < 1099511627776) : PFn Tryd.prog G 19 [f.d] (· = [.sl ((f.look [] []).map .str)]) := by
  have h := fn33 (G := G) f f [] [] [] ⟨rfl, fun s => rfl⟩ (by simpa using hf) (by simpa using hf)
  rw [d_cells] at h ⊢
  refine PFn.walk (fn := Tryd.f19) (code := bodyOf Tryd.f19) mixed L0 Tryd.func19 (by kernel_rfl) ⟨_, rfl⟩ (ok0 (by kernel_rfl)) ?_
  apply @of_vc _ (
    PCall Tryd.prog G (33 : Nat) [AV.d (D.agg [D.int IntKind.i64 (Fm.kind f), D.str (Fm.name f), D.int IntKind.i64 (Fm.n f), D.sl (List.map Tm.d (Fm.ts f)), D.sl (List.map Bd.d (Fm.bs f)),
    D.sl (List.map Fm.d (Fm.l f))]), AV.ptr (2 : Nat) (0 : Nat), AV.ptr (3 : Nat) (0 : Nat), AV.ptr (4 : Nat) (0 : Nat)] [Box.cells (26 : Nat) [AV.d (D.int IntKind.i64 (Fm.kind f)), AV.d
    (D.str (Fm.name f)), AV.d (D.int IntKind.i64 (Fm.n f)), AV.d (D.sl (List.map Tm.d (Fm.ts f))), AV.d (D.sl (List.map Bd.d (Fm.bs f))), AV.d (D.sl (List.map Fm.d (Fm.l f)))], Box.map [],
    Box.cells (50 : Nat) [AV.map (1 : Nat)], Box.cells (32 : Nat) [AV.vec (5 : Nat) []], Box.cells (51 : Nat) [AV.clo (33 : Nat) [] [AV.ptr (2 : Nat) (0 : Nat), AV.ptr (3 : Nat) (0 : Nat),
    AV.ptr (4 : Nat) (0 : Nat)]], Box.vec (0 : Nat) (1 : Nat)] fun (rs : List D) (H' : List Box) => rs = [] ∧ ∃ (n : Int), ∃ (s : List UInt8), ∃ (n_1 : Int), ∃ (l : List D), ∃ (l_1 : List
    D), ∃ (l_2 : List D), ∃ (es : List (D × D)), ∃ (l_3 : List D), ∃ (n_2 : Nat), H' = [Box.cells (26 : Nat) [AV.d (D.int IntKind.i64 n), AV.d (D.str s), AV.d (D.int IntKind.i64 n_1), AV.d
    (D.sl l), AV.d (D.sl l_1), AV.d (D.sl l_2)], Box.map es, Box.cells (50 : Nat) [AV.map (1 : Nat)], Box.cells (32 : Nat) [AV.vec (5 : Nat) l_3], Box.cells (51 : Nat) [AV.clo (33 : Nat) []
    [AV.ptr (2 : Nat) (0 : Nat), AV.ptr (3 : Nat) (0 : Nat), AV.ptr (4 : Nat) (0 : Nat)]], Box.vec n_2 (1 : Nat)] ∧ [D.sl l_3] = [D.sl (List.map D.str (Fm.look [] [] f))])
  · kernel_rfl
  refine h.mono ?_
  rintro rs H' ⟨rfl, es', he', rfl⟩
  exact ⟨rfl, _, _, _, _, _, _, _, _, _, rfl, rfl⟩
end
end Go.Fo
/- Free variables: the reference. -/
namespace Go.Fo
open Go Go.Sx Go.Proofs
set_option maxRecDepth 100000
set_option maxHeartbeats 0

def addA (bnd o : List Nm) (s : Nm) : List Nm := if !bnd.contains s && !o.contains s then o ++ [s] else o
def tsN (ts : List Tm) : List Nm := (ts.filter fun t => t.kind != 1).map (·.name)
mutual
def Fm.free : Fm → List Nm
  | .mk _ _ _ ts bs l => (tsN ts ++ Fm.frees l).foldl (addA (bs.map (·.name))) []
def Fm.frees : List Fm → List Nm
  | [] => []
  | x :: r => x.free ++ Fm.frees r
end
theorem Fm.free_eq (f : Fm) : f.free = (tsN f.ts ++ Fm.frees f.l).foldl (addA (f.bs.map (·.name))) [] := by cases f; rw [Fm.free]; rfl

theorem addA_pos {bnd o : List Nm} {s : Nm} (h : (!bnd.contains s && !o.contains s) = true) : addA bnd o s = o ++ [s] := if_pos h
theorem addA_neg {bnd o : List Nm} {s : Nm} (h : (!bnd.contains s && !o.contains s) = false) : addA bnd o s = o := if_neg (by rw [h]; simp)
theorem addA_len (bnd : List Nm) (l : List Nm) : ∀ o : List Nm, (l.foldl (addA bnd) o).length ≤ o.length + l.length := by
  induction l with
  | nil => intro o; simp
  | cons t r ih =>
    intro o
    have := ih (addA bnd o t)
    have h2 : (addA bnd o t).length ≤ o.length + 1 := by unfold addA; split <;> simp
    simp only [List.foldl_cons, List.length_cons]; omega
theorem tsN_len (ts : List Tm) : (tsN ts).length ≤ ts.length := by unfold tsN; rw [List.length_map]; exact List.length_filter_le _ _
theorem Fm.free_len (f : Fm) : f.free.length ≤ f.wt := by
  induction f using Fm.induct with
  | h f ih =>
  rw [f.free_eq]
  have h1 := addA_len (f.bs.map (·.name)) (tsN f.ts ++ Fm.frees f.l) []
  have h2 := tsN_len f.ts
  have h3 : ∀ l : List Fm, (∀ x ∈ l, x ∈ f.l) → (Fm.frees l).length ≤ Fm.wts l := by
    intro l
    induction l with
    | nil => intro _; simp [Fm.frees]
    | cons x r ihr =>
      intro hx
      have := ihr (fun y hy => hx y (by simp [hy]))
      have := ih x (hx x (by simp))
      simp only [Fm.frees, Fm.wts, List.length_append]; omega
  have := h3 f.l (fun _ h => h)
  have := f.wt_eq
  simp only [List.length_append, List.length_nil] at h1
  omega
theorem frees_len (l : List Fm) : (Fm.frees l).length ≤ Fm.wts l := by
  induction l with
  | nil => simp [Fm.frees]
  | cons x r ih => have := x.free_len; simp only [Fm.frees, Fm.wts, List.length_append]; omega
theorem frees_append (a b : List Fm) : Fm.frees (a ++ b) = Fm.frees a ++ Fm.frees b := by
  induction a with
  | nil => simp [Fm.frees]
  | cons x r ih => simp only [List.cons_append, Fm.frees, ih, List.append_assoc]
theorem frees_take_succ {l : List Fm} {i : Nat} {z : Fm} (h : l[i]? = some z) : Fm.frees (l.take (i + 1)) = Fm.frees (l.take i) ++ z.free := by
  rw [List.take_add_one, h, frees_append]; simp [Fm.frees]
theorem tsN_take_succ {l : List Tm} {i : Nat} {z : Tm} (h : l[i]? = some z) : tsN (l.take (i + 1)) = tsN (l.take i) ++ (if z.kind != 1 then [z.name] else []) := by
  unfold tsN
  rw [List.take_add_one, h, List.filter_append, List.map_append]
  congr 1
  simp only [Option.toList_some, List.filter_cons, List.filter_nil]
  cases z.kind != 1 <;> rfl
theorem cells_str (l : List Nm) : ((l.map D.str).all fun d => d.cells.length == 1) = true := by
  rw [List.all_eq_true]
  intro d hd
  obtain ⟨t, _, rfl⟩ := List.mem_map.1 hd
  rfl

section
variable {G : Nat → Option (List D)}
theorem fn20 (f : Fm) (hf : f.wt < 1099511627776) : PFn Tryd.prog G 20 [f.d] (· = [.sl (f.free.map .str)]) := by
  induction f using Fm.induct with
  | h f ih =>
  rw [d_cells]
  refine PFn.walk (fn := Tryd.f20) (code := bodyOf Tryd.f20) mixed
    (LL [(3, loopW (α := Nat) Tryd.prog G L0 0 (loopN (bodyOf Tryd.f20) 0) [1] (fun i => i ≤ f.ts.length) (fun i => f.ts.length - i)
        (fun i => [(3, .vec 1 ((tsN (f.ts.take i)).map .str)), (4, .d (.int .i64 i))]) (fun H i => [H.getD 0 .dead, .vec (tsN (f.ts.take i)).length 1])),
      (8, loopW (α := Nat) Tryd.prog G L0 0 (loopN (bodyOf Tryd.f20) 1) [1] (fun i => i ≤ f.l.length) (fun i => f.l.length - i)
        (fun i => [(3, .vec 1 ((tsN f.ts ++ Fm.frees (f.l.take i)).map .str)), (5, .d (.int .i64 i))]) (fun H i => [H.getD 0 .dead, .vec (tsN f.ts ++ Fm.frees (f.l.take i)).length 1])),
      (13, loopW (α := Nat) Tryd.prog G L0 0 (loopN (bodyOf Tryd.f20) 2) [1, 3] (fun i => i ≤ f.bs.length) (fun i => f.bs.length - i)
        (fun i => [(6, .vec 2 (((f.bs.take i).map (·.name)).map .str)), (7, .d (.int .i64 i))]) (fun H i => [H.getD 0 .dead, H.getD 1 .dead, .vec i 1])),
      (18, loopW (α := Nat) Tryd.prog G L0 0 (loopN (bodyOf Tryd.f20) 3) [1, 3, 6] (fun i => i ≤ (tsN f.ts ++ Fm.frees f.l).length) (fun i => (tsN f.ts ++ Fm.frees f.l).length - i)
        (fun i => [(8, .vec 3 ((((tsN f.ts ++ Fm.frees f.l).take i).foldl (addA (f.bs.map (·.name))) []).map .str)), (9, .d (.int .i64 i))]) (fun H i => [H.getD 0 .dead, H.getD 1 .dead, H.getD 2 .dead, .vec (((tsN f.ts ++ Fm.frees f.l).take i).foldl (addA (f.bs.map (·.name))) []).length 1]))])
    Tryd.func20 (by kernel_rfl) ⟨_, rfl⟩
    (LoopsOk.four (b1 := loopN (bodyOf Tryd.f20) 0) (b2 := loopN (bodyOf Tryd.f20) 1) (b3 := loopN (bodyOf Tryd.f20) 2) (b4 := loopN (bodyOf Tryd.f20) 3) (by kernel_rfl) (by kernel_rfl) (by kernel_rfl) (by kernel_rfl) (by kernel_rfl) (loopW_sound mixed (ok0 (by kernel_rfl))) (loopW_sound mixed (ok0 (by kernel_rfl))) (loopW_sound mixed (ok0 (by kernel_rfl))) (loopW_sound mixed (ok0 (by kernel_rfl)))) ?_
  apply @of_vc _ (
    ∃ (x0 : Nat), x0 ≤ List.length (Fm.ts f) ∧ ((AV.ptr (0 : Nat) (0 : Nat) = AV.ptr (0 : Nat) (0 : Nat) ∧ ([] = List.map D.str (tsN (List.take x0 (Fm.ts f))) ∧ List.length ([] : List D) ≤ List.length (tsN (List.take x0 (Fm.ts f)))) ∧ (0 : Int) = (↑x0 : Int) ∧ True) ∧ (Fm.kind f = Fm.kind f ∧ Fm.name f = Fm.name f ∧ Fm.n f = Fm.n f ∧ List.map Tm.d (Fm.ts f) = List.map Tm.d (Fm.ts f) ∧ List.map Bd.d (Fm.bs f) = List.map Bd.d (Fm.bs f) ∧ List.map Fm.d (Fm.l f) = List.map Fm.d (Fm.l f) ∧ True) ∧ True) ∧ ∀ (x : Nat), x ≤ List.length (Fm.ts f) → (decide ((↑x : Int) < (↑(List.length (List.map Tm.d (Fm.ts f))) : Int)) = true → ((0 : Int) ≤ (↑x : Int) ∧ (List.map Tm.d (Fm.ts f))[Int.toNat (↑x : Int)]? = some (aggAt [Sh.int IntKind.i64, Sh.str, Sh.int IntKind.i64] (List.map Tm.d (Fm.ts f)) (Int.toNat (↑x : Int)))) ∧ ((D.toInt (Option.getD (cellAt (List.map Tm.d (Fm.ts f)) (Int.toNat (↑x : Int)) (0 : Nat)) default) != (1 : Int)) = true → ((0 : Int) ≤ (↑x : Int) ∧ (List.map Tm.d (Fm.ts f))[Int.toNat (↑x : Int)]? = some (aggAt [Sh.int IntKind.i64, Sh.str, Sh.int IntKind.i64] (List.map Tm.d (Fm.ts f)) (Int.toNat (↑x : Int)))) ∧ (List.length (tsN (List.take x (Fm.ts f))) = List.length (List.map D.str (tsN (List.take x (Fm.ts f)))) ∧ (1 : Nat) = (1 : Nat) ∧ FA (List.map D.str (tsN (List.take x (Fm.ts f)))) [D.str (D.toStr (Option.getD (cellAt (List.map Tm.d (Fm.ts f)) (Int.toNat (↑x : Int)) ((0 : Nat) + (1 : Nat))) default))] (nat_lit 1) (nat_lit 16)) ∧ ∃ (y : Nat), y ≤ List.length (Fm.ts f) ∧ List.length (Fm.ts f) - y < List.length (Fm.ts f) - x ∧ (AV.ptr (0 : Nat) (0 : Nat) = AV.ptr (0 : Nat) (0 : Nat) ∧ List.map D.str (tsN (List.take x (Fm.ts f))) ++ List.reverse [(fun (x_1 : Sh × Nat) => match x_1 with | (sh, j) => Sh.norm sh (Option.getD (cellAt (List.map Tm.d (Fm.ts f)) (Int.toNat (↑x : Int)) j) default)) (Sh.str, (0 : Nat) + (1 : Nat))] = List.map D.str (tsN (List.take y (Fm.ts f))) ∧ IntKind.wrap IntKind.i64 ((↑x : Int) + (1 : Int)) = (↑y : Int) ∧ True) ∧ (Fm.kind f = Fm.kind f ∧ Fm.name f = Fm.name f ∧ Fm.n f = Fm.n f ∧ List.map Tm.d (Fm.ts f) = List.map Tm.d (Fm.ts f) ∧ List.map Bd.d (Fm.bs f) = List.map Bd.d (Fm.bs f) ∧ List.map Fm.d (Fm.l f) = List.map Fm.d (Fm.l f) ∧ True) ∧ List.length (List.map D.str (tsN (List.take x (Fm.ts f)))) + List.length (List.reverse [(fun (x_1 : Sh × Nat) => match x_1 with | (sh, j) => Sh.norm sh (Option.getD (cellAt (List.map Tm.d (Fm.ts f)) (Int.toNat (↑x : Int)) j) default)) (Sh.str, (0 : Nat) + (1 : Nat))]) = List.length (tsN (List.take y (Fm.ts f))) ∧ True) ∧ ((D.toInt (Option.getD (cellAt (List.map Tm.d (Fm.ts f)) (Int.toNat (↑x : Int)) (0 : Nat)) default) != (1 : Int)) = false → ∃ (y : Nat), y ≤ List.length (Fm.ts f) ∧ List.length (Fm.ts f) - y < List.length (Fm.ts f) - x ∧ (AV.ptr (0 : Nat) (0 : Nat) = AV.ptr (0 : Nat) (0 : Nat) ∧ List.map D.str (tsN (List.take x (Fm.ts f))) = List.map D.str (tsN (List.take y (Fm.ts f))) ∧ IntKind.wrap IntKind.i64 ((↑x : Int) + (1 : Int)) = (↑y : Int) ∧ True) ∧ (Fm.kind f = Fm.kind f ∧ Fm.name f = Fm.name f ∧ Fm.n f = Fm.n f ∧ List.map Tm.d (Fm.ts f) = List.map Tm.d (Fm.ts f) ∧ List.map Bd.d (Fm.bs f) = List.map Bd.d (Fm.bs f) ∧ List.map Fm.d (Fm.l f) = List.map Fm.d (Fm.l f) ∧ True) ∧ List.length (tsN (List.take x (Fm.ts f))) = List.length (tsN (List.take y (Fm.ts f))) ∧ True)) ∧ (decide ((↑x : Int) < (↑(List.length (List.map Tm.d (Fm.ts f))) : Int)) = false → ∃ (x0 : Nat), x0 ≤ List.length (Fm.l f) ∧ ((AV.ptr (0 : Nat) (0 : Nat) = AV.ptr (0 : Nat) (0 : Nat) ∧ List.map D.str (tsN (List.take x (Fm.ts f))) = List.map D.str (tsN (Fm.ts f) ++ Fm.frees (List.take x0 (Fm.l f))) ∧ (0 : Int) = (↑x0 : Int) ∧ True) ∧ (Fm.kind f = Fm.kind f ∧ Fm.name f = Fm.name f ∧ Fm.n f = Fm.n f ∧ List.map Tm.d (Fm.ts f) = List.map Tm.d (Fm.ts f) ∧ List.map Bd.d (Fm.bs f) = List.map Bd.d (Fm.bs f) ∧ List.map Fm.d (Fm.l f) = List.map Fm.d (Fm.l f) ∧ True) ∧ List.length (tsN (List.take x (Fm.ts f))) = List.length (tsN (Fm.ts f) ++ Fm.frees (List.take x0 (Fm.l f))) ∧ True) ∧ ∀ (x : Nat), x ≤ List.length (Fm.l f) → (decide ((↑x : Int) < (↑(List.length (List.map Fm.d (Fm.l f))) : Int)) = true → ((0 : Int) ≤ (↑x : Int) ∧ (List.map Fm.d (Fm.l f))[Int.toNat (↑x : Int)]? = some (aggAt [Sh.int IntKind.i64, Sh.str, Sh.int IntKind.i64, Sh.sl, Sh.sl, Sh.sl] (List.map Fm.d (Fm.l f)) (Int.toNat (↑x : Int)))) ∧ PFn Tryd.prog G (20 : Nat) [aggAt [Sh.int IntKind.i64, Sh.str, Sh.int IntKind.i64, Sh.sl, Sh.sl, Sh.sl] (List.map Fm.d (Fm.l f)) (Int.toNat (↑x : Int))] fun (rs : List D) => ∃ (l : List D), rs = [D.sl l] ∧ (List.length (tsN (Fm.ts f) ++ Fm.frees (List.take x (Fm.l f))) = List.length (List.map D.str (tsN (Fm.ts f) ++ Fm.frees (List.take x (Fm.l f)))) ∧ (1 : Nat) = (1 : Nat) ∧ FA (List.map D.str (tsN (Fm.ts f) ++ Fm.frees (List.take x (Fm.l f)))) l (nat_lit 1) (nat_lit 16)) ∧ ∃ (y : Nat), y ≤ List.length (Fm.l f) ∧ List.length (Fm.l f) - y < List.length (Fm.l f) - x ∧ (AV.ptr (0 : Nat) (0 : Nat) = AV.ptr (0 : Nat) (0 : Nat) ∧ List.map D.str (tsN (Fm.ts f) ++ Fm.frees (List.take x (Fm.l f))) ++ l = List.map D.str (tsN (Fm.ts f) ++ Fm.frees (List.take y (Fm.l f))) ∧ IntKind.wrap IntKind.i64 ((↑x : Int) + (1 : Int)) = (↑y : Int) ∧ True) ∧ (Fm.kind f = Fm.kind f ∧ Fm.name f = Fm.name f ∧ Fm.n f = Fm.n f ∧ List.map Tm.d (Fm.ts f) = List.map Tm.d (Fm.ts f) ∧ List.map Bd.d (Fm.bs f) = List.map Bd.d (Fm.bs f) ∧ List.map Fm.d (Fm.l f) = List.map Fm.d (Fm.l f) ∧ True) ∧ List.length (List.map D.str (tsN (Fm.ts f) ++ Fm.frees (List.take x (Fm.l f)))) + List.length l = List.length (tsN (Fm.ts f) ++ Fm.frees (List.take y (Fm.l f))) ∧ True) ∧ (decide ((↑x : Int) < (↑(List.length (List.map Fm.d (Fm.l f))) : Int)) = false → ∃ (x0 : Nat), x0 ≤ List.length (Fm.bs f) ∧ ((AV.ptr (0 : Nat) (0 : Nat) = AV.ptr (0 : Nat) (0 : Nat) ∧ List.map D.str (tsN (Fm.ts f) ++ Fm.frees (List.take x (Fm.l f))) = List.map D.str (tsN (Fm.ts f) ++ Fm.frees (List.take x (Fm.l f))) ∧ ([] = List.map D.str (List.map (fun (x : Bd) => Bd.name x) (List.take x0 (Fm.bs f))) ∧ List.length ([] : List D) ≤ x0) ∧ (0 : Int) = (↑x0 : Int) ∧ True) ∧ (Fm.kind f = Fm.kind f ∧ Fm.name f = Fm.name f ∧ Fm.n f = Fm.n f ∧ List.map Tm.d (Fm.ts f) = List.map Tm.d (Fm.ts f) ∧ List.map Bd.d (Fm.bs f) = List.map Bd.d (Fm.bs f) ∧ List.map Fm.d (Fm.l f) = List.map Fm.d (Fm.l f) ∧ True) ∧ List.length (tsN (Fm.ts f) ++ Fm.frees (List.take x (Fm.l f))) = List.length (tsN (Fm.ts f) ++ Fm.frees (List.take x (Fm.l f))) ∧ True) ∧ ∀ (x_1 : Nat), x_1 ≤ List.length (Fm.bs f) → (decide ((↑x_1 : Int) < (↑(List.length (List.map Bd.d (Fm.bs f))) : Int)) = true → ((0 : Int) ≤ (↑x_1 : Int) ∧ (List.map Bd.d (Fm.bs f))[Int.toNat (↑x_1 : Int)]? = some (aggAt [Sh.str, Sh.int IntKind.i64] (List.map Bd.d (Fm.bs f)) (Int.toNat (↑x_1 : Int)))) ∧ (x_1 = List.length (List.map D.str (List.map (fun (x : Bd) => Bd.name x) (List.take x_1 (Fm.bs f)))) ∧ (1 : Nat) = (1 : Nat) ∧ FA (List.map D.str (List.map (fun (x : Bd) => Bd.name x) (List.take x_1 (Fm.bs f)))) [D.str (D.toStr (Option.getD (cellAt (List.map Bd.d (Fm.bs f)) (Int.toNat (↑x_1 : Int)) (0 : Nat)) default))] (nat_lit 1) (nat_lit 16)) ∧ ∃ (y : Nat), y ≤ List.length (Fm.bs f) ∧ List.length (Fm.bs f) - y < List.length (Fm.bs f) - x_1 ∧ (AV.ptr (0 : Nat) (0 : Nat) = AV.ptr (0 : Nat) (0 : Nat) ∧ List.map D.str (tsN (Fm.ts f) ++ Fm.frees (List.take x (Fm.l f))) = List.map D.str (tsN (Fm.ts f) ++ Fm.frees (List.take x (Fm.l f))) ∧ List.map D.str (List.map (fun (x : Bd) => Bd.name x) (List.take x_1 (Fm.bs f))) ++ List.reverse [(fun (x : Sh × Nat) => match x with | (sh, j) => Sh.norm sh (Option.getD (cellAt (List.map Bd.d (Fm.bs f)) (Int.toNat (↑x_1 : Int)) j) default)) (Sh.str, (0 : Nat))] = List.map D.str (List.map (fun (x : Bd) => Bd.name x) (List.take y (Fm.bs f))) ∧ IntKind.wrap IntKind.i64 ((↑x_1 : Int) + (1 : Int)) = (↑y : Int) ∧ True) ∧ (Fm.kind f = Fm.kind f ∧ Fm.name f = Fm.name f ∧ Fm.n f = Fm.n f ∧ List.map Tm.d (Fm.ts f) = List.map Tm.d (Fm.ts f) ∧ List.map Bd.d (Fm.bs f) = List.map Bd.d (Fm.bs f) ∧ List.map Fm.d (Fm.l f) = List.map Fm.d (Fm.l f) ∧ True) ∧ List.length (tsN (Fm.ts f) ++ Fm.frees (List.take x (Fm.l f))) = List.length (tsN (Fm.ts f) ++ Fm.frees (List.take x (Fm.l f))) ∧ List.length (List.map D.str (List.map (fun (x : Bd) => Bd.name x) (List.take x_1 (Fm.bs f)))) + List.length (List.reverse [(fun (x : Sh × Nat) => match x with | (sh, j) => Sh.norm sh (Option.getD (cellAt (List.map Bd.d (Fm.bs f)) (Int.toNat (↑x_1 : Int)) j) default)) (Sh.str, (0 : Nat))]) = y ∧ True) ∧ (decide ((↑x_1 : Int) < (↑(List.length (List.map Bd.d (Fm.bs f))) : Int)) = false → ∃ (x0 : Nat), x0 ≤ List.length (tsN (Fm.ts f) ++ Fm.frees (Fm.l f)) ∧ ((AV.ptr (0 : Nat) (0 : Nat) = AV.ptr (0 : Nat) (0 : Nat) ∧ List.map D.str (tsN (Fm.ts f) ++ Fm.frees (List.take x (Fm.l f))) = List.map D.str (tsN (Fm.ts f) ++ Fm.frees (List.take x (Fm.l f))) ∧ List.map D.str (List.map (fun (x : Bd) => Bd.name x) (List.take x_1 (Fm.bs f))) = List.map D.str (List.map (fun (x : Bd) => Bd.name x) (List.take x_1 (Fm.bs f))) ∧ ([] = List.map D.str (List.foldl (addA (List.map (fun (x : Bd) => Bd.name x) (Fm.bs f))) [] (List.take x0 (tsN (Fm.ts f) ++ Fm.frees (Fm.l f)))) ∧ List.length ([] : List D) ≤ List.length (List.foldl (addA (List.map (fun (x : Bd) => Bd.name x) (Fm.bs f))) [] (List.take x0 (tsN (Fm.ts f) ++ Fm.frees (Fm.l f))))) ∧ (0 : Int) = (↑x0 : Int) ∧ True) ∧ (Fm.kind f = Fm.kind f ∧ Fm.name f = Fm.name f ∧ Fm.n f = Fm.n f ∧ List.map Tm.d (Fm.ts f) = List.map Tm.d (Fm.ts f) ∧ List.map Bd.d (Fm.bs f) = List.map Bd.d (Fm.bs f) ∧ List.map Fm.d (Fm.l f) = List.map Fm.d (Fm.l f) ∧ True) ∧ List.length (tsN (Fm.ts f) ++ Fm.frees (List.take x (Fm.l f))) = List.length (tsN (Fm.ts f) ++ Fm.frees (List.take x (Fm.l f))) ∧ x_1 = x_1 ∧ True) ∧ ∀ (x_2 : Nat), x_2 ≤ List.length (tsN (Fm.ts f) ++ Fm.frees (Fm.l f)) → (decide ((↑x_2 : Int) < (↑(List.length (List.map D.str (tsN (Fm.ts f) ++ Fm.frees (List.take x (Fm.l f))))) : Int)) = true → ((0 : Int) ≤ (↑x_2 : Int) ∧ (List.map D.str (tsN (Fm.ts f) ++ Fm.frees (List.take x (Fm.l f))))[Int.toNat (↑x_2 : Int)]? = some (D.str (D.toStr (Option.getD (cellAt (List.map D.str (tsN (Fm.ts f) ++ Fm.frees (List.take x (Fm.l f)))) (Int.toNat (↑x_2 : Int)) (0 : Nat)) default)))) ∧ PFn Tryd.prog G (25 : Nat) [D.sl (List.map D.str (List.map (fun (x : Bd) => Bd.name x) (List.take x_1 (Fm.bs f)))), D.str (D.toStr (Option.getD (cellAt (List.map D.str (tsN (Fm.ts f) ++ Fm.frees (List.take x (Fm.l f)))) (Int.toNat (↑x_2 : Int)) (0 : Nat)) default))] fun (rs : List D) => ∃ (b : Bool), rs = [D.bool b] ∧ ((!b) = true → (0 : Int) ≤ (↑x_2 : Int) ∧ (List.map D.str (tsN (Fm.ts f) ++ Fm.frees (List.take x (Fm.l f))))[Int.toNat (↑x_2 : Int)]? = some (D.str (D.toStr (Option.getD (cellAt (List.map D.str (tsN (Fm.ts f) ++ Fm.frees (List.take x (Fm.l f)))) (Int.toNat (↑x_2 : Int)) (0 : Nat)) default)))) ∧ PFn Tryd.prog G (25 : Nat) [D.sl (List.map D.str (List.foldl (addA (List.map (fun (x : Bd) => Bd.name x) (Fm.bs f))) [] (List.take x_2 (tsN (Fm.ts f) ++ Fm.frees (Fm.l f))))), D.str (D.toStr (Option.getD (cellAt (List.map D.str (tsN (Fm.ts f) ++ Fm.frees (List.take x (Fm.l f)))) (Int.toNat (↑x_2 : Int)) (0 : Nat)) default))] fun (rs : List D) => ∃ (b_1 : Bool), rs = [D.bool b_1] ∧ ((bif !b then !b_1 else false) = true → ((0 : Int) ≤ (↑x_2 : Int) ∧ (List.map D.str (tsN (Fm.ts f) ++ Fm.frees (List.take x (Fm.l f))))[Int.toNat (↑x_2 : Int)]? = some (D.str (D.toStr (Option.getD (cellAt (List.map D.str (tsN (Fm.ts f) ++ Fm.frees (List.take x (Fm.l f)))) (Int.toNat (↑x_2 : Int)) (0 : Nat)) default)))) ∧ (List.length (List.foldl (addA (List.map (fun (x : Bd) => Bd.name x) (Fm.bs f))) [] (List.take x_2 (tsN (Fm.ts f) ++ Fm.frees (Fm.l f)))) = List.length (List.map D.str (List.foldl (addA (List.map (fun (x : Bd) => Bd.name x) (Fm.bs f))) [] (List.take x_2 (tsN (Fm.ts f) ++ Fm.frees (Fm.l f))))) ∧ (1 : Nat) = (1 : Nat) ∧ FA (List.map D.str (List.foldl (addA (List.map (fun (x : Bd) => Bd.name x) (Fm.bs f))) [] (List.take x_2 (tsN (Fm.ts f) ++ Fm.frees (Fm.l f))))) [D.str (D.toStr (Option.getD (cellAt (List.map D.str (tsN (Fm.ts f) ++ Fm.frees (List.take x (Fm.l f)))) (Int.toNat (↑x_2 : Int)) (0 : Nat)) default))] (nat_lit 1) (nat_lit 16)) ∧ ∃ (y : Nat), y ≤ List.length (tsN (Fm.ts f) ++ Fm.frees (Fm.l f)) ∧ List.length (tsN (Fm.ts f) ++ Fm.frees (Fm.l f)) - y < List.length (tsN (Fm.ts f) ++ Fm.frees (Fm.l f)) - x_2 ∧ (AV.ptr (0 : Nat) (0 : Nat) = AV.ptr (0 : Nat) (0 : Nat) ∧ List.map D.str (tsN (Fm.ts f) ++ Fm.frees (List.take x (Fm.l f))) = List.map D.str (tsN (Fm.ts f) ++ Fm.frees (List.take x (Fm.l f))) ∧ List.map D.str (List.map (fun (x : Bd) => Bd.name x) (List.take x_1 (Fm.bs f))) = List.map D.str (List.map (fun (x : Bd) => Bd.name x) (List.take x_1 (Fm.bs f))) ∧ List.map D.str (List.foldl (addA (List.map (fun (x : Bd) => Bd.name x) (Fm.bs f))) [] (List.take x_2 (tsN (Fm.ts f) ++ Fm.frees (Fm.l f)))) ++ List.reverse [(fun (x_3 : Sh × Nat) => match x_3 with | (sh, j) => Sh.norm sh (Option.getD (cellAt (List.map D.str (tsN (Fm.ts f) ++ Fm.frees (List.take x (Fm.l f)))) (Int.toNat (↑x_2 : Int)) j) default)) (Sh.str, (0 : Nat))] = List.map D.str (List.foldl (addA (List.map (fun (x : Bd) => Bd.name x) (Fm.bs f))) [] (List.take y (tsN (Fm.ts f) ++ Fm.frees (Fm.l f)))) ∧ IntKind.wrap IntKind.i64 ((↑x_2 : Int) + (1 : Int)) = (↑y : Int) ∧ True) ∧ (Fm.kind f = Fm.kind f ∧ Fm.name f = Fm.name f ∧ Fm.n f = Fm.n f ∧ List.map Tm.d (Fm.ts f) = List.map Tm.d (Fm.ts f) ∧ List.map Bd.d (Fm.bs f) = List.map Bd.d (Fm.bs f) ∧ List.map Fm.d (Fm.l f) = List.map Fm.d (Fm.l f) ∧ True) ∧ List.length (tsN (Fm.ts f) ++ Fm.frees (List.take x (Fm.l f))) = List.length (tsN (Fm.ts f) ++ Fm.frees (List.take x (Fm.l f))) ∧ x_1 = x_1 ∧ List.length (List.map D.str (List.foldl (addA (List.map (fun (x : Bd) => Bd.name x) (Fm.bs f))) [] (List.take x_2 (tsN (Fm.ts f) ++ Fm.frees (Fm.l f))))) + List.length (List.reverse [(fun (x_3 : Sh × Nat) => match x_3 with | (sh, j) => Sh.norm sh (Option.getD (cellAt (List.map D.str (tsN (Fm.ts f) ++ Fm.frees (List.take x (Fm.l f)))) (Int.toNat (↑x_2 : Int)) j) default)) (Sh.str, (0 : Nat))]) = List.length (List.foldl (addA (List.map (fun (x : Bd) => Bd.name x) (Fm.bs f))) [] (List.take y (tsN (Fm.ts f) ++ Fm.frees (Fm.l f)))) ∧ True) ∧ ((bif !b then !b_1 else false) = false → ∃ (y : Nat), y ≤ List.length (tsN (Fm.ts f) ++ Fm.frees (Fm.l f)) ∧ List.length (tsN (Fm.ts f) ++ Fm.frees (Fm.l f)) - y < List.length (tsN (Fm.ts f) ++ Fm.frees (Fm.l f)) - x_2 ∧ (AV.ptr (0 : Nat) (0 : Nat) = AV.ptr (0 : Nat) (0 : Nat) ∧ List.map D.str (tsN (Fm.ts f) ++ Fm.frees (List.take x (Fm.l f))) = List.map D.str (tsN (Fm.ts f) ++ Fm.frees (List.take x (Fm.l f))) ∧ List.map D.str (List.map (fun (x : Bd) => Bd.name x) (List.take x_1 (Fm.bs f))) = List.map D.str (List.map (fun (x : Bd) => Bd.name x) (List.take x_1 (Fm.bs f))) ∧ List.map D.str (List.foldl (addA (List.map (fun (x : Bd) => Bd.name x) (Fm.bs f))) [] (List.take x_2 (tsN (Fm.ts f) ++ Fm.frees (Fm.l f)))) = List.map D.str (List.foldl (addA (List.map (fun (x : Bd) => Bd.name x) (Fm.bs f))) [] (List.take y (tsN (Fm.ts f) ++ Fm.frees (Fm.l f)))) ∧ IntKind.wrap IntKind.i64 ((↑x_2 : Int) + (1 : Int)) = (↑y : Int) ∧ True) ∧ (Fm.kind f = Fm.kind f ∧ Fm.name f = Fm.name f ∧ Fm.n f = Fm.n f ∧ List.map Tm.d (Fm.ts f) = List.map Tm.d (Fm.ts f) ∧ List.map Bd.d (Fm.bs f) = List.map Bd.d (Fm.bs f) ∧ List.map Fm.d (Fm.l f) = List.map Fm.d (Fm.l f) ∧ True) ∧ List.length (tsN (Fm.ts f) ++ Fm.frees (List.take x (Fm.l f))) = List.length (tsN (Fm.ts f) ++ Fm.frees (List.take x (Fm.l f))) ∧ x_1 = x_1 ∧ List.length (List.foldl (addA (List.map (fun (x : Bd) => Bd.name x) (Fm.bs f))) [] (List.take x_2 (tsN (Fm.ts f) ++ Fm.frees (Fm.l f)))) = List.length (List.foldl (addA (List.map (fun (x : Bd) => Bd.name x) (Fm.bs f))) [] (List.take y (tsN (Fm.ts f) ++ Fm.frees (Fm.l f)))) ∧ True)) ∧ (decide ((↑x_2 : Int) < (↑(List.length (List.map D.str (tsN (Fm.ts f) ++ Fm.frees (List.take x (Fm.l f))))) : Int)) = false → [D.sl (List.map D.str (List.foldl (addA (List.map (fun (x : Bd) => Bd.name x) (Fm.bs f))) [] (List.take x_2 (tsN (Fm.ts f) ++ Fm.frees (Fm.l f)))))] = [D.sl (List.map D.str (Fm.free f))])))))
  · kernel_rfl
  have hw := f.wt_eq
  have hwl := wts_len f.l
  have htl := tsN_len f.ts
  have hfl := frees_len f.l
  refine ⟨0, Nat.zero_le _, ⟨⟨rfl, ⟨by simp [tsN], by simp⟩, rfl, trivial⟩, ⟨rfl, rfl, rfl, rfl, rfl, rfl, trivial⟩, trivial⟩, fun i hi => ⟨fun hlt => ?_, fun hge => ?_⟩⟩
  · simp only [List.length_map, decide_eq_true_eq] at hlt
    obtain ⟨z, hz, hm⟩ := get_nat (l := f.ts) (x := i) (by omega)
    dsimp only
    rw [Int.toNat_natCast, agg_tm hz, cell_tm0 hz, cell_tm1 hz]
    have e1 : Sh.norm Sh.str (Option.getD (some (D.str z.name)) default) = .str z.name := rfl
    have e2 : D.toStr (Option.getD (some (D.str z.name)) default) = z.name := rfl
    have e3 : D.toInt (Option.getD (some (D.int IntKind.i64 z.kind)) default) = z.kind := rfl
    rw [e1, e2, e3]
    have hnx := tsN_take_succ hz
    have h1 := tsN_len (f.ts.take i)
    rw [List.length_take] at h1
    refine ⟨⟨by omega, by simp [hz]⟩, fun hk => ⟨⟨by omega, by simp [hz]⟩, ⟨by simp, rfl, ?_, ?_⟩, i + 1, by omega, by omega, ⟨rfl, ?_, ?_, trivial⟩, ⟨rfl, rfl, rfl, rfl, rfl, rfl, trivial⟩, ?_, trivial⟩,
      fun hk => ⟨i + 1, by omega, by omega, ⟨rfl, ?_, ?_, trivial⟩, ⟨rfl, rfl, rfl, rfl, rfl, rfl, trivial⟩, ?_, trivial⟩⟩
    · simp [D.cells]
    · simp; omega
    · rw [hnx, hk]; simp
    · rw [wrap64 (by omega) (by omega)]; simp
    · rw [hnx, hk]; simp
    · rw [hnx, hk]; simp
    · rw [wrap64 (by omega) (by omega)]; simp
    · rw [hnx, hk]; simp
  simp only [List.length_map, decide_eq_false_iff_not] at hge
  rw [List.take_of_length_le (by omega : f.ts.length ≤ i)]
  refine ⟨0, Nat.zero_le _, ⟨⟨rfl, by simp [Fm.frees], rfl, trivial⟩, ⟨rfl, rfl, rfl, rfl, rfl, rfl, trivial⟩, by simp [Fm.frees], trivial⟩, fun j hj => ⟨fun hlt => ?_, fun hge2 => ?_⟩⟩
  · simp only [List.length_map, decide_eq_true_eq] at hlt
    obtain ⟨z, hz, hm⟩ := get_nat (l := f.l) (x := j) (by omega)
    rw [Int.toNat_natCast, agg_fm hz]
    refine ⟨⟨by omega, by simp [hz]⟩, ?_⟩
    have hzw := Fm.wt_lt hm
    refine (ih z hm (by omega)).mono ?_
    rintro rs rfl
    have hnx := frees_take_succ hz
    have h1 := frees_len (f.l.take (j + 1))
    have h2 := wtsTake f.l (j + 1)
    rw [hnx, List.length_append] at h1
    refine ⟨_, rfl, ⟨by simp, rfl, ?_, ?_⟩, j + 1, by omega, by omega, ⟨rfl, ?_, ?_, trivial⟩, ⟨rfl, rfl, rfl, rfl, rfl, rfl, trivial⟩, ?_, trivial⟩
    · have := cells_str (tsN f.ts ++ Fm.frees (f.l.take j) ++ z.free)
      simpa using this
    · simp; omega
    · rw [hnx]; simp
    · rw [wrap64 (by omega) (by omega)]; simp
    · rw [hnx]; simp; omega
  simp only [List.length_map, decide_eq_false_iff_not] at hge2
  rw [List.take_of_length_le (by omega : f.l.length ≤ j)]
  refine ⟨0, Nat.zero_le _, ⟨⟨rfl, rfl, ⟨by simp, by simp⟩, rfl, trivial⟩, ⟨rfl, rfl, rfl, rfl, rfl, rfl, trivial⟩, rfl, trivial⟩, fun k hk => ⟨fun hlt => ?_, fun hge3 => ?_⟩⟩
  · simp only [List.length_map, decide_eq_true_eq] at hlt
    obtain ⟨z, hz, hm⟩ := get_nat (l := f.bs) (x := k) (by omega)
    dsimp only
    rw [Int.toNat_natCast, agg_bd hz, cell_bd0 hz]
    have e1 : Sh.norm Sh.str (Option.getD (some (D.str z.name)) default) = .str z.name := rfl
    have e2 : D.toStr (Option.getD (some (D.str z.name)) default) = z.name := rfl
    rw [e1, e2]
    refine ⟨⟨by omega, by simp [hz]⟩, ⟨by simp; omega, rfl, ?_, ?_⟩, k + 1, by omega, by omega, ⟨rfl, rfl, ?_, ?_, trivial⟩, ⟨rfl, rfl, rfl, rfl, rfl, rfl, trivial⟩, rfl, ?_, trivial⟩
    · have := cells_str ((f.bs.take k).map (·.name) ++ [z.name])
      simpa using this
    · simp; omega
    · rw [List.take_add_one, hz]; simp
    · rw [wrap64 (by omega) (by omega)]; simp
    · simp; omega
  simp only [List.length_map, decide_eq_false_iff_not] at hge3
  rw [List.take_of_length_le (by omega : f.bs.length ≤ k)]
  generalize hall : tsN f.ts ++ Fm.frees f.l = all at *
  have hal : all.length ≤ f.wt := by rw [← hall, List.length_append]; omega
  refine ⟨0, Nat.zero_le _, ⟨⟨rfl, rfl, rfl, ⟨by simp, by simp⟩, rfl, trivial⟩, ⟨rfl, rfl, rfl, rfl, rfl, rfl, trivial⟩, rfl, rfl, trivial⟩, fun m hm => ⟨fun hlt => ?_, fun hge4 => ?_⟩⟩
  · simp only [List.length_map, decide_eq_true_eq] at hlt
    obtain ⟨z, hz, hmz⟩ := get_nat (l := all) (x := m) (by omega)
    dsimp only
    rw [Int.toNat_natCast, cell_str hz]
    have e1 : Sh.norm Sh.str (Option.getD (some (D.str z)) default) = .str z := rfl
    have e2 : D.toStr (Option.getD (some (D.str z)) default) = z := rfl
    rw [e1, e2]
    have hget : (List.map D.str all)[m]? = some (D.str z) := by simp [hz]
    have hol := addA_len (f.bs.map (·.name)) (all.take m) []
    rw [List.length_take, List.length_nil] at hol
    have hnx : (all.take (m + 1)).foldl (addA (f.bs.map (·.name))) [] = addA (f.bs.map (·.name)) ((all.take m).foldl (addA (f.bs.map (·.name))) []) z := by
      rw [List.take_add_one, hz]; simp [List.foldl_append]
    refine ⟨⟨by omega, hget⟩, ?_⟩
    refine (fn25 (f.bs.map (·.name)) z (by simp; omega)).mono ?_
    rintro rs rfl
    refine ⟨_, rfl, fun _ => ⟨by omega, hget⟩, ?_⟩
    refine (fn25 _ z (by omega)).mono ?_
    rintro rs rfl
    refine ⟨_, rfl, ?_⟩
    rw [bif_and]
    refine ⟨fun hyes => ⟨⟨by omega, hget⟩, ⟨by simp, rfl, ?_, ?_⟩, m + 1, by omega, by omega, ⟨rfl, rfl, rfl, ?_, ?_, trivial⟩, ⟨rfl, rfl, rfl, rfl, rfl, rfl, trivial⟩, rfl, rfl, ?_, trivial⟩,
      fun hno => ⟨m + 1, by omega, by omega, ⟨rfl, rfl, rfl, ?_, ?_, trivial⟩, ⟨rfl, rfl, rfl, rfl, rfl, rfl, trivial⟩, rfl, rfl, ?_, trivial⟩⟩
    · have := cells_str ((all.take m).foldl (addA (f.bs.map (·.name))) [] ++ [z])
      simpa using this
    · simp; omega
    · rw [hnx, addA_pos hyes]; simp
    · rw [wrap64 (by omega) (by omega)]; simp
    · rw [hnx, addA_pos hyes]; simp
    · rw [hnx, addA_neg hno]
    · rw [wrap64 (by omega) (by omega)]; simp
    · rw [hnx, addA_neg hno]
  · simp only [List.length_map, decide_eq_false_iff_not] at hge4
    rw [List.take_of_length_le (by omega), f.free_eq, hall]
end
end Go.Fo
/- Nnf; the sanity check. -/
namespace Go.Fo
open Go Go.Sx Go.Proofs
set_option maxRecDepth 100000
set_option maxHeartbeats 0

def Fm.nnf (f : Fm) : Fm := if f.checkI = 0 then f.right false else nil0
theorem checkI_form {f : Fm} (h : f.checkI = 0) : f.formB = true := by
  unfold Fm.checkI at h
  split at h
  · assumption
  · cases h
theorem nil0_d : nil0.d = .agg [.int .i64 0, .str [], .int .i64 0, .sl [], .sl [], .sl []] := by rw [nil0, Fm.d_mk]; rfl

theorem beq_refl (f : Fm) : f.beq f = true := by
  induction f using Fm.induct with
  | h f ih =>
  rw [beq_parts]
  refine ⟨rfl, rfl, rfl, rfl, rfl, ?_⟩
  have : ∀ l : List Fm, (∀ x ∈ l, x.beq x = true) → Fm.beqs l l = true := by
    intro l
    induction l with
    | nil => intro _; rw [Fm.beqs]
    | cons x r ihr => intro h; rw [Fm.beqs, h x (by simp), ihr fun y hy => h y (by simp [hy])]; rfl
  exact this f.l ih

/-- The weight of a normal form. -/
theorem turn_len (s : Nm) : (turnS s).length ≤ 2 := by unfold turnS; repeat (first | (split; · simp) | simp)
theorem right_wt (f : Fm) (hb : f.formB = true) : ∀ t, (f.right t).wt ≤ 3 * f.wt := by
  induction f using Fm.induct with
  | h f ih =>
  intro t
  have hs := formB_shape hb
  cases hs with
  | const k hk => rcases hk with rfl | rfl <;> cases t <;> simp [right_const1, right_const2, Fm.wt, Fm.wts, sumT, sumB]
  | atom k a b hk ha hb ha2 hb2 => rw [right_atom a b hk]; cases t <;> simp [Fm.wt, Fm.wts, sumT, sumB] <;> omega
  | cmp s a b hs ha hb =>
    have := turn_len s
    rw [right_cmp]; cases t <;> simp [Fm.wt, Fm.wts, sumT, sumB] <;> omega
  | not x hx => rw [right_not]; have := ih x (by simp [Fm.l]) hx (!t); simp [Fm.wt, Fm.wts, sumT, sumB] at this ⊢; omega
  | two k x y hk hx hy =>
    have h1 := ih x (by simp [Fm.l]) hx
    have h2 := ih y (by simp [Fm.l]) hy
    have a1 := h1 t; have a2 := h1 (!t); have b1 := h2 t
    rcases hk with rfl | rfl | rfl
    · rw [right_and]; simp [Fm.wt, Fm.wts, sumT, sumB] at *; omega
    · rw [right_or]; simp [Fm.wt, Fm.wts, sumT, sumB] at *; omega
    · rw [right_imp]; simp [Fm.wt, Fm.wts, sumT, sumB] at *; omega
  | quant k bs x hk hb h1 h6 hx =>
    have a1 := ih x (by simp [Fm.l]) hx t
    rcases hk with rfl | rfl
    · rw [right_all]; simp [Fm.wt, Fm.wts, sumT, sumB] at *; omega
    · rw [right_some]; simp [Fm.wt, Fm.wts, sumT, sumB] at *; omega
  | count k n bs x hk h0 hn hb h1 h6 hx =>
    have a1 := ih x (by simp [Fm.l]) hx false
    rcases hk with rfl | rfl
    · rw [right_least]; split <;> simp [Fm.wt, Fm.wts, sumT, sumB] at * <;> omega
    · rw [right_most]; split <;> simp [Fm.wt, Fm.wts, sumT, sumB] at * <;> omega
theorem nnf_wt (f : Fm) : f.nnf.wt ≤ 3 * f.wt + 1 := by
  unfold Fm.nnf
  split
  · rename_i h; have := right_wt f (checkI_form h) false; omega
  · have : nil0.wt = 1 := by decide
    omega

def vT (c : UInt8) : Tm := ⟨2, [c], 0⟩
def lvIn : Fm := .mk 4 [] 0 [vT 108, vT 114] [] []
def lvAt : Fm := .mk 3 [] 0 [vT 108, vT 115] [] []
def lvLeast : Fm := .mk 16 [] 2 [] [⟨[115], 2⟩] [lvAt]
def lvF : Fm := .mk 10 [] 0 [] [] [.mk 13 [] 0 [] [] [lvIn, lvLeast]]
def lvWant : Fm := .mk 11 [] 0 [] [] [lvIn, .mk 17 [] 1 [] [⟨[115], 2⟩] [lvAt]]
def lvBad : Fm := .mk 4 [] 0 [] [] []

theorem lv1 : lvF.checkI = 0 := by decide +kernel
theorem lv2 : lvF.nnf.beq lvWant = true := by decide +kernel
theorem lv3 : lvF.beq lvWant = false := by decide +kernel
theorem lv4 : lvF.look [] [] = [[108], [114]] := by decide +kernel
theorem lv5 : lvF.rank = 5 := by decide +kernel
theorem lv6 : lvF.depth = 4 := by decide +kernel
theorem lv7 : lvBad.checkI = 1 := by decide +kernel
theorem lv8 : nil0.checkI = 1 := by decide +kernel
theorem lv9 : lvF.wt < 100 := by decide +kernel
theorem lv10 : lvF.nnf.wt < 100 := by decide +kernel

section
variable {M : Maps}
theorem fn23 (hM : M.Ok) (f : Fm) (hf : f.wt < 1099511627776) : PFn Tryd.prog (GG M) 23 [f.d] (· = [f.nnf.d, .int .i64 f.checkI]) := by
  have h13 := fn13 hM f (by omega)
  have h38 := fn38 hM f
  rw [d_cells f] at h13 h38 ⊢
  refine PFn.walk (fn := Tryd.f23) (code := bodyOf Tryd.f23) mixed L0 Tryd.func23 (by kernel_rfl) ⟨_, rfl⟩ (ok0 (by kernel_rfl)) ?_
  apply @of_vc _ (
    PFn Tryd.prog (GG M) (13 : Nat) [D.agg [D.int IntKind.i64 (Fm.kind f), D.str (Fm.name f), D.int IntKind.i64 (Fm.n f), D.sl (List.map Tm.d (Fm.ts f)), D.sl (List.map Bd.d (Fm.bs f)), D.sl
    (List.map Fm.d (Fm.l f))]] fun (rs : List D) => ∃ (n : Int), rs = [D.int IntKind.i64 n] ∧ ((n != (0 : Int)) = true → [D.agg [D.int IntKind.i64 (0 : Int), D.str (Array.toList
    (ByteArray.data (ByteArray.mk #[]))), D.int IntKind.i64 (0 : Int), D.sl [], D.sl [], D.sl []], D.int IntKind.i64 n] = [Fm.d (Fm.nnf f), D.int IntKind.i64 (Fm.checkI f)]) ∧ ((n != (0 :
    Int)) = false → PFn Tryd.prog (GG M) (38 : Nat) [D.agg [D.int IntKind.i64 (Fm.kind f), D.str (Fm.name f), D.int IntKind.i64 (Fm.n f), D.sl (List.map Tm.d (Fm.ts f)), D.sl (List.map Bd.d
    (Fm.bs f)), D.sl (List.map Fm.d (Fm.l f))], D.bool false] fun (rs : List D) => ∃ (n : Int), ∃ (s : List UInt8), ∃ (n_1 : Int), ∃ (l : List D), ∃ (l_1 : List D), ∃ (l_2 : List D), rs =
    [D.agg [D.int IntKind.i64 n, D.str s, D.int IntKind.i64 n_1, D.sl l, D.sl l_1, D.sl l_2]] ∧ [D.agg [D.int IntKind.i64 n, D.str s, D.int IntKind.i64 n_1, D.sl l, D.sl l_1, D.sl l_2],
    D.int IntKind.i64 (0 : Int)] = [Fm.d (Fm.nnf f), D.int IntKind.i64 (Fm.checkI f)]))
  · kernel_rfl
  refine h13.mono ?_
  rintro rs rfl
  refine ⟨_, rfl, fun h => ?_, fun h => ?_⟩
  · have h' : ¬ f.checkI = 0 := by simpa using h
    rw [Fm.nnf, if_neg h', nil0_d]
  · have h' : f.checkI = 0 := by simpa using h
    refine (h38 (checkI_form h') false).mono ?_
    rintro rs rfl
    refine ⟨_, _, _, _, _, _, congrArg (fun z => [z]) (Fm.d_eq _), ?_⟩
    rw [← Fm.d_eq, Fm.nnf, if_pos h', h']
theorem fn24 (f : Fm) (hf : f.wt < 1099511627776) : PFn Tryd.prog (GG M) 24 [f.d] (· = [f.nnf.d, .int .i64 f.checkI]) := by
  have h13 := fn14 (G := GG M) f (by omega)
  have h38 := fn39 (G := GG M) f
  rw [d_cells f] at h13 h38 ⊢
  refine PFn.walk (fn := Tryd.f24) (code := bodyOf Tryd.f24) mixed L0 Tryd.func24 (by kernel_rfl) ⟨_, rfl⟩ (ok0 (by kernel_rfl)) ?_
  apply @of_vc _ (
    PFn Tryd.prog (GG M) (14 : Nat) [D.agg [D.int IntKind.i64 (Fm.kind f), D.str (Fm.name f), D.int IntKind.i64 (Fm.n f), D.sl (List.map Tm.d (Fm.ts f)), D.sl (List.map Bd.d (Fm.bs f)), D.sl
    (List.map Fm.d (Fm.l f))]] fun (rs : List D) => ∃ (n : Int), rs = [D.int IntKind.i64 n] ∧ ((n != (0 : Int)) = true → [D.agg [D.int IntKind.i64 (0 : Int), D.str (Array.toList
    (ByteArray.data (ByteArray.mk #[]))), D.int IntKind.i64 (0 : Int), D.sl [], D.sl [], D.sl []], D.int IntKind.i64 n] = [Fm.d (Fm.nnf f), D.int IntKind.i64 (Fm.checkI f)]) ∧ ((n != (0 :
    Int)) = false → PFn Tryd.prog (GG M) (39 : Nat) [D.agg [D.int IntKind.i64 (Fm.kind f), D.str (Fm.name f), D.int IntKind.i64 (Fm.n f), D.sl (List.map Tm.d (Fm.ts f)), D.sl (List.map Bd.d
    (Fm.bs f)), D.sl (List.map Fm.d (Fm.l f))], D.bool false] fun (rs : List D) => ∃ (n : Int), ∃ (s : List UInt8), ∃ (n_1 : Int), ∃ (l : List D), ∃ (l_1 : List D), ∃ (l_2 : List D), rs =
    [D.agg [D.int IntKind.i64 n, D.str s, D.int IntKind.i64 n_1, D.sl l, D.sl l_1, D.sl l_2]] ∧ [D.agg [D.int IntKind.i64 n, D.str s, D.int IntKind.i64 n_1, D.sl l, D.sl l_1, D.sl l_2],
    D.int IntKind.i64 (0 : Int)] = [Fm.d (Fm.nnf f), D.int IntKind.i64 (Fm.checkI f)]))
  · kernel_rfl
  refine h13.mono ?_
  rintro rs rfl
  refine ⟨_, rfl, fun h => ?_, fun h => ?_⟩
  · have h' : ¬ f.checkI = 0 := by simpa using h
    rw [Fm.nnf, if_neg h', nil0_d]
  · have h' : f.checkI = 0 := by simpa using h
    refine (h38 (checkI_form h') false).mono ?_
    rintro rs rfl
    refine ⟨_, _, _, _, _, _, congrArg (fun z => [z]) (Fm.d_eq _), ?_⟩
    rw [← Fm.d_eq, Fm.nnf, if_pos h', h']

theorem fn11 (hM : M.Ok) : PFn Tryd.prog (GG M) 11 [] (· = [.bool true]) := by
  refine PFn.walk (fn := Tryd.f11) (code := bodyOf Tryd.f11) mixed L0 Tryd.func11 (by kernel_rfl) ⟨_, rfl⟩ (ok0 (by kernel_rfl)) ?_
  apply @of_vc _ (
    PFn Tryd.prog (GG M) (28 : Nat) [D.str (Array.toList (ByteArray.data (ByteArray.mk #[(108 : UInt8)])))] fun (rs : List D) => ∃ (n : Int), ∃ (s : List UInt8), ∃ (n_1 : Int), rs = [D.agg
    [D.int IntKind.i64 n, D.str s, D.int IntKind.i64 n_1]] ∧ PFn Tryd.prog (GG M) (28 : Nat) [D.str (Array.toList (ByteArray.data (ByteArray.mk #[(114 : UInt8)])))] fun (rs : List D) => ∃
    (n_2 : Int), ∃ (s_1 : List UInt8), ∃ (n_3 : Int), rs = [D.agg [D.int IntKind.i64 n_2, D.str s_1, D.int IntKind.i64 n_3]] ∧ PFn Tryd.prog (GG M) (28 : Nat) [D.str (Array.toList
    (ByteArray.data (ByteArray.mk #[(108 : UInt8)])))] fun (rs : List D) => ∃ (n_4 : Int), ∃ (s_2 : List UInt8), ∃ (n_5 : Int), rs = [D.agg [D.int IntKind.i64 n_4, D.str s_2, D.int
    IntKind.i64 n_5]] ∧ PFn Tryd.prog (GG M) (28 : Nat) [D.str (Array.toList (ByteArray.data (ByteArray.mk #[(115 : UInt8)])))] fun (rs : List D) => ∃ (n_6 : Int), ∃ (s_3 : List UInt8), ∃
    (n_7 : Int), rs = [D.agg [D.int IntKind.i64 n_6, D.str s_3, D.int IntKind.i64 n_7]] ∧ PFn Tryd.prog (GG M) (23 : Nat) [D.agg [D.int IntKind.i64 (10 : Int), D.str (Array.toList
    (ByteArray.data (ByteArray.mk #[]))), D.int IntKind.i64 (0 : Int), D.sl [], D.sl [], D.sl [D.agg [D.int IntKind.i64 (13 : Int), D.str (Array.toList (ByteArray.data (ByteArray.mk #[]))),
    D.int IntKind.i64 (0 : Int), D.sl [], D.sl [], D.sl [D.agg [D.int IntKind.i64 (4 : Int), D.str (Array.toList (ByteArray.data (ByteArray.mk #[]))), D.int IntKind.i64 (0 : Int), D.sl
    [D.agg [D.int IntKind.i64 n, D.str s, D.int IntKind.i64 n_1], D.agg [D.int IntKind.i64 n_2, D.str s_1, D.int IntKind.i64 n_3]], D.sl [], D.sl []], D.agg [D.int IntKind.i64 (16 : Int),
    D.str (Array.toList (ByteArray.data (ByteArray.mk #[]))), D.int IntKind.i64 (2 : Int), D.sl [], D.sl [D.agg [D.str (Array.toList (ByteArray.data (ByteArray.mk #[(115 : UInt8)]))), D.int
    IntKind.i64 (2 : Int)]], D.sl [D.agg [D.int IntKind.i64 (3 : Int), D.str (Array.toList (ByteArray.data (ByteArray.mk #[]))), D.int IntKind.i64 (0 : Int), D.sl [D.agg [D.int IntKind.i64
    n_4, D.str s_2, D.int IntKind.i64 n_5], D.agg [D.int IntKind.i64 n_6, D.str s_3, D.int IntKind.i64 n_7]], D.sl [], D.sl []]]]]]]]] fun (rs : List D) => ∃ (n_8 : Int), ∃ (s_4 : List
    UInt8), ∃ (n_9 : Int), ∃ (l : List D), ∃ (l_1 : List D), ∃ (l_2 : List D), ∃ (n_10 : Int), rs = [D.agg [D.int IntKind.i64 n_8, D.str s_4, D.int IntKind.i64 n_9, D.sl l, D.sl l_1, D.sl
    l_2], D.int IntKind.i64 n_10] ∧ PFn Tryd.prog (GG M) (19 : Nat) [D.agg [D.int IntKind.i64 (10 : Int), D.str (Array.toList (ByteArray.data (ByteArray.mk #[]))), D.int IntKind.i64 (0 :
    Int), D.sl [], D.sl [], D.sl [D.agg [D.int IntKind.i64 (13 : Int), D.str (Array.toList (ByteArray.data (ByteArray.mk #[]))), D.int IntKind.i64 (0 : Int), D.sl [], D.sl [], D.sl [D.agg
    [D.int IntKind.i64 (4 : Int), D.str (Array.toList (ByteArray.data (ByteArray.mk #[]))), D.int IntKind.i64 (0 : Int), D.sl [D.agg [D.int IntKind.i64 n, D.str s, D.int IntKind.i64 n_1],
    D.agg [D.int IntKind.i64 n_2, D.str s_1, D.int IntKind.i64 n_3]], D.sl [], D.sl []], D.agg [D.int IntKind.i64 (16 : Int), D.str (Array.toList (ByteArray.data (ByteArray.mk #[]))), D.int
    IntKind.i64 (2 : Int), D.sl [], D.sl [D.agg [D.str (Array.toList (ByteArray.data (ByteArray.mk #[(115 : UInt8)]))), D.int IntKind.i64 (2 : Int)]], D.sl [D.agg [D.int IntKind.i64 (3 :
    Int), D.str (Array.toList (ByteArray.data (ByteArray.mk #[]))), D.int IntKind.i64 (0 : Int), D.sl [D.agg [D.int IntKind.i64 n_4, D.str s_2, D.int IntKind.i64 n_5], D.agg [D.int
    IntKind.i64 n_6, D.str s_3, D.int IntKind.i64 n_7]], D.sl [], D.sl []]]]]]]]] fun (rs : List D) => ∃ (l_3 : List D), rs = [D.sl l_3] ∧ PFn Tryd.prog (GG M) (23 : Nat) [D.agg [D.int
    IntKind.i64 (4 : Int), D.str (Array.toList (ByteArray.data (ByteArray.mk #[]))), D.int IntKind.i64 (0 : Int), D.sl [], D.sl [], D.sl []]] fun (rs : List D) => ∃ (n_11 : Int), ∃ (s_5 :
    List UInt8), ∃ (n_12 : Int), ∃ (l_4 : List D), ∃ (l_5 : List D), ∃ (l_6 : List D), ∃ (n_13 : Int), rs = [D.agg [D.int IntKind.i64 n_11, D.str s_5, D.int IntKind.i64 n_12, D.sl l_4, D.sl
    l_5, D.sl l_6], D.int IntKind.i64 n_13] ∧ PFn Tryd.prog (GG M) (21 : Nat) [D.agg [D.int IntKind.i64 n_8, D.str s_4, D.int IntKind.i64 n_9, D.sl l, D.sl l_1, D.sl l_2], D.agg [D.int
    IntKind.i64 (11 : Int), D.str (Array.toList (ByteArray.data (ByteArray.mk #[]))), D.int IntKind.i64 (0 : Int), D.sl [], D.sl [], D.sl [D.agg [D.int IntKind.i64 (4 : Int), D.str
    (Array.toList (ByteArray.data (ByteArray.mk #[]))), D.int IntKind.i64 (0 : Int), D.sl [D.agg [D.int IntKind.i64 n, D.str s, D.int IntKind.i64 n_1], D.agg [D.int IntKind.i64 n_2, D.str
    s_1, D.int IntKind.i64 n_3]], D.sl [], D.sl []], D.agg [D.int IntKind.i64 (17 : Int), D.str (Array.toList (ByteArray.data (ByteArray.mk #[]))), D.int IntKind.i64 (1 : Int), D.sl [], D.sl
    [D.agg [D.str (Array.toList (ByteArray.data (ByteArray.mk #[(115 : UInt8)]))), D.int IntKind.i64 (2 : Int)]], D.sl [D.agg [D.int IntKind.i64 (3 : Int), D.str (Array.toList
    (ByteArray.data (ByteArray.mk #[]))), D.int IntKind.i64 (0 : Int), D.sl [D.agg [D.int IntKind.i64 n_4, D.str s_2, D.int IntKind.i64 n_5], D.agg [D.int IntKind.i64 n_6, D.str s_3, D.int
    IntKind.i64 n_7]], D.sl [], D.sl []]]]]]] fun (rs : List D) => ∃ (b : Bool), rs = [D.bool b] ∧ PFn Tryd.prog (GG M) (21 : Nat) [D.agg [D.int IntKind.i64 (10 : Int), D.str (Array.toList
    (ByteArray.data (ByteArray.mk #[]))), D.int IntKind.i64 (0 : Int), D.sl [], D.sl [], D.sl [D.agg [D.int IntKind.i64 (13 : Int), D.str (Array.toList (ByteArray.data (ByteArray.mk #[]))),
    D.int IntKind.i64 (0 : Int), D.sl [], D.sl [], D.sl [D.agg [D.int IntKind.i64 (4 : Int), D.str (Array.toList (ByteArray.data (ByteArray.mk #[]))), D.int IntKind.i64 (0 : Int), D.sl
    [D.agg [D.int IntKind.i64 n, D.str s, D.int IntKind.i64 n_1], D.agg [D.int IntKind.i64 n_2, D.str s_1, D.int IntKind.i64 n_3]], D.sl [], D.sl []], D.agg [D.int IntKind.i64 (16 : Int),
    D.str (Array.toList (ByteArray.data (ByteArray.mk #[]))), D.int IntKind.i64 (2 : Int), D.sl [], D.sl [D.agg [D.str (Array.toList (ByteArray.data (ByteArray.mk #[(115 : UInt8)]))), D.int
    IntKind.i64 (2 : Int)]], D.sl [D.agg [D.int IntKind.i64 (3 : Int), D.str (Array.toList (ByteArray.data (ByteArray.mk #[]))), D.int IntKind.i64 (0 : Int), D.sl [D.agg [D.int IntKind.i64
    n_4, D.str s_2, D.int IntKind.i64 n_5], D.agg [D.int IntKind.i64 n_6, D.str s_3, D.int IntKind.i64 n_7]], D.sl [], D.sl []]]]]]]], D.agg [D.int IntKind.i64 (11 : Int), D.str
    (Array.toList (ByteArray.data (ByteArray.mk #[]))), D.int IntKind.i64 (0 : Int), D.sl [], D.sl [], D.sl [D.agg [D.int IntKind.i64 (4 : Int), D.str (Array.toList (ByteArray.data
    (ByteArray.mk #[]))), D.int IntKind.i64 (0 : Int), D.sl [D.agg [D.int IntKind.i64 n, D.str s, D.int IntKind.i64 n_1], D.agg [D.int IntKind.i64 n_2, D.str s_1, D.int IntKind.i64 n_3]],
    D.sl [], D.sl []], D.agg [D.int IntKind.i64 (17 : Int), D.str (Array.toList (ByteArray.data (ByteArray.mk #[]))), D.int IntKind.i64 (1 : Int), D.sl [], D.sl [D.agg [D.str (Array.toList
    (ByteArray.data (ByteArray.mk #[(115 : UInt8)]))), D.int IntKind.i64 (2 : Int)]], D.sl [D.agg [D.int IntKind.i64 (3 : Int), D.str (Array.toList (ByteArray.data (ByteArray.mk #[]))),
    D.int IntKind.i64 (0 : Int), D.sl [D.agg [D.int IntKind.i64 n_4, D.str s_2, D.int IntKind.i64 n_5], D.agg [D.int IntKind.i64 n_6, D.str s_3, D.int IntKind.i64 n_7]], D.sl [], D.sl
    []]]]]]] fun (rs : List D) => ∃ (b_1 : Bool), rs = [D.bool b_1] ∧ ((bif bif bif n_10 == (0 : Int) then b else false then !b_1 else false then (↑(List.length l_3) : Int) == (2 : Int) else
    false) = true → (0 : Int) ≤ (0 : Int) ∧ l_3[Int.toNat (0 : Int)]? = some (D.str (D.toStr (Option.getD (cellAt l_3 (Int.toNat (0 : Int)) (0 : Nat)) default)))) ∧ ((bif bif bif bif n_10 ==
    (0 : Int) then b else false then !b_1 else false then (↑(List.length l_3) : Int) == (2 : Int) else false then D.toStr (Option.getD (cellAt l_3 (Int.toNat (0 : Int)) (0 : Nat)) default)
    == Array.toList (ByteArray.data (ByteArray.mk #[(108 : UInt8)])) else false) = true → (0 : Int) ≤ (1 : Int) ∧ l_3[Int.toNat (1 : Int)]? = some (D.str (D.toStr (Option.getD (cellAt l_3
    (Int.toNat (1 : Int)) (0 : Nat)) default)))) ∧ PFn Tryd.prog (GG M) (13 : Nat) [D.agg [D.int IntKind.i64 (10 : Int), D.str (Array.toList (ByteArray.data (ByteArray.mk #[]))), D.int
    IntKind.i64 (0 : Int), D.sl [], D.sl [], D.sl [D.agg [D.int IntKind.i64 (13 : Int), D.str (Array.toList (ByteArray.data (ByteArray.mk #[]))), D.int IntKind.i64 (0 : Int), D.sl [], D.sl
    [], D.sl [D.agg [D.int IntKind.i64 (4 : Int), D.str (Array.toList (ByteArray.data (ByteArray.mk #[]))), D.int IntKind.i64 (0 : Int), D.sl [D.agg [D.int IntKind.i64 n, D.str s, D.int
    IntKind.i64 n_1], D.agg [D.int IntKind.i64 n_2, D.str s_1, D.int IntKind.i64 n_3]], D.sl [], D.sl []], D.agg [D.int IntKind.i64 (16 : Int), D.str (Array.toList (ByteArray.data
    (ByteArray.mk #[]))), D.int IntKind.i64 (2 : Int), D.sl [], D.sl [D.agg [D.str (Array.toList (ByteArray.data (ByteArray.mk #[(115 : UInt8)]))), D.int IntKind.i64 (2 : Int)]], D.sl [D.agg
    [D.int IntKind.i64 (3 : Int), D.str (Array.toList (ByteArray.data (ByteArray.mk #[]))), D.int IntKind.i64 (0 : Int), D.sl [D.agg [D.int IntKind.i64 n_4, D.str s_2, D.int IntKind.i64
    n_5], D.agg [D.int IntKind.i64 n_6, D.str s_3, D.int IntKind.i64 n_7]], D.sl [], D.sl []]]]]]]]] fun (rs : List D) => ∃ (n_14 : Int), rs = [D.int IntKind.i64 n_14] ∧ PFn Tryd.prog (GG M)
    (15 : Nat) [D.agg [D.int IntKind.i64 (10 : Int), D.str (Array.toList (ByteArray.data (ByteArray.mk #[]))), D.int IntKind.i64 (0 : Int), D.sl [], D.sl [], D.sl [D.agg [D.int IntKind.i64
    (13 : Int), D.str (Array.toList (ByteArray.data (ByteArray.mk #[]))), D.int IntKind.i64 (0 : Int), D.sl [], D.sl [], D.sl [D.agg [D.int IntKind.i64 (4 : Int), D.str (Array.toList
    (ByteArray.data (ByteArray.mk #[]))), D.int IntKind.i64 (0 : Int), D.sl [D.agg [D.int IntKind.i64 n, D.str s, D.int IntKind.i64 n_1], D.agg [D.int IntKind.i64 n_2, D.str s_1, D.int
    IntKind.i64 n_3]], D.sl [], D.sl []], D.agg [D.int IntKind.i64 (16 : Int), D.str (Array.toList (ByteArray.data (ByteArray.mk #[]))), D.int IntKind.i64 (2 : Int), D.sl [], D.sl [D.agg
    [D.str (Array.toList (ByteArray.data (ByteArray.mk #[(115 : UInt8)]))), D.int IntKind.i64 (2 : Int)]], D.sl [D.agg [D.int IntKind.i64 (3 : Int), D.str (Array.toList (ByteArray.data
    (ByteArray.mk #[]))), D.int IntKind.i64 (0 : Int), D.sl [D.agg [D.int IntKind.i64 n_4, D.str s_2, D.int IntKind.i64 n_5], D.agg [D.int IntKind.i64 n_6, D.str s_3, D.int IntKind.i64
    n_7]], D.sl [], D.sl []]]]]]]]] fun (rs : List D) => ∃ (n_15 : Int), rs = [D.int IntKind.i64 n_15] ∧ PFn Tryd.prog (GG M) (17 : Nat) [D.agg [D.int IntKind.i64 (10 : Int), D.str
    (Array.toList (ByteArray.data (ByteArray.mk #[]))), D.int IntKind.i64 (0 : Int), D.sl [], D.sl [], D.sl [D.agg [D.int IntKind.i64 (13 : Int), D.str (Array.toList (ByteArray.data
    (ByteArray.mk #[]))), D.int IntKind.i64 (0 : Int), D.sl [], D.sl [], D.sl [D.agg [D.int IntKind.i64 (4 : Int), D.str (Array.toList (ByteArray.data (ByteArray.mk #[]))), D.int IntKind.i64
    (0 : Int), D.sl [D.agg [D.int IntKind.i64 n, D.str s, D.int IntKind.i64 n_1], D.agg [D.int IntKind.i64 n_2, D.str s_1, D.int IntKind.i64 n_3]], D.sl [], D.sl []], D.agg [D.int
    IntKind.i64 (16 : Int), D.str (Array.toList (ByteArray.data (ByteArray.mk #[]))), D.int IntKind.i64 (2 : Int), D.sl [], D.sl [D.agg [D.str (Array.toList (ByteArray.data (ByteArray.mk
    #[(115 : UInt8)]))), D.int IntKind.i64 (2 : Int)]], D.sl [D.agg [D.int IntKind.i64 (3 : Int), D.str (Array.toList (ByteArray.data (ByteArray.mk #[]))), D.int IntKind.i64 (0 : Int), D.sl
    [D.agg [D.int IntKind.i64 n_4, D.str s_2, D.int IntKind.i64 n_5], D.agg [D.int IntKind.i64 n_6, D.str s_3, D.int IntKind.i64 n_7]], D.sl [], D.sl []]]]]]]]] fun (rs : List D) => ∃ (n :
    Int), rs = [D.int IntKind.i64 n] ∧ PFn Tryd.prog (GG M) (13 : Nat) [D.agg [D.int IntKind.i64 (0 : Int), D.str (Array.toList (ByteArray.data (ByteArray.mk #[]))), D.int IntKind.i64 (0 :
    Int), D.sl [], D.sl [], D.sl []]] fun (rs : List D) => ∃ (n_16 : Int), rs = [D.int IntKind.i64 n_16] ∧ [D.bool (bif bif bif bif bif bif bif bif bif bif n_10 == (0 : Int) then b else
    false then !b_1 else false then (↑(List.length l_3) : Int) == (2 : Int) else false then D.toStr (Option.getD (cellAt l_3 (Int.toNat (0 : Int)) (0 : Nat)) default) == Array.toList
    (ByteArray.data (ByteArray.mk #[(108 : UInt8)])) else false then D.toStr (Option.getD (cellAt l_3 (Int.toNat (1 : Int)) (0 : Nat)) default) == Array.toList (ByteArray.data (ByteArray.mk
    #[(114 : UInt8)])) else false then n_14 == (0 : Int) else false then n_15 == (5 : Int) else false then n == (4 : Int) else false then n_13 == (1 : Int) else false then n_16 == (1 : Int)
    else false)] = [D.bool true])
  · kernel_rfl
  refine (fn28 [108]).mono ?_
  rintro rs rfl
  refine ⟨_, _, _, rfl, ?_⟩
  refine (fn28 [114]).mono ?_
  rintro rs rfl
  refine ⟨_, _, _, rfl, ?_⟩
  refine (fn28 [108]).mono ?_
  rintro rs rfl
  refine ⟨_, _, _, rfl, ?_⟩
  refine (fn28 [115]).mono ?_
  rintro rs rfl
  refine ⟨_, _, _, rfl, ?_⟩
  refine (fn23 hM lvF (by have := lv9; omega)).mono ?_
  rintro rs rfl
  refine ⟨_, _, _, _, _, _, _, congrArg (fun z => [z, D.int IntKind.i64 lvF.checkI]) (Fm.d_eq _), ?_⟩
  refine (fn19 lvF (by have := lv9; omega)).mono ?_
  rintro rs rfl
  refine ⟨_, rfl, ?_⟩
  refine (fn23 hM lvBad (by decide)).mono ?_
  rintro rs rfl
  refine ⟨_, _, _, _, _, _, _, congrArg (fun z => [z, D.int IntKind.i64 lvBad.checkI]) (Fm.d_eq _), ?_⟩
  rw [← Fm.d_eq]
  refine (fn21 lvF.nnf (by have := lv10; omega) lvWant).mono ?_
  rintro rs rfl
  refine ⟨_, rfl, ?_⟩
  refine (fn21 lvF (by have := lv9; omega) lvWant).mono ?_
  rintro rs rfl
  refine ⟨_, rfl, ?_⟩
  rw [lv1, lv2, lv3, lv4]
  refine ⟨fun _ => ⟨by decide, rfl⟩, fun _ => ⟨by decide, rfl⟩, ?_⟩
  refine (fn13 hM lvF (by have := lv9; omega)).mono ?_
  rintro rs rfl
  refine ⟨_, rfl, ?_⟩
  refine (fn15 lvF (by rw [lv5]; decide)).mono ?_
  rintro rs rfl
  refine ⟨_, rfl, ?_⟩
  refine (fn17 lvF (by rw [lv5]; decide)).mono ?_
  rintro rs rfl
  refine ⟨_, rfl, ?_⟩
  refine (fn13 hM nil0 (by decide)).mono ?_
  rintro rs rfl
  refine ⟨_, rfl, ?_⟩
  rw [lv1, lv5, lv6, lv7, lv8]
  rfl
theorem fn3 (hM : M.Ok) (f : Fm) (hf : f.wt < 1099511627776) : PFn Tryd.prog (GG M) 3 [f.d] (· = [.bool true]) := by
  rw [d_cells f]
  refine PFn.walk (fn := Tryd.f3) (code := bodyOf Tryd.f3) mixed L0 Tryd.func3 (by kernel_rfl) ⟨_, rfl⟩ (ok0 (by kernel_rfl)) ?_
  have h12 := fn12 (G := GG M) f (by omega)
  have h13 := fn13 hM f (by omega)
  have h14 := fn14 (G := GG M) f (by omega)
  have hr := f.rank_le_wt
  have h15 := fn15 (G := GG M) f (by omega)
  have h16 := fn16 (G := GG M) f (by omega)
  have h17 := fn17 (G := GG M) f (by omega)
  have h18 := fn18 (G := GG M) f (by omega)
  rw [d_cells f] at h12 h13 h14 h15 h16 h17 h18
  apply @of_vc _ (
    PFn Tryd.prog (GG M) (11 : Nat) [] fun (rs : List D) => ∃ (b : Bool), rs = [D.bool b] ∧ ((!b) = true → [D.bool false] = [D.bool true]) ∧ ((!b) = false → PFn Tryd.prog (GG M) (12 : Nat)
    [D.agg [D.int IntKind.i64 (Fm.kind f), D.str (Fm.name f), D.int IntKind.i64 (Fm.n f), D.sl (List.map Tm.d (Fm.ts f)), D.sl (List.map Bd.d (Fm.bs f)), D.sl (List.map Fm.d (Fm.l f))]] fun
    (rs : List D) => ∃ (b : Bool), rs = [D.bool b] ∧ ((!b) = true → [D.bool true] = [D.bool true]) ∧ ((!b) = false → PFn Tryd.prog (GG M) (13 : Nat) [D.agg [D.int IntKind.i64 (Fm.kind f),
    D.str (Fm.name f), D.int IntKind.i64 (Fm.n f), D.sl (List.map Tm.d (Fm.ts f)), D.sl (List.map Bd.d (Fm.bs f)), D.sl (List.map Fm.d (Fm.l f))]] fun (rs : List D) => ∃ (n : Int), rs =
    [D.int IntKind.i64 n] ∧ PFn Tryd.prog (GG M) (14 : Nat) [D.agg [D.int IntKind.i64 (Fm.kind f), D.str (Fm.name f), D.int IntKind.i64 (Fm.n f), D.sl (List.map Tm.d (Fm.ts f)), D.sl
    (List.map Bd.d (Fm.bs f)), D.sl (List.map Fm.d (Fm.l f))]] fun (rs : List D) => ∃ (n_1 : Int), rs = [D.int IntKind.i64 n_1] ∧ PFn Tryd.prog (GG M) (15 : Nat) [D.agg [D.int IntKind.i64
    (Fm.kind f), D.str (Fm.name f), D.int IntKind.i64 (Fm.n f), D.sl (List.map Tm.d (Fm.ts f)), D.sl (List.map Bd.d (Fm.bs f)), D.sl (List.map Fm.d (Fm.l f))]] fun (rs : List D) => ∃ (n_2 :
    Int), rs = [D.int IntKind.i64 n_2] ∧ PFn Tryd.prog (GG M) (16 : Nat) [D.agg [D.int IntKind.i64 (Fm.kind f), D.str (Fm.name f), D.int IntKind.i64 (Fm.n f), D.sl (List.map Tm.d (Fm.ts f)),
    D.sl (List.map Bd.d (Fm.bs f)), D.sl (List.map Fm.d (Fm.l f))]] fun (rs : List D) => ∃ (n_3 : Int), rs = [D.int IntKind.i64 n_3] ∧ PFn Tryd.prog (GG M) (17 : Nat) [D.agg [D.int
    IntKind.i64 (Fm.kind f), D.str (Fm.name f), D.int IntKind.i64 (Fm.n f), D.sl (List.map Tm.d (Fm.ts f)), D.sl (List.map Bd.d (Fm.bs f)), D.sl (List.map Fm.d (Fm.l f))]] fun (rs : List D)
    => ∃ (n_4 : Int), rs = [D.int IntKind.i64 n_4] ∧ PFn Tryd.prog (GG M) (18 : Nat) [D.agg [D.int IntKind.i64 (Fm.kind f), D.str (Fm.name f), D.int IntKind.i64 (Fm.n f), D.sl (List.map Tm.d
    (Fm.ts f)), D.sl (List.map Bd.d (Fm.bs f)), D.sl (List.map Fm.d (Fm.l f))]] fun (rs : List D) => ∃ (n_5 : Int), rs = [D.int IntKind.i64 n_5] ∧ [D.bool (bif bif n == n_1 then n_2 == n_3
    else false then n_4 == n_5 else false)] = [D.bool true])))
  · kernel_rfl
  refine (fn11 hM).mono ?_
  rintro rs rfl
  refine ⟨_, rfl, fun h => (by cases h), fun _ => ?_⟩
  refine h12.mono ?_
  rintro rs rfl
  refine ⟨_, rfl, fun _ => rfl, fun _ => ?_⟩
  refine h13.mono ?_
  rintro rs rfl
  refine ⟨_, rfl, ?_⟩
  refine h14.mono ?_
  rintro rs rfl
  refine ⟨_, rfl, ?_⟩
  refine h15.mono ?_
  rintro rs rfl
  refine ⟨_, rfl, ?_⟩
  refine h16.mono ?_
  rintro rs rfl
  refine ⟨_, rfl, ?_⟩
  refine h17.mono ?_
  rintro rs rfl
  refine ⟨_, rfl, ?_⟩
  refine h18.mono ?_
  rintro rs rfl
  refine ⟨_, rfl, ?_⟩
  simp
theorem fn5 (hM : M.Ok) (f : Fm) (hf : f.wt < 1099511627776) : PFn Tryd.prog (GG M) 5 [f.d] (· = [.bool true]) := by
  rw [d_cells f]
  refine PFn.walk (fn := Tryd.f5) (code := bodyOf Tryd.f5) mixed L0 Tryd.func5 (by kernel_rfl) ⟨_, rfl⟩ (ok0 (by kernel_rfl)) ?_
  have h12 := fn12 (G := GG M) f (by omega)
  have h23 := fn23 hM f hf
  have h24 := fn24 (M := M) f hf
  rw [d_cells f] at h12 h23 h24
  apply @of_vc _ (
    PFn Tryd.prog (GG M) (11 : Nat) [] fun (rs : List D) => ∃ (b : Bool), rs = [D.bool b] ∧ ((!b) = true → [D.bool false] = [D.bool true]) ∧ ((!b) = false → PFn Tryd.prog (GG M) (12 : Nat)
    [D.agg [D.int IntKind.i64 (Fm.kind f), D.str (Fm.name f), D.int IntKind.i64 (Fm.n f), D.sl (List.map Tm.d (Fm.ts f)), D.sl (List.map Bd.d (Fm.bs f)), D.sl (List.map Fm.d (Fm.l f))]] fun
    (rs : List D) => ∃ (b : Bool), rs = [D.bool b] ∧ ((!b) = true → [D.bool true] = [D.bool true]) ∧ ((!b) = false → PFn Tryd.prog (GG M) (23 : Nat) [D.agg [D.int IntKind.i64 (Fm.kind f),
    D.str (Fm.name f), D.int IntKind.i64 (Fm.n f), D.sl (List.map Tm.d (Fm.ts f)), D.sl (List.map Bd.d (Fm.bs f)), D.sl (List.map Fm.d (Fm.l f))]] fun (rs : List D) => ∃ (n : Int), ∃ (s :
    List UInt8), ∃ (n_1 : Int), ∃ (l : List D), ∃ (l_1 : List D), ∃ (l_2 : List D), ∃ (n_2 : Int), rs = [D.agg [D.int IntKind.i64 n, D.str s, D.int IntKind.i64 n_1, D.sl l, D.sl l_1, D.sl
    l_2], D.int IntKind.i64 n_2] ∧ PFn Tryd.prog (GG M) (24 : Nat) [D.agg [D.int IntKind.i64 (Fm.kind f), D.str (Fm.name f), D.int IntKind.i64 (Fm.n f), D.sl (List.map Tm.d (Fm.ts f)), D.sl
    (List.map Bd.d (Fm.bs f)), D.sl (List.map Fm.d (Fm.l f))]] fun (rs : List D) => ∃ (n_3 : Int), ∃ (s_1 : List UInt8), ∃ (n_4 : Int), ∃ (l_3 : List D), ∃ (l_4 : List D), ∃ (l_5 : List D),
    ∃ (n_5 : Int), rs = [D.agg [D.int IntKind.i64 n_3, D.str s_1, D.int IntKind.i64 n_4, D.sl l_3, D.sl l_4, D.sl l_5], D.int IntKind.i64 n_5] ∧ PFn Tryd.prog (GG M) (21 : Nat) [D.agg [D.int
    IntKind.i64 n, D.str s, D.int IntKind.i64 n_1, D.sl l, D.sl l_1, D.sl l_2], D.agg [D.int IntKind.i64 n_3, D.str s_1, D.int IntKind.i64 n_4, D.sl l_3, D.sl l_4, D.sl l_5]] fun (rs : List
    D) => ∃ (b : Bool), rs = [D.bool b] ∧ [D.bool (bif b then n_2 == n_5 else false)] = [D.bool true])))
  · kernel_rfl
  refine (fn11 hM).mono ?_
  rintro rs rfl
  refine ⟨_, rfl, fun h => (by cases h), fun _ => ?_⟩
  refine h12.mono ?_
  rintro rs rfl
  refine ⟨_, rfl, fun _ => rfl, fun _ => ?_⟩
  refine h23.mono ?_
  rintro rs rfl
  refine ⟨_, _, _, _, _, _, _, congrArg (fun z => [z, D.int IntKind.i64 f.checkI]) (Fm.d_eq _), ?_⟩
  refine h24.mono ?_
  rintro rs rfl
  refine ⟨_, _, _, _, _, _, _, congrArg (fun z => [z, D.int IntKind.i64 f.checkI]) (Fm.d_eq _), ?_⟩
  rw [← Fm.d_eq]
  refine (fn21 f.nnf (by have := nnf_wt f; omega) f.nnf).mono ?_
  rintro rs rfl
  refine ⟨_, rfl, ?_⟩
  rw [beq_refl]; simp
end
end Go.Fo
/- From the reading of the claim's form to the data of the walk. -/
namespace Go.Fo
open Go Go.Sx Go.Proofs
open Go.Proofs.YtkaadmkjjfcakaaDoor (Rows.uptoBulk Rows.uptoBulkAll)
set_option maxRecDepth 100000

def cW (W : World) : Cx := ⟨[], fun b o => ∃ v, W.cell? ⟨b, o, none⟩ = some v, fun r => ∃ es clk, W.heap[r]? = some (.map es clk)⟩

theorem hrW (W : World) : HR (cW W) [] W where
  len := rfl
  inj l l' b k k' h := by simp [cW] at h
  box l b k x h := by simp [cW] at h
  non l x h := by simp [cW] at h
  lt l b k h := by simp [cW] at h
  ilt b o h := by
    obtain ⟨v, hv⟩ := h
    unfold World.cell? at hv
    cases hb : W.heap[b]? with
    | none => simp [hb] at hv
    | some x => exact heap_lt hb
  jlt r h := by obtain ⟨es, clk, h⟩ := h; exact heap_lt h
  iap b o l k hi h := by simp [cW] at h
  jap r l k hr h := by simp [cW] at h

theorem list_choice {α : Type} {Q : Nat → α → Prop} : ∀ n, (∀ i, i < n → ∃ a, Q i a) → ∃ zs : List α, zs.length = n ∧ ∀ (i : Nat) a, zs[i]? = some a → Q i a
  | 0, _ => ⟨[], rfl, fun i a h => by simp at h⟩
  | n + 1, h => by
    obtain ⟨zs, h1, h2⟩ := list_choice n fun i hi => h i (by omega)
    obtain ⟨a, ha⟩ := h n (by omega)
    refine ⟨zs ++ [a], by simp [h1], fun i b hb => ?_⟩
    rcases get_snoc_cases hb with hb | ⟨rfl, rfl⟩
    · exact h2 i b hb
    · rw [h1]; exact ha

theorem sum_bulk {H α : Type} {wt : α → Nat} : ∀ {zs : List α} {es : List (DataW H × List MemPlace)}, zs.length = es.length → (∀ (i : Nat) a y, zs[i]? = some a → es[i]? = some y → wt a ≤ Rows.uptoBulk y.1) → (zs.map wt).sum ≤ Rows.uptoBulkAll (es.map (·.1))
  | [], [], _, _ => by simp
  | a :: zs, y :: es, hl, h => by
    have := sum_bulk (zs := zs) (es := es) (by simpa using hl) fun i b z hb hz => h (i + 1) b z (by simpa using hb) (by simpa using hz)
    have := h 0 a y rfl rfl
    simp only [List.map_cons, List.sum_cons, Rows.uptoBulkAll]; omega
  | [], _ :: _, hl, _ => by simp at hl
  | _ :: _, [], hl, _ => by simp at hl

section
variable {H : Type} {enc : TypeId × Value → H} {P : Program} {W : World} {held : Bool}

/-- A slice of elements that read. -/
theorem trodSlice {α : Type} (toD : α → D) (wt : α → Nat) {sz : Nat} (hs0 : 0 < sz) (hsz : ∀ a, (toD a).cells.length = sz) {t e : TypeId} {fuel : Nat} {cs : List Value} {x : DataW H × List MemPlace} (ht : P.underlying t = some (.slice e)) (hc : P.cellsOf e = sz)
    (helem : ∀ n cs' y, fuel = n + 1 → DataW.trod enc P W 0 (fun _ => true) held n e cs' = some y → ∃ a : α, All2 (R1 (cW W).I (cW W).J W) cs' (toD a).cells ∧ wt a ≤ Rows.uptoBulk y.1)
    (h : DataW.trod enc P W 0 (fun _ => true) held fuel t cs = some x) :
    ∃ (zs : List α) (v : Value), cs = [v] ∧ R1 (cW W).I (cW W).J W v (.sl (zs.map toD)) ∧ (zs.map wt).sum + 1 ≤ Rows.uptoBulk x.1 := by
  rcases DataW.trod_slice ht h with ⟨rfl, rfl⟩ | ⟨a, len, cap, elems, rest, n, hf, rfl, rfl, hb, hl, hm, hlen, hel, hsp, hns⟩
  · exact ⟨[], _, rfl, R1.nil, by simp [Rows.uptoBulk]⟩
  have hex : ∀ i, i < len → ∃ b : α, ∃ cs' y, W.cells? 0 (a.add (i * sz)) sz = some cs' ∧ elems[i]? = some y ∧ All2 (R1 (cW W).I (cW W).J W) cs' (toD b).cells ∧ wt b ≤ Rows.uptoBulk y.1 := by
    intro i hi
    have h1 := hel i hi
    rw [List.getElem?_eq_getElem (by omega : i < elems.length), hc] at h1
    obtain ⟨cs', h2, h3⟩ := Option.bind_eq_some_iff.1 h1
    obtain ⟨b, h4, h5⟩ := helem n cs' _ hf h3
    exact ⟨b, cs', _, h2, by simp [hlen, hi], h4, h5⟩
  obtain ⟨zs, has, hQ⟩ := list_choice len hex
  have hsum : (zs.map wt).sum ≤ Rows.uptoBulkAll (elems.map (·.1)) := sum_bulk (by rw [has, hlen]) fun i b y hb hy => by
    obtain ⟨cs', y', _, h2, _, h4⟩ := hQ i b hb
    rw [hy] at h2; cases h2; exact h4
  refine ⟨zs, _, rfl, ?_, by simp only [Rows.uptoBulk]; omega⟩
  rcases Nat.eq_zero_or_pos len with h0 | h0
  · have : zs = [] := List.eq_nil_of_length_eq_zero (by omega)
    subst this
    subst h0
    exact R1.emp a cap
  · have hspot : a = ⟨a.block, a.off, none⟩ := by
      have hlt : 0 < zs.length := by omega
      obtain ⟨cs', y, h1, _, h3, _⟩ := hQ 0 zs[0] (by simp [hlt])
      obtain ⟨_, h5, h6⟩ := World.cells?_some h1
      have h7 := h6 0 hs0
      have h8 : (a.add (0 * sz)).add 0 = a := by simp [Addr.add]
      rw [h8] at h7
      have h9 : 0 < cs'.length := by omega
      rw [List.getElem?_eq_getElem h9] at h7
      unfold World.cell? at h7
      split at h7
      · split at h7
        · cases h7
        · rename_i hs
          obtain ⟨b, o, s⟩ := a
          cases s with
          | none => rfl
          | some q => simp at hs
      · cases h7
    rw [hspot]
    have key : ∀ i j d, cellAt (zs.map toD) i j = some d → ∃ v, W.cell? ⟨a.block, a.off + i * sz + j, none⟩ = some v ∧ R1 (cW W).I (cW W).J W v d := by
      intro i j d hd
      unfold cellAt at hd
      obtain ⟨x, hx, hj⟩ := Option.bind_eq_some_iff.1 hd
      rw [List.getElem?_map] at hx
      obtain ⟨b, hb', rfl⟩ := Option.map_eq_some_iff.1 hx
      obtain ⟨cs', y, h1, _, h3, _⟩ := hQ i b hb'
      obtain ⟨_, h5, h6⟩ := World.cells?_some h1
      obtain ⟨v, hv, hr⟩ := h3.get hj
      have hjl : j < sz := by
        have := hsz b
        rcases Nat.lt_or_ge j (toD b).cells.length with h' | h'
        · omega
        · rw [List.getElem?_eq_none h'] at hj; cases hj
      have h7 := h6 j hjl
      rw [hv, Deep.add_add] at h7
      have h8 : a.add (i * sz + j) = ⟨a.block, a.off + i * sz + j, none⟩ := by
        have h9 := add_none a.block a.off (i * sz + j)
        rw [← hspot] at h9
        rw [h9, Nat.add_assoc]
      rw [h8] at h7
      exact ⟨v, h7, hr⟩
    have e1 : len = (zs.map toD).length := by simp [has]
    rw [e1]
    refine R1.sl a.block a.off cap sz (zs.map toD) (fun i j => (W.cell? ⟨a.block, a.off + i * sz + j, none⟩).getD undef) ?_ ?_ ?_ (by simp [has]; omega)
    · intro d hd
      obtain ⟨b, _, rfl⟩ := List.mem_map.1 hd
      exact hsz b
    · intro i j d hd
      obtain ⟨v, hv, _⟩ := key i j d hd
      exact ⟨⟨v, hv⟩, by simp [hv]⟩
    · intro i j d hd
      obtain ⟨v, hv, hr⟩ := key i j d hd
      simp only [hv, Option.getD_some]
      exact hr

theorem byte_str (s : ByteArray) : Value.string s = .string ⟨s.data.toList.toArray⟩ := by cases s; simp

/-- A term that reads. -/
theorem trodTm {fuel : Nat} {cs : List Value} {x : DataW H × List MemPlace} (h : DataW.trod enc Tryd.prog W 0 (fun _ => true) held fuel 43 cs = some x) :
    ∃ t : Tm, All2 (R1 (cW W).I (cW W).J W) cs t.d.cells ∧ t.name.length + 1 ≤ Rows.uptoBulk x.1 := by
  obtain ⟨xs, n, rfl, rfl, hl, hx, hf⟩ := DataW.trod_struct Tryd.underlying43 h
  have hc : Tryd.prog.cellsOf 43 = 3 := by kernel_rfl
  have hc3 : Tryd.prog.cellsOf 3 = 1 := by kernel_rfl
  have hc9 : Tryd.prog.cellsOf 9 = 1 := by kernel_rfl
  rw [hc] at hl
  match cs, hl with
  | [v0, v1, v2], _ =>
  match xs, hx with
  | [x0, x1, x2], _ =>
  have h0 : DataW.trod enc Tryd.prog W 0 (fun _ => true) held n 3 (List.take (Tryd.prog.cellsOf 3) [v0, v1, v2]) = some x0 := hf 0 _ rfl
  have h1 : DataW.trod enc Tryd.prog W 0 (fun _ => true) held n 9 (List.take (Tryd.prog.cellsOf 9) [v1, v2]) = some x1 := hf 1 _ rfl
  have h2 : DataW.trod enc Tryd.prog W 0 (fun _ => true) held n 3 (List.take (Tryd.prog.cellsOf 3) [v2]) = some x2 := hf 2 _ rfl
  simp only [hc3, hc9, List.take_succ_cons, List.take_zero] at h0 h1 h2
  obtain ⟨a, e0, f0, _⟩ := DataW.trod_int (k := .i64) Tryd.underlying3 h0
  obtain ⟨b, e1, f1, _⟩ := DataW.trod_string Tryd.underlying9 h1
  obtain ⟨c, e2, f2, _⟩ := DataW.trod_int (k := .i64) Tryd.underlying3 h2
  simp only [List.cons.injEq, and_true] at e0 e1 e2
  subst e0 e1 e2 f0 f1 f2
  refine ⟨⟨a, b.data.toList, c⟩, ?_, ?_⟩
  · rw [byte_str]
    exact All2.cons (.int _ _) (All2.cons (.str _) (All2.cons (.int _ _) All2.nil))
  · simp [Rows.uptoBulk, Rows.uptoBulkAll]; omega

theorem trodBd {fuel : Nat} {cs : List Value} {x : DataW H × List MemPlace} (h : DataW.trod enc Tryd.prog W 0 (fun _ => true) held fuel 40 cs = some x) :
    ∃ t : Bd, All2 (R1 (cW W).I (cW W).J W) cs t.d.cells ∧ t.name.length + 1 ≤ Rows.uptoBulk x.1 := by
  obtain ⟨xs, n, rfl, rfl, hl, hx, hf⟩ := DataW.trod_struct Tryd.underlying40 h
  have hc : Tryd.prog.cellsOf 40 = 2 := by kernel_rfl
  have hc3 : Tryd.prog.cellsOf 3 = 1 := by kernel_rfl
  have hc9 : Tryd.prog.cellsOf 9 = 1 := by kernel_rfl
  rw [hc] at hl
  match cs, hl with
  | [v0, v1], _ =>
  match xs, hx with
  | [x0, x1], _ =>
  have h0 : DataW.trod enc Tryd.prog W 0 (fun _ => true) held n 9 (List.take (Tryd.prog.cellsOf 9) [v0, v1]) = some x0 := hf 0 _ rfl
  have h1 : DataW.trod enc Tryd.prog W 0 (fun _ => true) held n 3 (List.take (Tryd.prog.cellsOf 3) [v1]) = some x1 := hf 1 _ rfl
  simp only [hc3, hc9, List.take_succ_cons, List.take_zero] at h0 h1
  obtain ⟨b, e1, f1, _⟩ := DataW.trod_string Tryd.underlying9 h0
  obtain ⟨c, e2, f2, _⟩ := DataW.trod_int (k := .i64) Tryd.underlying3 h1
  simp only [List.cons.injEq, and_true] at e1 e2
  subst e1 e2 f1 f2
  refine ⟨⟨b.data.toList, c⟩, ?_, ?_⟩
  · rw [byte_str]
    exact All2.cons (.str _) (All2.cons (.int _ _) All2.nil)
  · simp [Rows.uptoBulk, Rows.uptoBulkAll]

theorem sumT_eq (ts : List Tm) : (ts.map fun t => t.name.length + 1).sum = sumT ts + ts.length := by
  unfold sumT
  induction ts with
  | nil => rfl
  | cons t r ih => simp only [List.map_cons, List.sum_cons, List.length_cons, ih]; omega
theorem sumB_eq (ts : List Bd) : (ts.map fun t => t.name.length + 1).sum = sumB ts + ts.length := by
  unfold sumB
  induction ts with
  | nil => rfl
  | cons t r ih => simp only [List.map_cons, List.sum_cons, List.length_cons, ih]; omega
theorem wts_eq (l : List Fm) : (l.map Fm.wt).sum = Fm.wts l := by
  induction l with
  | nil => rfl
  | cons t r ih => simp only [List.map_cons, List.sum_cons, Fm.wts, ih]

/-- A formula that reads. -/
theorem trodFm : ∀ (fuel : Nat) (cs : List Value) (x : DataW H × List MemPlace), DataW.trod enc Tryd.prog W 0 (fun _ => true) held fuel 26 cs = some x →
    ∃ f : Fm, All2 (R1 (cW W).I (cW W).J W) cs f.d.cells ∧ f.wt ≤ Rows.uptoBulk x.1 := by
  intro fuel
  induction fuel using Nat.strongRecOn with
  | _ fuel ih =>
  intro cs x h
  obtain ⟨xs, n, rfl, rfl, hl, hx, hf⟩ := DataW.trod_struct Tryd.underlying26 h
  have hc : Tryd.prog.cellsOf 26 = 6 := by kernel_rfl
  have hc3 : Tryd.prog.cellsOf 3 = 1 := by kernel_rfl
  have hc9 : Tryd.prog.cellsOf 9 = 1 := by kernel_rfl
  have hc22 : Tryd.prog.cellsOf 22 = 1 := by kernel_rfl
  have hc23 : Tryd.prog.cellsOf 23 = 1 := by kernel_rfl
  have hc24 : Tryd.prog.cellsOf 24 = 1 := by kernel_rfl
  have hc43 : Tryd.prog.cellsOf 43 = 3 := by kernel_rfl
  have hc40 : Tryd.prog.cellsOf 40 = 2 := by kernel_rfl
  rw [hc] at hl
  match cs, hl with
  | [v0, v1, v2, v3, v4, v5], _ =>
  match xs, hx with
  | [x0, x1, x2, x3, x4, x5], _ =>
  have h0 : DataW.trod enc Tryd.prog W 0 (fun _ => true) held n 3 (List.take (Tryd.prog.cellsOf 3) [v0, v1, v2, v3, v4, v5]) = some x0 := hf 0 _ rfl
  have h1 : DataW.trod enc Tryd.prog W 0 (fun _ => true) held n 9 (List.take (Tryd.prog.cellsOf 9) [v1, v2, v3, v4, v5]) = some x1 := hf 1 _ rfl
  have h2 : DataW.trod enc Tryd.prog W 0 (fun _ => true) held n 3 (List.take (Tryd.prog.cellsOf 3) [v2, v3, v4, v5]) = some x2 := hf 2 _ rfl
  have h3 : DataW.trod enc Tryd.prog W 0 (fun _ => true) held n 22 (List.take (Tryd.prog.cellsOf 22) [v3, v4, v5]) = some x3 := hf 3 _ rfl
  have h4 : DataW.trod enc Tryd.prog W 0 (fun _ => true) held n 23 (List.take (Tryd.prog.cellsOf 23) [v4, v5]) = some x4 := hf 4 _ rfl
  have h5 : DataW.trod enc Tryd.prog W 0 (fun _ => true) held n 24 (List.take (Tryd.prog.cellsOf 24) [v5]) = some x5 := hf 5 _ rfl
  simp only [hc3, hc9, hc22, hc23, hc24, List.take_succ_cons, List.take_zero] at h0 h1 h2 h3 h4 h5
  obtain ⟨a, e0, f0, _⟩ := DataW.trod_int (k := .i64) Tryd.underlying3 h0
  obtain ⟨b, e1, f1, _⟩ := DataW.trod_string Tryd.underlying9 h1
  obtain ⟨c, e2, f2, _⟩ := DataW.trod_int (k := .i64) Tryd.underlying3 h2
  obtain ⟨ts, w3, e3, r3, b3⟩ := trodSlice Tm.d (fun t => t.name.length + 1) (by decide) (fun _ => rfl) Tryd.underlying22 hc43 (fun _ _ _ _ h => trodTm h) h3
  obtain ⟨bs, w4, e4, r4, b4⟩ := trodSlice Bd.d (fun t => t.name.length + 1) (by decide) (fun _ => rfl) Tryd.underlying23 hc40 (fun _ _ _ _ h => trodBd h) h4
  obtain ⟨l, w5, e5, r5, b5⟩ := trodSlice Fm.d Fm.wt (by decide : 0 < 6) (fun f => by rw [f.d_eq]; rfl) Tryd.underlying24 hc (fun m cs' y hm h => ih m (by omega) cs' y h) h5
  simp only [List.cons.injEq, and_true] at e0 e1 e2 e3 e4 e5
  subst e0 e1 e2 e3 e4 e5 f0 f1 f2
  refine ⟨.mk a b.data.toList c ts bs l, ?_, ?_⟩
  · rw [byte_str, Fm.d_mk]
    exact All2.cons (.int _ _) (All2.cons (.str _) (All2.cons (.int _ _) (All2.cons r3 (All2.cons r4 (All2.cons r5 All2.nil)))))
  · rw [sumT_eq] at b3
    rw [sumB_eq] at b4
    rw [wts_eq] at b5
    rw [Fm.wt_eq]
    simp only [Fm.name, Fm.ts, Fm.bs, Fm.l, List.map_cons, List.map_nil, Rows.uptoBulk, Rows.uptoBulkAll]
    omega
end
end Go.Fo
/- The package's maps, out of what the row lists. -/
namespace Go.Fo
open Go Go.Sx Go.Proofs
open Go.WideElems
open Go.ChangeMaps (mem_insert_iff)
set_option maxRecDepth 100000

def litD : Lit → D
  | .int k n => .int k n
  | .string s => .str s
  | .bool b => .bool b
  | _ => .bool false
def litOf {H : Type} : DataW H → Lit
  | .lit l => l
  | _ => .bool false
def conv {H : Type} (p : Lit × DataW H) : D × D := (litD p.1, litD (litOf p.2))

theorem mem_foldr {H : Type} {y : Lit × DataW H} : ∀ {l : List (Lit × DataW H)}, y ∈ l.foldr DataW.insert [] ↔ y ∈ l
  | [] => by simp
  | a :: l => by rw [List.foldr_cons, mem_insert_iff, mem_foldr]; simp

section
variable {H : Type} {enc : TypeId × Value → H} {P : Program} {W : World} {held : Bool}

theorem trodMap {t k e : TypeId} (ht : P.underlying t = some (.map k e)) (hkey : ∀ v l, keyOf P k v = some l → R1 (cW W).I (cW W).J W v (litD l))
    (hel : ∀ n v y, elemAt enc P W 0 (fun _ => true) held n e v = some y → R1 (cW W).I (cW W).J W v (litD (litOf y.1)))
    {fuel : Nat} {cs : List Value} {L : List (Lit × DataW H)} {p : List MemPlace} (h : DataW.trod enc P W 0 (fun _ => true) held fuel t cs = some (.map L, p)) :
    ∃ (es : List (D × D)) (v : Value), cs = [v] ∧ R1 (cW W).I (cW W).J W v (.gmap es) ∧ ∀ kv, kv ∈ es ↔ kv ∈ L.map conv := by
  rcases open_map ht h with ⟨_, hx⟩ | ⟨b, ents, clk, n, _, rfl, hb, _, F, hx⟩
  · cases hx
  simp only [Prod.mk.injEq, DataW.map.injEq] at hx
  refine ⟨ents.toList.map fun x => conv (rg P k (elemAt enc P W 0 (fun _ => true) held n e) x), _, rfl, ?_, fun kv => ?_⟩
  · have key : ∀ (i : Nat) kv, (ents.toList.map fun x => conv (rg P k (elemAt enc P W 0 (fun _ => true) held n e) x))[i]? = some kv → R1 (cW W).I (cW W).J W (ents.getD i default).key kv.1 ∧ R1 (cW W).I (cW W).J W (ents.getD i default).val kv.2 := by
      intro i kv hi
      rw [List.getElem?_map, Option.map_eq_some_iff] at hi
      obtain ⟨x, hx1, rfl⟩ := hi
      have hg : ents.getD i default = x := by
        rw [Array.getElem?_toList] at hx1
        simp [Array.getD_eq_getD_getElem?, hx1]
      obtain ⟨y, hy⟩ := F.reads x (List.mem_of_getElem? hx1)
      rw [hg, rg_of hy]
      obtain ⟨z, hz, hz2⟩ := rd_val hy
      refine ⟨hkey _ _ (rd_key hy), ?_⟩
      show R1 _ _ W x.val (litD (litOf y.2))
      rw [hz2]
      exact hel n _ _ hz
    exact .gmap b ents clk _ ⟨ents, clk, hb⟩ hb (by simp) (fun i kv h => (key i kv h).1) (fun i kv h => (key i kv h).2)
  · rw [hx.1]
    simp only [List.mem_map, mem_foldr]
    constructor
    · rintro ⟨x, hx, rfl⟩; exact ⟨_, ⟨x, hx, rfl⟩, rfl⟩
    · rintro ⟨_, ⟨x, hx, rfl⟩, rfl⟩; exact ⟨x, hx, rfl⟩

theorem key_int {k : TypeId} {q : IntKind} (hk : P.underlying k = some (.int q)) (v : Value) (l : Lit) (h : keyOf P k v = some l) : R1 (cW W).I (cW W).J W v (litD l) := by
  rw [keyOf_int hk] at h
  unfold mapKey at h
  rw [hk] at h
  split at h <;> simp_all
  obtain ⟨⟨rfl, _⟩, rfl⟩ := h
  exact .int _ _
theorem key_str {k : TypeId} (hk : P.underlying k = some .string) (v : Value) (l : Lit) (h : keyOf P k v = some l) : R1 (cW W).I (cW W).J W v (litD l) := by
  rw [keyOf_string hk] at h
  unfold mapKey at h
  rw [hk] at h
  split at h <;> simp_all
  obtain ⟨_, rfl⟩ := h
  rw [byte_str]
  exact .str _
theorem el_int {e : TypeId} {q : IntKind} (he : P.underlying e = some (.int q)) (n : Nat) (v : Value) (y : DataW H × List MemPlace) (h : elemAt enc P W 0 (fun _ => true) held n e v = some y) : R1 (cW W).I (cW W).J W v (litD (litOf y.1)) := by
  obtain ⟨a, rfl, rfl, _⟩ := elemAt_int he h
  exact .int _ _
theorem el_bool {e : TypeId} (he : P.underlying e = some .bool) (n : Nat) (v : Value) (y : DataW H × List MemPlace) (h : elemAt enc P W 0 (fun _ => true) held n e v = some y) : R1 (cW W).I (cW W).J W v (litD (litOf y.1)) := by
  obtain ⟨a, rfl, rfl⟩ := elemAt_bool he h
  exact .bool _
theorem el_str {e : TypeId} (he : P.underlying e = some .string) (n : Nat) (v : Value) (y : DataW H × List MemPlace) (h : elemAt enc P W 0 (fun _ => true) held n e v = some y) : R1 (cW W).I (cW W).J W v (litD (litOf y.1)) := by
  unfold elemAt at h
  split at h
  · rename_i hf
    obtain ⟨s, hc, hz, _⟩ := DataW.trod_string he h
    cases v <;> simp [Value.formed, he, Value.cells] at hf hc
    subst hc
    rw [hz, byte_str]
    exact .str _
  · cases h

/-- One listed variable. -/
theorem laid_mem {laid : List (String × DataW Unit)} : ∀ {ps : List MemPlace}, DataW.LaidVars P W laid ps → ∀ {n d}, (n, d) ∈ laid →
    ∃ g t cs fuel p, P.globalNamed n = some g ∧ (P.globals[g]?).map (·.type) = some t ∧ W.var? P n = some cs ∧ DataW.trod (fun _ => ()) P W 0 (fun _ => true) false fuel t cs.toList = some (d, p) := by
  induction laid with
  | nil => intro ps _ n d h; cases h
  | cons x r ih =>
    obtain ⟨n0, d0⟩ := x
    rintro ps ⟨g, t, cs, fuel, p, q, h1, h2, h3, h4, h5, _⟩ n d hm
    rcases List.mem_cons.1 hm with h | h
    · cases h; exact ⟨g, t, cs, fuel, p, h1, h2, h3, h4⟩
    · exact ih h5 h
end

/-- The same entries give the same answers. -/
theorem lookD_same {es L : List (D × D)} (k : D) (h : ∀ kv, kv ∈ es ↔ kv ∈ L) (hb : ∀ kv ∈ L, ∀ kv' ∈ L, beqD k kv.1 = true → beqD k kv'.1 = true → kv = kv') : lookD es k = lookD L k := by
  unfold lookD
  cases h1 : es.find? fun kv => beqD k kv.1 with
  | none =>
    rw [List.find?_eq_none] at h1
    have : L.find? (fun kv => beqD k kv.1) = none := by
      rw [List.find?_eq_none]
      exact fun x hx => h1 x ((h x).2 hx)
    rw [this]
  | some kv =>
    have hm := List.mem_of_find?_eq_some h1
    have hp := List.find?_some h1
    cases h2 : L.find? fun kv => beqD k kv.1 with
    | none =>
      rw [List.find?_eq_none] at h2
      exact absurd hp (h2 kv ((h kv).1 hm))
    | some kv' =>
      have hp' := List.find?_some h2
      rw [hb kv ((h kv).1 hm) kv' (List.mem_of_find?_eq_some h2) hp hp']

theorem beq_int {a : Int} {p : D × D} (k : Int) (h1 : p.1 = .int .i64 a) : beqD (.int .i64 k) p.1 = true ↔ k = a := by rw [h1]; simp [beqD]

theorem lookI (L : List (Int × Int)) (hL : (L.map Prod.fst).Nodup) {es : List (D × D)} (h : ∀ kv, kv ∈ es ↔ kv ∈ L.map fun p => (D.int .i64 p.1, D.int .i64 p.2)) (k : Int) : lookD es (.int .i64 k) = (L.lookup k).map (.int .i64) := by
  rw [lookD_same _ h ?_]
  · clear h hL
    induction L with
    | nil => rfl
    | cons p r ih =>
      obtain ⟨a, b⟩ := p
      unfold lookD at ih ⊢
      rw [List.map_cons, List.find?_cons, List.lookup_cons]
      simp only [beqD]
      cases hk : k == a with
      | true => rfl
      | false => exact ih
  · intro kv h1 kv' h2 e1 e2
    obtain ⟨p, hp, rfl⟩ := List.mem_map.1 h1
    obtain ⟨q, hq, rfl⟩ := List.mem_map.1 h2
    simp only [beqD, beq_iff_eq] at e1 e2
    have : p = q := inj_fst hL hp hq (e1.symm.trans e2)
    rw [this]
 where
  inj_fst {α β : Type} : ∀ {L : List (α × β)}, (L.map Prod.fst).Nodup → ∀ {p q}, p ∈ L → q ∈ L → p.1 = q.1 → p = q
    | [], _, _, _, h, _, _ => by cases h
    | a :: L, hn, p, q, hp, hq, he => by
      rw [List.map_cons, List.nodup_cons] at hn
      rcases List.mem_cons.1 hp with rfl | hp' <;> rcases List.mem_cons.1 hq with rfl | hq'
      · rfl
      · exact absurd (he ▸ List.mem_map_of_mem hq') hn.1
      · exact absurd (he ▸ List.mem_map_of_mem hp') hn.1
      · exact inj_fst hn.2 hp' hq' he

theorem lookS (L : List (List UInt8 × List UInt8)) (hL : (L.map Prod.fst).Nodup) {es : List (D × D)} (h : ∀ kv, kv ∈ es ↔ kv ∈ L.map fun p => (D.str p.1, D.str p.2)) (k : List UInt8) : lookD es (.str k) = (L.lookup k).map .str := by
  rw [lookD_same _ h ?_]
  · clear h hL
    induction L with
    | nil => rfl
    | cons p r ih =>
      obtain ⟨a, b⟩ := p
      unfold lookD at ih ⊢
      rw [List.map_cons, List.find?_cons, List.lookup_cons]
      simp only [beqD]
      cases hk : k == a with
      | true => rfl
      | false => exact ih
  · intro kv h1 kv' h2 e1 e2
    obtain ⟨p, hp, rfl⟩ := List.mem_map.1 h1
    obtain ⟨q, hq, rfl⟩ := List.mem_map.1 h2
    simp only [beqD, beq_iff_eq] at e1 e2
    have : p = q := lookI.inj_fst hL hp hq (e1.symm.trans e2)
    rw [this]

theorem lookB (L : List (List UInt8)) {es : List (D × D)} (h : ∀ kv, kv ∈ es ↔ kv ∈ L.map fun p => (D.str p, D.bool true)) (k : List UInt8) : lookD es (.str k) = if L.contains k then some (.bool true) else none := by
  rw [lookD_same _ h ?_]
  · clear h
    induction L with
    | nil => rfl
    | cons a r ih =>
      unfold lookD at ih ⊢
      rw [List.map_cons, List.find?_cons, List.contains_cons]
      simp only [beqD]
      cases hk : k == a with
      | true => rfl
      | false => exact ih
  · intro kv h1 kv' h2 e1 e2
    obtain ⟨p, hp, rfl⟩ := List.mem_map.1 h1
    obtain ⟨q, hq, rfl⟩ := List.mem_map.1 h2
    simp only [beqD, beq_iff_eq] at e1 e2
    rw [← e1, ← e2]

open Go.Proofs.YtkaadmkjjfcakaaDoor (Rows.laid_chalkline_formula_arity Rows.laid_chalkline_formula_signs Rows.laid_chalkline_formula_duals Rows.laid_chalkline_formula_reserved)

theorem u58 : Tryd.prog.underlying 58 = some (.map 3 3) := by kernel_rfl
theorem u60 : Tryd.prog.underlying 60 = some (.map 9 9) := by kernel_rfl
theorem u74 : Tryd.prog.underlying 74 = some (.map 9 4) := by kernel_rfl
theorem u4 : Tryd.prog.underlying 4 = some .bool := by kernel_rfl

theorem arr_one {cs : Array Value} {v : Value} (h : cs.toList = [v]) : cs[0]? = some v := by
  rw [← Array.getElem?_toList, h]; rfl

def keysOf : DataW Unit → List (List UInt8)
  | .map L => L.map fun p => match p.1 with | .string s => s | _ => []
  | _ => []
def resK : List (List UInt8) := keysOf Rows.laid_chalkline_formula_reserved
theorem resK_iff (s : List UInt8) : s ∈ resK ↔ s ∈ words :=
  ⟨(by decide +kernel : ∀ s ∈ resK, s ∈ words) s, (by decide +kernel : ∀ s ∈ words, s ∈ resK) s⟩

/-- The maps of the world that the row lists. -/
theorem maps_of {W : World} {laid : List (String × DataW Unit)} {ps : List MemPlace} (h : DataW.LaidVars Tryd.prog W laid ps)
    (h0 : ("chalkline/formula.arity", Rows.laid_chalkline_formula_arity) ∈ laid) (h1 : ("chalkline/formula.signs", Rows.laid_chalkline_formula_signs) ∈ laid)
    (h2 : ("chalkline/formula.duals", Rows.laid_chalkline_formula_duals) ∈ laid) (h3 : ("chalkline/formula.reserved", Rows.laid_chalkline_formula_reserved) ∈ laid) :
    ∃ M : Maps, M.Ok ∧ GR (GG M) (cW W) W := by
  obtain ⟨g, t, cs, fuel, p, a1, a2, a3, a4⟩ := laid_mem h h0
  obtain rfl := Option.some.inj ((show Tryd.prog.globalNamed "chalkline/formula.arity" = some 0 by kernel_rfl).symm.trans a1)
  obtain rfl := Option.some.inj ((show (Tryd.prog.globals[0]?).map (·.type) = some 58 by kernel_rfl).symm.trans a2)
  obtain ⟨ar, v0, e0, r0, m0⟩ := trodMap u58 (key_int Tryd.underlying3) (el_int Tryd.underlying3) a4
  have c0 := (World.var?_cell a1 a3 0).trans (arr_one e0)
  clear a1 a2 a3 a4
  obtain ⟨g, t, cs, fuel, p, a1, a2, a3, a4⟩ := laid_mem h h1
  obtain rfl := Option.some.inj ((show Tryd.prog.globalNamed "chalkline/formula.signs" = some 1 by kernel_rfl).symm.trans a1)
  obtain rfl := Option.some.inj ((show (Tryd.prog.globals[1]?).map (·.type) = some 60 by kernel_rfl).symm.trans a2)
  obtain ⟨si, v1, e1, r1, m1⟩ := trodMap u60 (key_str Tryd.underlying9) (el_str Tryd.underlying9) a4
  have c1 := (World.var?_cell a1 a3 0).trans (arr_one e1)
  clear a1 a2 a3 a4
  obtain ⟨g, t, cs, fuel, p, a1, a2, a3, a4⟩ := laid_mem h h2
  obtain rfl := Option.some.inj ((show Tryd.prog.globalNamed "chalkline/formula.duals" = some 2 by kernel_rfl).symm.trans a1)
  obtain rfl := Option.some.inj ((show (Tryd.prog.globals[2]?).map (·.type) = some 58 by kernel_rfl).symm.trans a2)
  obtain ⟨du, v2, e2, r2, m2⟩ := trodMap u58 (key_int Tryd.underlying3) (el_int Tryd.underlying3) a4
  have c2 := (World.var?_cell a1 a3 0).trans (arr_one e2)
  clear a1 a2 a3 a4
  obtain ⟨g, t, cs, fuel, p, a1, a2, a3, a4⟩ := laid_mem h h3
  obtain rfl := Option.some.inj ((show Tryd.prog.globalNamed "chalkline/formula.reserved" = some 3 by kernel_rfl).symm.trans a1)
  obtain rfl := Option.some.inj ((show (Tryd.prog.globals[3]?).map (·.type) = some 74 by kernel_rfl).symm.trans a2)
  obtain ⟨re, v3, e3, r3, m3⟩ := trodMap u74 (key_str Tryd.underlying9) (el_bool u4) a4
  have c3 := (World.var?_cell a1 a3 0).trans (arr_one e3)
  clear a1 a2 a3 a4
  have all : ∀ {es L : List (D × D)} (q : D × D → Bool), (∀ kv, kv ∈ es ↔ kv ∈ L) → L.all q = true → es.all q = true := by
    intro es L q h hq
    rw [List.all_eq_true] at hq ⊢
    exact fun x hx => hq x ((h x).1 hx)
  have n3 : ∀ kv, kv ∈ re ↔ kv ∈ words.map fun p => (D.str p, D.bool true) := by
    have m3' : ∀ kv, kv ∈ re ↔ kv ∈ resK.map fun p => (D.str p, D.bool true) := m3
    intro kv
    rw [m3']
    simp only [List.mem_map, resK_iff]
  refine ⟨⟨ar, si, du, re⟩, ⟨all _ m0 (by kernel_rfl), all _ m1 (by kernel_rfl), all _ m2 (by kernel_rfl), all _ m3 (by kernel_rfl), lookI arL (by decide) m0, lookS siL (by decide) m1, lookI duL (by decide) m2, lookB words n3⟩, ?_⟩
  intro g cs hg j x hx
  have one : ∀ {d : D} {v : Value} {g : Nat}, cs = [d] → W.cell? ⟨g, 0, none⟩ = some v → R1 (cW W).I (cW W).J W v d → (cW W).I g j ∧ ∃ v, W.cell? ⟨g, j, none⟩ = some v ∧ R1 (cW W).I (cW W).J W v x := by
    intro d v g hc hv hr
    subst hc
    match j, hx with
    | 0, hx =>
      simp only [List.getElem?_cons_zero, Option.some.injEq] at hx
      subst hx
      exact ⟨⟨v, hv⟩, v, hv, hr⟩
  match g, hg with
  | 0, hg => exact one (Option.some.inj hg).symm c0 r0
  | 1, hg => exact one (Option.some.inj hg).symm c1 r1
  | 2, hg => exact one (Option.some.inj hg).symm c2 r2
  | 3, hg => exact one (Option.some.inj hg).symm c3 r3
  | _ + 4, hg => cases hg
end Go.Fo
/- The contract in the claim's form. -/
namespace Go.Fo
open Go Go.Sx Go.Proofs
open Go.ChangeShapes Go.WideShapes Go.RowKit
open Go.Proofs.YtkaadmkjjfcakaaDoor (Rows.uptoBulk Rows.uptoBulkAll Rows.uptoSmall Rows.laid_chalkline_formula_arity Rows.laid_chalkline_formula_signs Rows.laid_chalkline_formula_duals Rows.laid_chalkline_formula_reserved)
set_option maxRecDepth 100000

theorem laidOut : laidOutB Tryd.prog = true := by kernel_rfl

section
variable {H : Type} {enc : TypeId × Value → H} {W : World}

theorem trodAll_below {W' : World} (hb : Below W.heap.size W W') : ∀ {ts : List TypeId} {vs : List Value} {ds : List (DataW H)} {ps : List MemPlace}, (∀ t ∈ ts, Tryd.prog.readableRec t = true ∧ t < Tryd.prog.types.size) →
    DataW.TrodAll enc Tryd.prog W 0 (fun _ => true) true ts vs ds ps → (∀ x ∈ ps, x.block < W.heap.size) → DataW.TrodAll enc Tryd.prog W' 0 (fun b => decide (b < W.heap.size)) true ts vs ds ps := by
  intro ts
  induction ts with
  | nil =>
    intro vs ds ps _ h _
    cases vs <;> cases ds <;> simp [DataW.TrodAll] at h ⊢
    exact h
  | cons t ts ih =>
    intro vs ds ps ht h hlt
    obtain ⟨v, vs', d, ds', p, q, rfl, rfl, rfl, h1, h2⟩ := trodAll_cons h
    exact trodAll_cons_mk (Below.trod laidOut (ht t (by simp)).1 (ht t (by simp)).2 h1 hb fun x hx => hlt x (by simp [hx])) (ih (fun t' h' => ht t' (by simp [h'])) h2 fun x hx => hlt x (by simp [hx]))

/-- What a walk gives the claim's form. -/
theorem contractG {f : FuncId} {fn : Func} {s : ChangeSpec} {args : Array Value} {ds gs : List (DataW H)} {before : List MemPlace} {laid : List (String × DataW Unit)} {xs : List D} (hr : fn.resultTypes = #[4]) (hv : s.vars = [])
    (hfn : ∀ H (ds' : List (DataW H)), ds'.length = ds.length → (s.fn H ds').results = [.lit (.bool true)] ∧ (s.fn H ds').args = ds' ∧ (s.fn H ds').vars = []) (hts : ∀ t ∈ fn.params.toList, Tryd.prog.readableRec t = true ∧ t < Tryd.prog.types.size)
    (hW : DataW.Whole enc Tryd.prog fn.params.toList s.vars false W args.toList ds gs before)
    (hh : (laid.all fun x => x.2.handleName?.isNone) = true) (hL : laidMetH Tryd.prog laid W)
    (m0 : ("chalkline/formula.arity", Rows.laid_chalkline_formula_arity) ∈ laid) (m1 : ("chalkline/formula.signs", Rows.laid_chalkline_formula_signs) ∈ laid)
    (m2 : ("chalkline/formula.duals", Rows.laid_chalkline_formula_duals) ∈ laid) (m3 : ("chalkline/formula.reserved", Rows.laid_chalkline_formula_reserved) ∈ laid)
    (hx : All2 (RV (cW W).I (cW W).J W) args.toList xs) (h : ∀ M : Maps, M.Ok → PFn Tryd.prog (GG M) f xs (· = [.bool true])) :
    Calls Tryd.prog f args W fun e W' => ∃ v, e = .returned v ∧ s.post enc Tryd.prog fn false true false false W args v W' := by
  rw [MakeChecks.laidMetH_plain _ _ _ hh] at hL
  obtain ⟨ps, hL, _⟩ := hL
  obtain ⟨M, hM, hG⟩ := maps_of hL m0 m1 m2 m3
  have hc := (h M hM).run (cW W) W args.toList rfl (hrW W) hG hx
  rw [Array.toArray_toList] at hc
  refine hc.mono fun e W' hq => ?_
  obtain ⟨v, rs, c', rfl, rfl, hρ, he, hR, hres⟩ := hq
  have hvb : v = .bool true := by
    have h1 : RV c'.I c'.J W' v (.bool true) := hres
    simp only [RV] at h1
    cases h1; rfl
  subst hvb
  have hb : Below W.heap.size W W' := ⟨he.os, he.tape, he.output, he.size, fun k hk => he.frame k hk fun l k' hh => by simp [cW] at hh⟩
  have hlt := hW.lt
  have hW' := hW
  obtain ⟨p, q, hA, hV, rfl, hfz, hnd⟩ := hW
  rw [hv] at hV
  obtain ⟨rfl, rfl⟩ := trodVars_none hV
  obtain ⟨e1, e2, e3⟩ := hfn H (ds ++ []) (by simp)
  refine ⟨_, rfl, ds, [], p ++ [], [], p, [], hW', ?_, ?_, ?_, hb.frame _, fun h => by cases h⟩
  · rw [e1, hr]
    exact trodAll_mk1 (shut_bool u4 _)
  · rw [e2, List.append_nil]
    exact trodAll_below hb hts hA fun x hx => hlt x (by simp [hx])
  · rw [e3, hv]; rfl

theorem small_of {ds : List (DataW H)} (h : Rows.uptoSmall H ds = true) : Rows.uptoBulkAll ds ≤ 1048576 := of_decide_eq_true h

/-- An argument that is a formula. -/
theorem arg26 {base : Nat} {v : Value} {d : DataW H} {p : List MemPlace} (hok : Value.okWide Tryd.prog W .any base 26 v) (h : DataW.Trod enc Tryd.prog W 0 (fun _ => true) true 26 v d p) :
    ∃ f : Fm, RV (cW W).I (cW W).J W v f.d ∧ f.wt ≤ Rows.uptoBulk d := by
  obtain ⟨cs, rfl, _⟩ := okWide_struct Tryd.underlying26 hok
  obtain ⟨fuel, hf⟩ := h
  obtain ⟨f, h1, h2⟩ := trodFm _ _ _ hf
  refine ⟨f, ?_, h2⟩
  rw [f.d_eq] at h1 ⊢
  exact ⟨cs.toList, by simp, by simpa [Value.cells, D.cells] using h1⟩
end
end Go.Fo
/- More arguments in the claim's form. -/
namespace Go.Fo
open Go Go.Sx Go.Proofs
open Go.ChangeShapes Go.WideShapes Go.RowKit Go.ChangeMaps
open Go.Proofs.YtkaadmkjjfcakaaDoor (Rows.uptoBulk Rows.uptoBulkAll Rows.uptoSmall)
set_option maxRecDepth 100000
section
variable {H : Type} {enc : TypeId × Value → H} {W : World}
theorem arg9 {base : Nat} {v : Value} {d : DataW H} {p : List MemPlace} (hok : Value.okWide Tryd.prog W .any base 9 v) (h : DataW.Trod enc Tryd.prog W 0 (fun _ => true) true 9 v d p) :
    ∃ s : List UInt8, RV (cW W).I (cW W).J W v (.str s) ∧ s.length ≤ Rows.uptoBulk d := by
  obtain ⟨s, rfl, rfl, rfl, _⟩ := open_string Tryd.underlying9 hok h
  refine ⟨s.data.toList, ?_, by simp [Rows.uptoBulk]⟩
  rw [byte_str]
  exact R1.str _
theorem arg3 {base : Nat} {v : Value} {d : DataW H} {p : List MemPlace} (hok : Value.okWide Tryd.prog W .any base 3 v) (h : DataW.Trod enc Tryd.prog W 0 (fun _ => true) true 3 v d p) :
    ∃ n : Int, RV (cW W).I (cW W).J W v (.int .i64 n) := by
  obtain ⟨n, rfl, rfl, rfl, _⟩ := open_int Tryd.underlying3 hok h
  exact ⟨n, R1.int _ _⟩
theorem arg43 {base : Nat} {v : Value} {d : DataW H} {p : List MemPlace} (hok : Value.okWide Tryd.prog W .any base 43 v) (h : DataW.Trod enc Tryd.prog W 0 (fun _ => true) true 43 v d p) :
    ∃ t : Tm, RV (cW W).I (cW W).J W v t.d ∧ t.name.length ≤ Rows.uptoBulk d := by
  obtain ⟨cs, rfl, _⟩ := okWide_struct Tryd.underlying43 hok
  obtain ⟨fuel, hf⟩ := h
  obtain ⟨t, h1, h2⟩ := trodTm hf
  refine ⟨t, ?_, by have : (d, p).1 = d := rfl; rw [this] at h2; omega⟩
  have h3 : All2 (R1 (cW W).I (cW W).J W) cs.toList t.d.cells := h1
  exact ⟨cs.toList, by simp, h3⟩
end
end Go.Fo
/- The witness world. -/
namespace Go.Fo
open Go Go.Sx Go.Proofs
open Go.ChangeShapes Go.WideShapes Go.ChangeAt Go.RowKit
open Go.Proofs.YtkaadmkjjfcakaaDoor
set_option maxRecDepth 100000

def zeroFm : Value := .agg #[.int .i64 0, .string ⟨#[]⟩, .int .i64 0, .slice none 0 0, .slice none 0 0, .slice none 0 0]

def litV : DataW Unit → Value
  | .lit (.int k n) => .int k n
  | _ => .bool false
def partsV : DataW Unit → Array Value
  | .agg l => (l.map litV).toArray
  | _ => #[]
/-- The world that the program's own start lays, and Go's pinned table. -/
noncomputable def laidWorld (os : Os) : World :=
  { World.doorLaid Tryd.prog 400 os with heap := (World.doorLaid Tryd.prog 400 os).heap.modify 4 fun
      | .cells _ t frozen => .cells (partsV Rows.laid_unicode_utf8_first) t frozen
      | o => o }

theorem laid_met (os : Os) (args : Array Value) : laidMet Tryd.prog Rows.formCheckSpecUptoRow.laid ((laidWorld os).forCall (fun _ _ => 0) ⟨#[], args, []⟩).memory :=
  laidMet_of_run' 8 (by kernel_rfl) (by kernel_rfl)
end Go.Fo
/- The witness world's shape. -/
namespace Go.Fo
open Go Go.Sx Go.Proofs
open Go.ChangeShapes Go.WideShapes Go.ChangeAt Go.RowKit
open Go.Proofs.YtkaadmkjjfcakaaDoor
set_option maxRecDepth 100000

theorem own : ownKnob Tryd.prog.godebug = none := by kernel_rfl
theorem laid_vars (os : Os) (args : Array Value) : ((laidWorld os).forCall (fun _ _ => 0) ⟨#[], args, []⟩).variablesRefB Tryd.prog = true := by kernel_rfl
theorem laid_rest (os : Os) (args : Array Value) : (((laidWorld os).forCall (fun _ _ => 0) ⟨#[], args, []⟩).heap.toList.drop Tryd.prog.globals.size).take ((begin Tryd.prog (fun _ _ => 0) default).world.heap.size - Tryd.prog.globals.size) =
      (begin Tryd.prog (fun _ _ => 0) default).world.heap.toList.drop Tryd.prog.globals.size := by kernel_rfl
def zeroD {H : Type} : DataW H := .agg [.lit (.int .i64 0), .lit (.string []), .lit (.int .i64 0), .nil, .nil, .nil]
end Go.Fo
/- Plain laws of formulas: free variables, normal forms. -/
namespace Go.Fo
open Go Go.Sx
set_option maxRecDepth 100000

/-! Free variables: two ways of gathering them agree. -/
theorem addA_in {B o : List Nm} {s : Nm} (h : s ∈ B ∨ s ∈ o) : addA B o s = o := by
  apply addA_neg
  rcases h with h | h
  · simp [h]
  · simp [h]
theorem addA_new {B o : List Nm} {s : Nm} (h : s ∉ B) (h2 : s ∉ o) : addA B o s = o ++ [s] := by
  apply addA_pos
  simp [h, h2]
theorem fold_mem (B : List Nm) (x : Nm) : ∀ (l o : List Nm), x ∈ l.foldl (addA B) o ↔ x ∈ o ∨ (x ∈ l ∧ x ∉ B)
  | [], o => by simp
  | s :: r, o => by
    rw [List.foldl_cons, fold_mem B x r]
    by_cases h : s ∈ B
    · rw [addA_in (.inl h)]
      constructor
      · rintro (h1 | ⟨h1, h2⟩)
        · exact .inl h1
        · exact .inr ⟨List.mem_cons_of_mem _ h1, h2⟩
      · rintro (h1 | ⟨h1, h2⟩)
        · exact .inl h1
        · rcases List.mem_cons.1 h1 with rfl | h1
          · exact absurd h h2
          · exact .inr ⟨h1, h2⟩
    · by_cases h2 : s ∈ o
      · rw [addA_in (.inr h2)]
        constructor
        · rintro (h1 | ⟨h1, h3⟩)
          · exact .inl h1
          · exact .inr ⟨List.mem_cons_of_mem _ h1, h3⟩
        · rintro (h1 | ⟨h1, h3⟩)
          · exact .inl h1
          · rcases List.mem_cons.1 h1 with rfl | h1
            · exact .inl h2
            · exact .inr ⟨h1, h3⟩
      · rw [addA_new h h2, List.mem_append, List.mem_singleton, List.mem_cons]
        constructor
        · rintro ((h1 | rfl) | ⟨h1, h3⟩)
          · exact .inl h1
          · exact .inr ⟨.inl rfl, h⟩
          · exact .inr ⟨.inr h1, h3⟩
        · rintro (h1 | ⟨rfl | h1, h3⟩)
          · exact .inl (.inl h1)
          · exact .inl (.inr rfl)
          · exact .inr ⟨h1, h3⟩
theorem fold_fold (B bnd out : List Nm) : ∀ (xs o : List Nm), (xs.foldl (addA B) o).foldl (addA bnd) out = xs.foldl (addA (B ++ bnd)) (o.foldl (addA bnd) out)
  | [], o => rfl
  | s :: r, o => by
    rw [List.foldl_cons, List.foldl_cons, fold_fold B bnd out r]
    congr 1
    by_cases h : s ∈ B
    · rw [addA_in (.inl h), addA_in (.inl (List.mem_append_left _ h))]
    · by_cases h2 : s ∈ o
      · rw [addA_in (.inr h2)]
        by_cases h3 : s ∈ bnd
        · rw [addA_in (.inl (List.mem_append_right _ h3))]
        · rw [addA_in (.inr ((fold_mem bnd s o out).2 (.inr ⟨h2, h3⟩)))]
      · rw [addA_new h h2, List.foldl_append, List.foldl_cons, List.foldl_nil]
        unfold addA
        simp [h]
theorem addT_addA (bnd : List Nm) : ∀ (ts : List Tm) (out : List Nm), ts.foldl (addT bnd) out = (tsN ts).foldl (addA bnd) out
  | [], out => rfl
  | t :: r, out => by
    rw [List.foldl_cons, addT_addA bnd r]
    have e : tsN (t :: r) = (if t.kind != 1 then [t.name] else []) ++ tsN r := by
      unfold tsN
      rw [List.filter_cons]
      cases t.kind != 1 <;> rfl
    rw [e, List.foldl_append]
    congr 1
    unfold addT addA
    cases h : t.kind != 1 <;> simp
theorem look_free (f : Fm) : ∀ bnd out, f.look bnd out = f.free.foldl (addA bnd) out := by
  induction f using Fm.induct with
  | h f ih =>
  intro bnd out
  have h2 : ∀ (l : List Fm), (∀ x ∈ l, x ∈ f.l) → ∀ b o, Fm.looks b o l = (Fm.frees l).foldl (addA b) o := by
    intro l
    induction l with
    | nil => intro _ b o; rw [Fm.looks, Fm.frees]; rfl
    | cons x r ihr =>
      intro hx b o
      rw [Fm.looks, Fm.frees, List.foldl_append, ihr (fun y hy => hx y (by simp [hy])), ih x (hx x (by simp))]
  rw [f.look_eq, f.free_eq, fold_fold, h2 f.l (fun _ h => h), addT_addA, List.foldl_append]
  rfl
theorem fold_self (B xs : List Nm) : (xs.foldl (addA B) []).foldl (addA []) [] = xs.foldl (addA B) [] := by
  rw [fold_fold, List.append_nil]; rfl
theorem free_self (f : Fm) : f.free.foldl (addA []) [] = f.free := by rw [f.free_eq, fold_self]
theorem look_nil (f : Fm) : f.look [] [] = f.free := by rw [look_free, free_self]

theorem fold_nodup (B : List Nm) : ∀ (l o : List Nm), o.Nodup → (l.foldl (addA B) o).Nodup
  | [], o, h => h
  | s :: r, o, h => by
    rw [List.foldl_cons]
    apply fold_nodup B r
    by_cases h1 : s ∈ B
    · rw [addA_in (.inl h1)]; exact h
    · by_cases h2 : s ∈ o
      · rw [addA_in (.inr h2)]; exact h
      · rw [addA_new h1 h2]
        rw [List.nodup_append]
        refine ⟨h, by simp, ?_⟩
        intro a ha b hb
        simp at hb; subst hb
        rintro rfl; exact h2 ha
theorem free_nodup (f : Fm) : f.free.Nodup := by rw [f.free_eq]; exact fold_nodup _ _ _ List.nodup_nil
theorem fold_filter (B : List Nm) : ∀ (l o : List Nm), l.Nodup → (∀ x ∈ l, x ∉ o) → l.foldl (addA B) o = o ++ l.filter (fun x => !B.contains x)
  | [], o, _, _ => by simp
  | s :: r, o, h, h2 => by
    rw [List.nodup_cons] at h
    rw [List.foldl_cons, List.filter_cons]
    have hs : s ∉ o := h2 s (by simp)
    by_cases h1 : s ∈ B
    · rw [addA_in (.inl h1), fold_filter B r o h.2 (fun x hx => h2 x (by simp [hx]))]
      simp [h1]
    · rw [addA_new h1 hs, fold_filter B r _ h.2 (fun x hx => ?_)]
      · simp [h1]
      · intro hm
        rcases List.mem_append.1 hm with hm | hm
        · exact h2 x (by simp [hx]) hm
        · simp at hm; subst hm; exact h.1 hx
theorem fold_pre (B : List Nm) : ∀ (l o : List Nm), ∃ q, l.foldl (addA B) o = o ++ q
  | [], o => ⟨[], by simp⟩
  | s :: r, o => by
    obtain ⟨q, h⟩ := fold_pre B r (addA B o s)
    rw [List.foldl_cons, h]
    unfold addA
    split
    · exact ⟨s :: q, by simp⟩
    · exact ⟨q, rfl⟩

theorem frees_mem {x : Nm} : ∀ {l : List Fm}, x ∈ Fm.frees l ↔ ∃ y ∈ l, x ∈ y.free
  | [] => by simp [Fm.frees]
  | y :: r => by simp [Fm.frees, frees_mem (l := r)]
theorem free_mem {x : Nm} (f : Fm) : x ∈ f.free ↔ (x ∈ tsN f.ts ∨ ∃ y ∈ f.l, x ∈ y.free) ∧ x ∉ f.bs.map (·.name) := by
  rw [f.free_eq, fold_mem, List.mem_append, frees_mem]
  simp

/-! Equality -/
theorem beq_eq_iff (a : Fm) : ∀ b, a.beq b = true ↔ a = b := by
  induction a using Fm.induct with
  | h a ih =>
  intro b
  rw [beq_parts]
  have hl : ∀ (l m : List Fm), (∀ x ∈ l, x ∈ a.l) → (Fm.beqs l m = true ↔ l = m) := by
    intro l
    induction l with
    | nil => intro m _; cases m <;> simp [Fm.beqs]
    | cons x r ihr =>
      intro m hx
      cases m with
      | nil => simp [Fm.beqs]
      | cons y q =>
        rw [Fm.beqs, Bool.and_eq_true, ih x (hx x (by simp)), ihr q (fun y hy => hx y (by simp [hy]))]
        simp
  rw [hl a.l b.l (fun _ h => h)]
  constructor
  · rintro ⟨h1, h2, h3, h4, h5, h6⟩
    rw [← a.eta, ← b.eta, h1, h2, h3, h4, h5, h6]
  · rintro rfl; exact ⟨rfl, rfl, rfl, rfl, rfl, rfl⟩
theorem beq_ne {a b : Fm} (h : a ≠ b) : a.beq b = false := by
  cases hb : a.beq b with
  | false => rfl
  | true => exact absurd ((beq_eq_iff a b).1 hb) h
theorem beq_comm (a b : Fm) : a.beq b = b.beq a := by
  by_cases h : a = b
  · subst h; rfl
  · rw [beq_ne h, beq_ne (fun e => h e.symm)]

/-! The normal form. -/
theorem formB_mk (k : Int) (s : Nm) (n : Int) (ts : List Tm) (bs : List Bd) (l : List Fm) : (Fm.mk k s n ts bs l).formB = (nodeB (.mk k s n ts bs l) && l.all Fm.formB) := by
  rw [Fm.formB, formsB_all]
theorem formB_shape' {f : Fm} (h : Shape f) : f.formB = true := by
  cases h with
  | const k hk => rcases hk with rfl | rfl <;> decide
  | atom k a b hk ha hb ha2 hb2 => rcases hk with rfl | rfl | rfl | rfl | rfl | rfl <;> simp [formB_mk, nodeB, partsI, termsB, bindsB, atomB, quantB, Fm.kind, Fm.ts, Fm.bs, Fm.l, Fm.n, Fm.name, tmAt, ha, hb, ha2, hb2]
  | cmp s a b hs ha hb => simp [formB_mk, nodeB, partsI, termsB, bindsB, atomB, quantB, Fm.kind, Fm.ts, Fm.bs, Fm.l, Fm.n, Fm.name, tmAt, ha, hb, hs]
  | not x hx => simp [formB_mk, nodeB, partsI, termsB, bindsB, atomB, quantB, Fm.kind, Fm.ts, Fm.bs, Fm.l, Fm.n, Fm.name, hx]
  | two k x y hk hx hy => rcases hk with rfl | rfl | rfl <;> simp [formB_mk, nodeB, partsI, termsB, bindsB, atomB, quantB, Fm.kind, Fm.ts, Fm.bs, Fm.l, Fm.n, Fm.name, hx, hy]
  | quant k bs x hk hb h1 h6 hx => rcases hk with rfl | rfl <;> simp [formB_mk, nodeB, partsI, termsB, bindsB, atomB, quantB, countB, Fm.kind, Fm.ts, Fm.bs, Fm.l, Fm.n, Fm.name, hx, h1, h6, hb]
  | count k n bs x hk h0 hn hb h1 h6 hx =>
    have hn' : n = 0 ∨ (0 < n ∧ n ≤ 1099511627776) := by omega
    rcases hk with rfl | rfl <;> simp [formB_mk, nodeB, partsI, termsB, bindsB, atomB, quantB, countB, Fm.kind, Fm.ts, Fm.bs, Fm.l, Fm.n, Fm.name, hx, h1, h6, hb] <;> exact hn'.imp id fun h => ⟨decide_eq_true h.1, decide_eq_true h.2⟩

theorem sign_turnS {s : Nm} (h : signB s = true) : signB (turnS s) = true := by
  unfold signB at h
  simp only [Bool.or_eq_true, beq_iff_eq] at h
  rcases h with ((((h | h) | h) | h) | h) | h <;> subst h <;> decide
theorem turn_turnS {s : Nm} (h : signB s = true) : turnS (turnS s) = s := by
  unfold signB at h
  simp only [Bool.or_eq_true, beq_iff_eq] at h
  rcases h with ((((h | h) | h) | h) | h) | h <;> subst h <;> decide

theorem right_formB (f : Fm) (hf : f.formB = true) : ∀ t, (f.right t).formB = true := by
  induction f using Fm.induct with
  | h f ih =>
  intro t
  have hs := formB_shape hf
  cases hs with
  | const k hk => rcases hk with rfl | rfl <;> cases t <;> first | rw [right_const1] | rw [right_const2]
                  all_goals first | exact formB_shape' (.const _ (.inl rfl)) | exact formB_shape' (.const _ (.inr rfl))
  | atom k a b hk ha hb ha2 hb2 =>
    rw [right_atom a b hk]
    have h := formB_shape' (Shape.atom k a b hk ha hb ha2 hb2)
    cases t
    · exact h
    · exact formB_shape' (.not _ h)
  | cmp s a b hs ha hb =>
    rw [right_cmp]
    cases t
    · exact formB_shape' (.cmp s a b hs ha hb)
    · exact formB_shape' (.cmp _ a b (sign_turnS hs) ha hb)
  | not x hx => rw [right_not]; exact ih x (by simp [Fm.l]) hx (!t)
  | two k x y hk hx hy =>
    have h1 := ih x (by simp [Fm.l]) hx
    have h2 := ih y (by simp [Fm.l]) hy
    rcases hk with rfl | rfl | rfl
    · rw [right_and]; exact formB_shape' (.two _ _ _ (by cases t <;> simp) (h1 t) (h2 t))
    · rw [right_or]; exact formB_shape' (.two _ _ _ (by cases t <;> simp) (h1 t) (h2 t))
    · rw [right_imp]; exact formB_shape' (.two _ _ _ (by cases t <;> simp) (h1 (!t)) (h2 t))
  | quant k bs x hk hb h1 h6 hx =>
    have a1 := ih x (by simp [Fm.l]) hx t
    rcases hk with rfl | rfl
    · rw [right_all]; exact formB_shape' (.quant _ bs _ (by cases t <;> simp) hb h1 h6 a1)
    · rw [right_some]; exact formB_shape' (.quant _ bs _ (by cases t <;> simp) hb h1 h6 a1)
  | count k n bs x hk h0 hn hb h1 h6 hx =>
    have a1 := ih x (by simp [Fm.l]) hx false
    rcases hk with rfl | rfl
    · rw [right_least]
      split
      · exact formB_shape' (.const _ (by cases t <;> simp))
      · exact formB_shape' (.count _ _ bs _ (by cases t <;> simp) (by cases t <;> simp <;> omega) (by cases t <;> simp <;> omega) hb h1 h6 a1)
    · rw [right_most]
      split
      · exact formB_shape' (.const _ (by cases t <;> simp))
      · exact formB_shape' (.count _ _ bs _ (by cases t <;> simp) (by cases t <;> simp <;> omega) (by cases t <;> simp <;> omega) hb h1 h6 a1)

/-- The normal form of a normal form, and of its negation. -/
theorem right_right (f : Fm) (hb : f.formB = true) : ∀ t u, (f.right t).right u = f.right (t ^^ u) := by
  induction f using Fm.induct with
  | h f ih =>
  intro t u
  have hs := formB_shape hb
  cases hs with
  | const k hk => rcases hk with rfl | rfl <;> cases t <;> cases u <;> simp [right_const1, right_const2]
  | atom k a b hk ha hb ha2 hb2 => cases t <;> cases u <;> simp [right_atom a b hk, right_not]
  | cmp s a b hs ha hb => cases t <;> cases u <;> simp [right_cmp, turn_turnS hs]
  | not x hx =>
    have h := ih x (by simp [Fm.l]) hx
    rw [right_not, right_not, h]; cases t <;> cases u <;> rfl
  | two k x y hk hx hy =>
    have h1 := ih x (by simp [Fm.l]) hx
    have h2 := ih y (by simp [Fm.l]) hy
    rcases hk with rfl | rfl | rfl <;> cases t <;> cases u <;> simp [right_and, right_or, right_imp, h1, h2]
  | quant k bs x hk hb h1 h6 hx =>
    have a1 := ih x (by simp [Fm.l]) hx
    rcases hk with rfl | rfl <;> cases t <;> cases u <;> simp [right_all, right_some, a1]
  | count k n bs x hk h0 hn hb h1 h6 hx =>
    have a1 := ih x (by simp [Fm.l]) hx
    rcases hk with rfl | rfl
    · by_cases hz : n = 0
      · subst hz; cases t <;> cases u <;> simp [right_least, right_const1, right_const2]
      · have e1 : ¬ n - 1 = 1099511627776 := by omega
        have e2 : n - 1 + 1 = n := by omega
        cases t <;> cases u <;> simp [right_least, right_most, hz, a1, e1, e2]
    · by_cases hz : n = 1099511627776
      · subst hz; cases t <;> cases u <;> simp [right_most, right_const1, right_const2]
      · have e1 : ¬ n + 1 = 0 := by omega
        have e2 : n + 1 - 1 = n := by omega
        cases t <;> cases u <;> simp [right_least, right_most, hz, a1, e1, e2]

/-- Sizes, depths, free variables of a normal form. -/
theorem right_rank (f : Fm) (hb : f.formB = true) : ∀ t, (f.right t).rank ≤ 2 * f.rank := by
  induction f using Fm.induct with
  | h f ih =>
  intro t
  have hs := formB_shape hb
  cases hs with
  | const k hk => rcases hk with rfl | rfl <;> cases t <;> simp [right_const1, right_const2, Fm.rank, Fm.ranks]
  | atom k a b hk ha hb ha2 hb2 => rw [right_atom a b hk]; cases t <;> simp [Fm.rank, Fm.ranks]
  | cmp s a b hs ha hb => rw [right_cmp]; cases t <;> simp [Fm.rank, Fm.ranks]
  | not x hx => rw [right_not]; have := ih x (by simp [Fm.l]) hx (!t); simp [Fm.rank, Fm.ranks]; omega
  | two k x y hk hx hy =>
    have h1 := ih x (by simp [Fm.l]) hx
    have h2 := ih y (by simp [Fm.l]) hy
    have a1 := h1 t; have a2 := h1 (!t); have b1 := h2 t
    rcases hk with rfl | rfl | rfl
    · rw [right_and]; simp [Fm.rank, Fm.ranks]; omega
    · rw [right_or]; simp [Fm.rank, Fm.ranks]; omega
    · rw [right_imp]; simp [Fm.rank, Fm.ranks]; omega
  | quant k bs x hk hb h1 h6 hx =>
    have a1 := ih x (by simp [Fm.l]) hx t
    rcases hk with rfl | rfl
    · rw [right_all]; simp [Fm.rank, Fm.ranks]; omega
    · rw [right_some]; simp [Fm.rank, Fm.ranks]; omega
  | count k n bs x hk h0 hn hb h1 h6 hx =>
    have a1 := ih x (by simp [Fm.l]) hx false
    rcases hk with rfl | rfl
    · rw [right_least]; split <;> simp [Fm.rank, Fm.ranks] <;> omega
    · rw [right_most]; split <;> simp [Fm.rank, Fm.ranks] <;> omega
theorem right_depth (f : Fm) (hb : f.formB = true) : ∀ t, (f.right t).depth ≤ f.depth + 1 := by
  induction f using Fm.induct with
  | h f ih =>
  intro t
  have hs := formB_shape hb
  cases hs with
  | const k hk => rcases hk with rfl | rfl <;> cases t <;> simp [right_const1, right_const2, Fm.depth, Fm.depths]
  | atom k a b hk ha hb ha2 hb2 => rw [right_atom a b hk]; cases t <;> simp [Fm.depth, Fm.depths]
  | cmp s a b hs ha hb => rw [right_cmp]; cases t <;> simp [Fm.depth, Fm.depths]
  | not x hx => rw [right_not]; have := ih x (by simp [Fm.l]) hx (!t); simp [Fm.depth, Fm.depths]; omega
  | two k x y hk hx hy =>
    have h1 := ih x (by simp [Fm.l]) hx
    have h2 := ih y (by simp [Fm.l]) hy
    have a1 := h1 t; have a2 := h1 (!t); have b1 := h2 t
    rcases hk with rfl | rfl | rfl
    · rw [right_and]; simp [Fm.depth, Fm.depths]; omega
    · rw [right_or]; simp [Fm.depth, Fm.depths]; omega
    · rw [right_imp]; simp [Fm.depth, Fm.depths]; omega
  | quant k bs x hk hb h1 h6 hx =>
    have a1 := ih x (by simp [Fm.l]) hx t
    rcases hk with rfl | rfl
    · rw [right_all]; simp [Fm.depth, Fm.depths]; omega
    · rw [right_some]; simp [Fm.depth, Fm.depths]; omega
  | count k n bs x hk h0 hn hb h1 h6 hx =>
    have a1 := ih x (by simp [Fm.l]) hx false
    rcases hk with rfl | rfl
    · rw [right_least]; split <;> simp [Fm.depth, Fm.depths] <;> omega
    · rw [right_most]; split <;> simp [Fm.depth, Fm.depths] <;> omega
theorem right_free (f : Fm) (hb : f.formB = true) : ∀ t x, x ∈ (f.right t).free → x ∈ f.free := by
  induction f using Fm.induct with
  | h f ih =>
  intro t x
  have hs := formB_shape hb
  cases hs with
  | const k hk =>
    have hc : ∀ k', x ∉ (Fm.mk k' [] 0 [] [] []).free := by intro k'; rw [free_mem]; simp [Fm.ts, Fm.l, tsN]
    rcases hk with rfl | rfl <;> cases t <;> simp only [right_const1, right_const2] <;> exact fun h => absurd h (hc _)
  | atom k a b hk ha hb ha2 hb2 =>
    rw [right_atom a b hk]
    cases t
    · exact id
    · intro h
      rw [if_pos rfl, free_mem] at h
      simp only [Fm.ts, tsN, Fm.l, List.filter_nil, List.map_nil, List.not_mem_nil, false_or, List.mem_singleton, exists_eq_left] at h
      exact h.1
  | cmp s a b hs ha hb => rw [right_cmp, free_mem, free_mem]; simp [Fm.ts, Fm.l, Fm.bs]
  | not y hx =>
    rw [right_not]; intro h
    have := ih y (by simp [Fm.l]) hx (!t) x h
    rw [free_mem (Fm.mk 10 [] 0 [] [] [y])]
    exact ⟨.inr ⟨y, by simp [Fm.l], this⟩, by simp [Fm.bs]⟩
  | two k y z hk hx hy =>
    have h1 := fun t => ih y (by simp [Fm.l]) hx t x
    have h2 := fun t => ih z (by simp [Fm.l]) hy t x
    rw [free_mem (Fm.mk k [] 0 [] [] [y, z])]
    intro h
    refine ⟨.inr ?_, by simp [Fm.bs]⟩
    simp only [Fm.l, List.mem_cons, List.not_mem_nil, or_false, exists_eq_or_imp, exists_eq_left]
    rcases hk with rfl | rfl | rfl
    · rw [right_and, free_mem] at h; simp [Fm.ts, Fm.l, Fm.bs, tsN] at h; exact h.imp (h1 _) (h2 _)
    · rw [right_or, free_mem] at h; simp [Fm.ts, Fm.l, Fm.bs, tsN] at h; exact h.imp (h1 _) (h2 _)
    · rw [right_imp, free_mem] at h; simp [Fm.ts, Fm.l, Fm.bs, tsN] at h; exact h.imp (h1 _) (h2 _)
  | quant k bs y hk hb h1 h6 hx =>
    have a1 := ih y (by simp [Fm.l]) hx t x
    rw [free_mem (Fm.mk k [] 0 [] bs [y])]
    intro h
    rcases hk with rfl | rfl
    · rw [right_all, free_mem] at h
      obtain ⟨h2, h3⟩ := h
      refine ⟨?_, h3⟩
      simp [Fm.ts, Fm.l, tsN] at h2 ⊢; exact a1 h2
    · rw [right_some, free_mem] at h
      obtain ⟨h2, h3⟩ := h
      refine ⟨?_, h3⟩
      simp [Fm.ts, Fm.l, tsN] at h2 ⊢; exact a1 h2
  | count k n bs y hk h0 hn hb h1 h6 hx =>
    have a1 := ih y (by simp [Fm.l]) hx false x
    rw [free_mem (Fm.mk k [] n [] bs [y])]
    intro h
    have key : ∀ k' n', x ∈ (Fm.mk k' [] n' [] bs [y.right false]).free → (x ∈ tsN (Fm.mk k [] n [] bs [y]).ts ∨ ∃ z ∈ (Fm.mk k [] n [] bs [y]).l, x ∈ z.free) ∧ x ∉ (Fm.mk k [] n [] bs [y]).bs.map (·.name) := by
      intro k' n' h
      rw [free_mem] at h
      obtain ⟨h2, h3⟩ := h
      refine ⟨?_, h3⟩
      simp [Fm.ts, Fm.l, tsN] at h2 ⊢; exact a1 h2
    have hc : ∀ k', x ∉ (Fm.mk k' [] 0 [] [] []).free := by intro k'; rw [free_mem]; simp [Fm.ts, Fm.l, tsN]
    rcases hk with rfl | rfl
    · rw [right_least] at h
      split at h
      · exact absurd h (hc _)
      · exact key _ _ h
    · rw [right_most] at h
      split at h
      · exact absurd h (hc _)
      · exact key _ _ h

/-- Normal: no implication, no count that is always true, negation above plain atoms alone. -/
def normN (f : Fm) : Bool := if f.kind == 10 then (match f.l with | [x] => decide (3 ≤ x.kind) && decide (x.kind < 9) | _ => false) else f.kind != 13 && (f.kind != 16 || decide (0 < f.n)) && (f.kind != 17 || decide (f.n < 1099511627776))
mutual
def Fm.normB : Fm → Bool
  | .mk k s n ts bs l => Fm.normsB l && normN (.mk k s n ts bs l)
def Fm.normsB : List Fm → Bool
  | [] => true
  | x :: r => x.normB && Fm.normsB r
end
theorem Fm.normB_eq (f : Fm) : f.normB = (Fm.normsB f.l && normN f) := by cases f; rw [Fm.normB]; rfl
theorem normsB_all (l : List Fm) : Fm.normsB l = l.all Fm.normB := by
  induction l with
  | nil => rw [Fm.normsB]; rfl
  | cons x r ih => rw [Fm.normsB, ih]; rfl
theorem right_norm (f : Fm) (hb : f.formB = true) : ∀ t, (f.right t).normB = true := by
  induction f using Fm.induct with
  | h f ih =>
  intro t
  have hs := formB_shape hb
  cases hs with
  | const k hk => rcases hk with rfl | rfl <;> cases t <;> simp [right_const1, right_const2, Fm.normB_eq, normsB_all, normN, Fm.kind, Fm.l]
  | atom k a b hk ha hb ha2 hb2 => rw [right_atom a b hk]; rcases hk with rfl | rfl | rfl | rfl | rfl | rfl <;> cases t <;> simp [Fm.normB_eq, normsB_all, normN, Fm.kind, Fm.l]
  | cmp s a b hs ha hb => rw [right_cmp]; cases t <;> simp [Fm.normB_eq, normsB_all, normN, Fm.kind, Fm.l]
  | not x hx => rw [right_not]; exact ih x (by simp [Fm.l]) hx (!t)
  | two k x y hk hx hy =>
    have h1 := ih x (by simp [Fm.l]) hx
    have h2 := ih y (by simp [Fm.l]) hy
    rcases hk with rfl | rfl | rfl
    · rw [right_and]; cases t <;> simp [Fm.normB_eq (.mk _ _ _ _ _ _), normsB_all, normN, Fm.kind, Fm.l, h1, h2]
    · rw [right_or]; cases t <;> simp [Fm.normB_eq (.mk _ _ _ _ _ _), normsB_all, normN, Fm.kind, Fm.l, h1, h2]
    · rw [right_imp]; cases t <;> simp [Fm.normB_eq (.mk _ _ _ _ _ _), normsB_all, normN, Fm.kind, Fm.l, h1, h2]
  | quant k bs x hk hb h1 h6 hx =>
    have a1 := ih x (by simp [Fm.l]) hx
    rcases hk with rfl | rfl
    · rw [right_all]; cases t <;> simp [Fm.normB_eq (.mk _ _ _ _ _ _), normsB_all, normN, Fm.kind, Fm.l, a1]
    · rw [right_some]; cases t <;> simp [Fm.normB_eq (.mk _ _ _ _ _ _), normsB_all, normN, Fm.kind, Fm.l, a1]
  | count k n bs x hk h0 hn hb h1 h6 hx =>
    have a1 := ih x (by simp [Fm.l]) hx
    rcases hk with rfl | rfl
    · rw [right_least]
      split
      · cases t <;> simp [Fm.normB_eq (.mk _ _ _ _ _ _), normsB_all, normN, Fm.kind, Fm.l]
      · have e1 : decide (0 < n) = true := decide_eq_true (by omega)
        have e2 : decide (n - 1 < 1099511627776) = true := decide_eq_true (by omega)
        cases t <;> simp [Fm.normB_eq (.mk _ _ _ _ _ _), normsB_all, normN, Fm.kind, Fm.l, Fm.n, a1] <;> first | exact e1 | exact e2
    · rw [right_most]
      split
      · cases t <;> simp [Fm.normB_eq (.mk _ _ _ _ _ _), normsB_all, normN, Fm.kind, Fm.l]
      · have e1 : decide (n < 1099511627776) = true := decide_eq_true (by omega)
        have e2 : decide (0 < n + 1) = true := decide_eq_true (by omega)
        cases t <;> simp [Fm.normB_eq (.mk _ _ _ _ _ _), normsB_all, normN, Fm.kind, Fm.l, Fm.n, a1] <;> first | exact e1 | exact e2
end Go.Fo
/- Law 4's contract (normal), law 2's. -/
namespace Go.Fo
open Go Go.Sx Go.Proofs
set_option maxRecDepth 100000
set_option maxHeartbeats 0

section
variable {G : Nat → Option (List D)} {M : Maps}
theorem fn26 (f : Fm) (hf : f.wt < 4611686018427387904) : PFn Tryd.prog G 26 [f.d] (· = [.bool f.normB]) := by
  induction f using Fm.induct with
  | h f ih =>
  have hw := f.wt_eq
  have hl := wts_len f.l
  rw [f.d_eq]
  refine PFn.walk (fn := Tryd.f26) (code := bodyOf Tryd.f26) mixed
    (LL [(2, loopW (α := Nat) Tryd.prog G L0 0 (loopN (bodyOf Tryd.f26) 0) [1] (fun x => x ≤ f.l.length ∧ (f.l.take x).all Fm.normB = true) (fun x => f.l.length - x)
      (fun x => [(3, .d (.int .i64 x))]) (fun H _ => H))])
    Tryd.func26 (by kernel_rfl) ⟨_, rfl⟩ (LoopsOk.one (b1 := loopN (bodyOf Tryd.f26) 0) (by kernel_rfl) (by kernel_rfl) (loopW_sound mixed (ok0 (by kernel_rfl)))) ?_
  apply @of_vc _ (
    ∃ (x0 : Nat), (x0 ≤ List.length (Fm.l f) ∧ List.all (List.take x0 (Fm.l f)) Fm.normB = true) ∧ ((AV.ptr (0 : Nat) (0 : Nat) = AV.ptr (0 : Nat) (0 : Nat) ∧ (0 : Int) = (↑x0 : Int) ∧ True)
    ∧ (Fm.kind f = Fm.kind f ∧ Fm.name f = Fm.name f ∧ Fm.n f = Fm.n f ∧ List.map Tm.d (Fm.ts f) = List.map Tm.d (Fm.ts f) ∧ List.map Bd.d (Fm.bs f) = List.map Bd.d (Fm.bs f) ∧ List.map Fm.d
    (Fm.l f) = List.map Fm.d (Fm.l f) ∧ True) ∧ True) ∧ ∀ (x : Nat), x ≤ List.length (Fm.l f) ∧ List.all (List.take x (Fm.l f)) Fm.normB = true → (decide ((↑x : Int) < (↑(List.length
    (List.map Fm.d (Fm.l f))) : Int)) = true → ((0 : Int) ≤ (↑x : Int) ∧ (List.map Fm.d (Fm.l f))[Int.toNat (↑x : Int)]? = some (aggAt [Sh.int IntKind.i64, Sh.str, Sh.int IntKind.i64, Sh.sl,
    Sh.sl, Sh.sl] (List.map Fm.d (Fm.l f)) (Int.toNat (↑x : Int)))) ∧ PFn Tryd.prog G (26 : Nat) [aggAt [Sh.int IntKind.i64, Sh.str, Sh.int IntKind.i64, Sh.sl, Sh.sl, Sh.sl] (List.map Fm.d
    (Fm.l f)) (Int.toNat (↑x : Int))] fun (rs : List D) => ∃ (b : Bool), rs = [D.bool b] ∧ ((!b) = true → [D.bool false] = [D.bool (Fm.normB f)]) ∧ ((!b) = false → ∃ (y : Nat), (y ≤
    List.length (Fm.l f) ∧ List.all (List.take y (Fm.l f)) Fm.normB = true) ∧ List.length (Fm.l f) - y < List.length (Fm.l f) - x ∧ (AV.ptr (0 : Nat) (0 : Nat) = AV.ptr (0 : Nat) (0 : Nat) ∧
    IntKind.wrap IntKind.i64 ((↑x : Int) + (1 : Int)) = (↑y : Int) ∧ True) ∧ (Fm.kind f = Fm.kind f ∧ Fm.name f = Fm.name f ∧ Fm.n f = Fm.n f ∧ List.map Tm.d (Fm.ts f) = List.map Tm.d (Fm.ts
    f) ∧ List.map Bd.d (Fm.bs f) = List.map Bd.d (Fm.bs f) ∧ List.map Fm.d (Fm.l f) = List.map Fm.d (Fm.l f) ∧ True) ∧ True)) ∧ (decide ((↑x : Int) < (↑(List.length (List.map Fm.d (Fm.l f)))
    : Int)) = false → ((Fm.kind f == (10 : Int)) = true → (((↑(List.length (List.map Fm.d (Fm.l f))) : Int) == (1 : Int)) = true → (0 : Int) ≤ (0 : Int) ∧ (List.map Fm.d (Fm.l f))[Int.toNat
    (0 : Int)]? = some (aggAt [Sh.int IntKind.i64, Sh.str, Sh.int IntKind.i64, Sh.sl, Sh.sl, Sh.sl] (List.map Fm.d (Fm.l f)) (Int.toNat (0 : Int)))) ∧ ((bif (↑(List.length (List.map Fm.d
    (Fm.l f))) : Int) == (1 : Int) then decide (D.toInt (Option.getD (cellAt (List.map Fm.d (Fm.l f)) (Int.toNat (0 : Int)) (0 : Nat)) default) ≥ (3 : Int)) else false) = true → (0 : Int) ≤
    (0 : Int) ∧ (List.map Fm.d (Fm.l f))[Int.toNat (0 : Int)]? = some (aggAt [Sh.int IntKind.i64, Sh.str, Sh.int IntKind.i64, Sh.sl, Sh.sl, Sh.sl] (List.map Fm.d (Fm.l f)) (Int.toNat (0 :
    Int)))) ∧ [D.bool (bif bif (↑(List.length (List.map Fm.d (Fm.l f))) : Int) == (1 : Int) then decide (D.toInt (Option.getD (cellAt (List.map Fm.d (Fm.l f)) (Int.toNat (0 : Int)) (0 :
    Nat)) default) ≥ (3 : Int)) else false then decide (D.toInt (Option.getD (cellAt (List.map Fm.d (Fm.l f)) (Int.toNat (0 : Int)) (0 : Nat)) default) < (9 : Int)) else false)] = [D.bool
    (Fm.normB f)]) ∧ ((Fm.kind f == (10 : Int)) = false → [D.bool (bif bif Fm.kind f != (13 : Int) then bif Fm.kind f != (16 : Int) then true else decide (Fm.n f > (0 : Int)) else false then
    bif Fm.kind f != (17 : Int) then true else decide (Fm.n f < (1099511627776 : Int)) else false)] = [D.bool (Fm.normB f)])))
  · kernel_rfl
  refine ⟨0, ⟨by omega, by simp⟩, by simp, fun x hx => ⟨fun hlt => ?_, fun hge => ?_⟩⟩
  · simp only [List.length_map, decide_eq_true_eq] at hlt
    obtain ⟨z, hz, hm⟩ := get_nat (l := f.l) (x := x) (by omega)
    simp only [Int.toNat_natCast]
    rw [agg_fm hz]
    refine ⟨⟨by omega, by simp [hz]⟩, ?_⟩
    refine (ih z hm (by have := Fm.wt_lt hm; omega)).mono ?_
    rintro rs rfl
    refine ⟨_, rfl, fun h2 => ?_, fun h2 => ?_⟩
    · have : f.l.all Fm.normB = false := by
        rw [List.all_eq_false]
        exact ⟨z, hm, by simpa using h2⟩
      rw [f.normB_eq, normsB_all, this, Bool.false_and]
    · refine ⟨x + 1, ⟨by omega, ?_⟩, by omega, ?_⟩
      · rw [List.take_add_one, hz, List.all_append, hx.2]
        simpa using h2
      · rw [wrap64 (by omega) (by omega)]
        simp
  · simp only [decide_eq_false_iff_not, List.length_map] at hge
    have h2 : f.l.all Fm.normB = true := by have := hx.2; rwa [List.take_of_length_le (by omega)] at this
    have hn : f.normB = normN f := by rw [f.normB_eq, normsB_all, h2, Bool.true_and]
    rw [hn]
    refine ⟨fun hk => ?_, fun hk => ?_⟩
    · have hk' : f.kind = 10 := by simpa using hk
      by_cases hlen : f.l.length = 1
      · obtain ⟨z, hz1⟩ := len1 hlen
        have hz : f.l[0]? = some z := by rw [hz1]; rfl
        rw [show Int.toNat 0 = 0 from rfl, agg_fm hz, cell_fm0 hz]
        refine ⟨fun _ => ⟨by omega, by simp [hz]⟩, fun _ => ⟨by omega, by simp [hz]⟩, ?_⟩
        simp [normN, hk', hz1, D.toInt]; rfl
      · have e : ((f.l.length : Int) == 1) = false := by rw [beq_eq_false_iff_ne]; omega
        rw [List.length_map, e]
        refine ⟨fun h => (by cases h), fun h => (by cases h), ?_⟩
        have : normN f = false := by
          unfold normN
          rw [if_pos hk]
          split
          · rename_i h; rw [h] at hlen; exact absurd rfl hlen
          · rfl
        rw [this]; rfl
    · simp [normN, hk]

theorem fn4 (hM : M.Ok) (a b : Fm) (ha : a.wt < 1099511627776) (hb : b.wt < 1099511627776) : PFn Tryd.prog (GG M) 4 [a.d, b.d] (· = [.bool true]) := by
  have h12a := fn12 (G := GG M) a (by omega)
  have h12b := fn12 (G := GG M) b (by omega)
  have h19 := fn19 (G := GG M) a (by omega)
  have h20 := fn20 (G := GG M) a (by omega)
  have h21 := fn21 (G := GG M) a (by omega) b
  have h22 := fn22 (G := GG M) a (by omega) b
  have h23 := fn21 (G := GG M) a (by omega) a
  rw [look_nil] at h19
  rw [d_cells a] at h12a h19 h20 h21 h22 h23 ⊢
  rw [d_cells b] at h12b h21 h22 ⊢
  refine PFn.walk (fn := Tryd.f4) (code := bodyOf Tryd.f4) mixed
    (LL [(10, loopW (α := Nat) Tryd.prog (GG M) L0 0 (loopN (bodyOf Tryd.f4) 0) [2, 3, 5, 6] (fun x => x ≤ a.free.length) (fun x => a.free.length - x)
      (fun x => [(7, .d (.int .i64 x))]) (fun H _ => H))])
    Tryd.func4 (by kernel_rfl) ⟨_, rfl⟩ (LoopsOk.one (b1 := loopN (bodyOf Tryd.f4) 0) (by kernel_rfl) (by kernel_rfl) (loopW_sound mixed (ok0 (by kernel_rfl)))) ?_
  apply @of_vc _ (
    PFn Tryd.prog (GG M) (11 : Nat) [] fun (rs : List D) => ∃ (b_1 : Bool), rs = [D.bool b_1] ∧ ((!b_1) = true → [D.bool false] = [D.bool true]) ∧ ((!b_1) = false → PFn Tryd.prog (GG M) (12
    : Nat) [D.agg [D.int IntKind.i64 (Fm.kind a), D.str (Fm.name a), D.int IntKind.i64 (Fm.n a), D.sl (List.map Tm.d (Fm.ts a)), D.sl (List.map Bd.d (Fm.bs a)), D.sl (List.map Fm.d (Fm.l
    a))]] fun (rs : List D) => ∃ (b_2 : Bool), rs = [D.bool b_2] ∧ PFn Tryd.prog (GG M) (12 : Nat) [D.agg [D.int IntKind.i64 (Fm.kind b), D.str (Fm.name b), D.int IntKind.i64 (Fm.n b), D.sl
    (List.map Tm.d (Fm.ts b)), D.sl (List.map Bd.d (Fm.bs b)), D.sl (List.map Fm.d (Fm.l b))]] fun (rs : List D) => ∃ (b_3 : Bool), rs = [D.bool b_3] ∧ ((bif !b_2 then true else !b_3) = true
    → [D.bool true] = [D.bool true]) ∧ ((bif !b_2 then true else !b_3) = false → PFn Tryd.prog (GG M) (19 : Nat) [D.agg [D.int IntKind.i64 (Fm.kind a), D.str (Fm.name a), D.int IntKind.i64
    (Fm.n a), D.sl (List.map Tm.d (Fm.ts a)), D.sl (List.map Bd.d (Fm.bs a)), D.sl (List.map Fm.d (Fm.l a))]] fun (rs : List D) => ∃ (l : List D), rs = [D.sl l] ∧ PFn Tryd.prog (GG M) (20 :
    Nat) [D.agg [D.int IntKind.i64 (Fm.kind a), D.str (Fm.name a), D.int IntKind.i64 (Fm.n a), D.sl (List.map Tm.d (Fm.ts a)), D.sl (List.map Bd.d (Fm.bs a)), D.sl (List.map Fm.d (Fm.l a))]]
    fun (rs : List D) => ∃ (l_1 : List D), rs = [D.sl l_1] ∧ (((↑(List.length l) : Int) != (↑(List.length l_1) : Int)) = true → [D.bool false] = [D.bool true]) ∧ (((↑(List.length l) : Int)
    != (↑(List.length l_1) : Int)) = false → ∃ (x0 : Nat), x0 ≤ List.length (Fm.free a) ∧ ((AV.ptr (0 : Nat) (0 : Nat) = AV.ptr (0 : Nat) (0 : Nat) ∧ AV.ptr (1 : Nat) (0 : Nat) = AV.ptr (1 :
    Nat) (0 : Nat) ∧ l = l ∧ l_1 = l_1 ∧ (0 : Int) = (↑x0 : Int) ∧ True) ∧ (Fm.kind a = Fm.kind a ∧ Fm.name a = Fm.name a ∧ Fm.n a = Fm.n a ∧ List.map Tm.d (Fm.ts a) = List.map Tm.d (Fm.ts
    a) ∧ List.map Bd.d (Fm.bs a) = List.map Bd.d (Fm.bs a) ∧ List.map Fm.d (Fm.l a) = List.map Fm.d (Fm.l a) ∧ True) ∧ (Fm.kind b = Fm.kind b ∧ Fm.name b = Fm.name b ∧ Fm.n b = Fm.n b ∧
    List.map Tm.d (Fm.ts b) = List.map Tm.d (Fm.ts b) ∧ List.map Bd.d (Fm.bs b) = List.map Bd.d (Fm.bs b) ∧ List.map Fm.d (Fm.l b) = List.map Fm.d (Fm.l b) ∧ True) ∧ True) ∧ ∀ (x : Nat), x ≤
    List.length (Fm.free a) → (decide ((↑x : Int) < (↑(List.length l) : Int)) = true → ((0 : Int) ≤ (↑x : Int) ∧ l[Int.toNat (↑x : Int)]? = some (D.str (D.toStr (Option.getD (cellAt l
    (Int.toNat (↑x : Int)) (0 : Nat)) default)))) ∧ ((0 : Int) ≤ (↑x : Int) ∧ l_1[Int.toNat (↑x : Int)]? = some (D.str (D.toStr (Option.getD (cellAt l_1 (Int.toNat (↑x : Int)) (0 : Nat))
    default)))) ∧ ((!D.toStr (Option.getD (cellAt l (Int.toNat (↑x : Int)) (0 : Nat)) default) == D.toStr (Option.getD (cellAt l_1 (Int.toNat (↑x : Int)) (0 : Nat)) default)) = true →
    [D.bool false] = [D.bool true]) ∧ ((!D.toStr (Option.getD (cellAt l (Int.toNat (↑x : Int)) (0 : Nat)) default) == D.toStr (Option.getD (cellAt l_1 (Int.toNat (↑x : Int)) (0 : Nat))
    default)) = false → ∃ (y : Nat), y ≤ List.length (Fm.free a) ∧ List.length (Fm.free a) - y < List.length (Fm.free a) - x ∧ (AV.ptr (0 : Nat) (0 : Nat) = AV.ptr (0 : Nat) (0 : Nat) ∧
    AV.ptr (1 : Nat) (0 : Nat) = AV.ptr (1 : Nat) (0 : Nat) ∧ l = l ∧ l_1 = l_1 ∧ IntKind.wrap IntKind.i64 ((↑x : Int) + (1 : Int)) = (↑y : Int) ∧ True) ∧ (Fm.kind a = Fm.kind a ∧ Fm.name a
    = Fm.name a ∧ Fm.n a = Fm.n a ∧ List.map Tm.d (Fm.ts a) = List.map Tm.d (Fm.ts a) ∧ List.map Bd.d (Fm.bs a) = List.map Bd.d (Fm.bs a) ∧ List.map Fm.d (Fm.l a) = List.map Fm.d (Fm.l a) ∧
    True) ∧ (Fm.kind b = Fm.kind b ∧ Fm.name b = Fm.name b ∧ Fm.n b = Fm.n b ∧ List.map Tm.d (Fm.ts b) = List.map Tm.d (Fm.ts b) ∧ List.map Bd.d (Fm.bs b) = List.map Bd.d (Fm.bs b) ∧
    List.map Fm.d (Fm.l b) = List.map Fm.d (Fm.l b) ∧ True) ∧ True)) ∧ (decide ((↑x : Int) < (↑(List.length l) : Int)) = false → PFn Tryd.prog (GG M) (21 : Nat) [D.agg [D.int IntKind.i64
    (Fm.kind a), D.str (Fm.name a), D.int IntKind.i64 (Fm.n a), D.sl (List.map Tm.d (Fm.ts a)), D.sl (List.map Bd.d (Fm.bs a)), D.sl (List.map Fm.d (Fm.l a))], D.agg [D.int IntKind.i64
    (Fm.kind b), D.str (Fm.name b), D.int IntKind.i64 (Fm.n b), D.sl (List.map Tm.d (Fm.ts b)), D.sl (List.map Bd.d (Fm.bs b)), D.sl (List.map Fm.d (Fm.l b))]] fun (rs : List D) => ∃ (b_4 :
    Bool), rs = [D.bool b_4] ∧ PFn Tryd.prog (GG M) (22 : Nat) [D.agg [D.int IntKind.i64 (Fm.kind a), D.str (Fm.name a), D.int IntKind.i64 (Fm.n a), D.sl (List.map Tm.d (Fm.ts a)), D.sl
    (List.map Bd.d (Fm.bs a)), D.sl (List.map Fm.d (Fm.l a))], D.agg [D.int IntKind.i64 (Fm.kind b), D.str (Fm.name b), D.int IntKind.i64 (Fm.n b), D.sl (List.map Tm.d (Fm.ts b)), D.sl
    (List.map Bd.d (Fm.bs b)), D.sl (List.map Fm.d (Fm.l b))]] fun (rs : List D) => ∃ (b : Bool), rs = [D.bool b] ∧ PFn Tryd.prog (GG M) (21 : Nat) [D.agg [D.int IntKind.i64 (Fm.kind a),
    D.str (Fm.name a), D.int IntKind.i64 (Fm.n a), D.sl (List.map Tm.d (Fm.ts a)), D.sl (List.map Bd.d (Fm.bs a)), D.sl (List.map Fm.d (Fm.l a))], D.agg [D.int IntKind.i64 (Fm.kind a), D.str
    (Fm.name a), D.int IntKind.i64 (Fm.n a), D.sl (List.map Tm.d (Fm.ts a)), D.sl (List.map Bd.d (Fm.bs a)), D.sl (List.map Fm.d (Fm.l a))]] fun (rs : List D) => ∃ (b_5 : Bool), rs = [D.bool
    b_5] ∧ [D.bool (bif b_4 == b then b_5 else false)] = [D.bool true])))))
  · kernel_rfl
  refine (fn11 hM).mono ?_
  rintro rs rfl
  refine ⟨_, rfl, fun h => (by cases h), fun _ => ?_⟩
  refine h12a.mono ?_
  rintro rs rfl
  refine ⟨_, rfl, ?_⟩
  refine h12b.mono ?_
  rintro rs rfl
  refine ⟨_, rfl, fun _ => rfl, fun _ => ?_⟩
  refine h19.mono ?_
  rintro rs rfl
  refine ⟨_, rfl, ?_⟩
  refine h20.mono ?_
  rintro rs rfl
  have hfl := a.free_len
  refine ⟨_, rfl, fun h => (by simp at h), fun _ => ⟨0, by omega, by simp, fun x hx => ⟨fun hlt => ?_, fun hge => ?_⟩⟩⟩
  · simp only [List.length_map, decide_eq_true_eq] at hlt
    obtain ⟨z, hz, hm⟩ := get_nat (l := a.free) (x := x) (by omega)
    rw [Int.toNat_natCast, cell_str hz]
    have e2 : D.toStr (Option.getD (some (D.str z)) default) = z := rfl
    rw [e2]
    have hget : (List.map D.str a.free)[x]? = some (D.str z) := by simp [hz]
    refine ⟨⟨by omega, hget⟩, ⟨by omega, hget⟩, fun h => ?_, fun _ => ⟨x + 1, by omega, by omega, ?_⟩⟩
    · simp at h
    · rw [wrap64 (by omega) (by omega)]; simp
  · refine h21.mono ?_
    rintro rs rfl
    refine ⟨_, rfl, ?_⟩
    refine h22.mono ?_
    rintro rs rfl
    refine ⟨_, rfl, ?_⟩
    refine h23.mono ?_
    rintro rs rfl
    refine ⟨_, rfl, ?_⟩
    rw [beq_refl]; simp
end
end Go.Fo
/- Laws 4 to 8 as contracts. -/
namespace Go.Fo
open Go Go.Sx Go.Proofs
set_option maxRecDepth 100000
set_option maxHeartbeats 0

theorem not_d (f : Fm) : f.not.d = .agg [.int .i64 10, .str [], .int .i64 0, .sl [], .sl [], .sl [.agg (fmCells f)]] := by rw [Fm.not, Fm.d_mk, ← d_cells]; rfl
theorem not_wt (f : Fm) : f.not.wt = 1 + f.wt := by simp [Fm.not, Fm.wt, Fm.wts, sumT, sumB]
theorem not_formB (f : Fm) : f.not.formB = f.formB := by simp [Fm.not, formB_mk, nodeB, partsI, termsB, bindsB, atomB, quantB, Fm.kind, Fm.ts, Fm.bs, Fm.l, Fm.n, Fm.name]
theorem not_rank (f : Fm) : f.not.rank = 1 + f.rank := by simp [Fm.not, Fm.rank, Fm.ranks]
theorem not_depth (f : Fm) : f.not.depth = f.depth + 1 := by simp [Fm.not, Fm.depth, Fm.depths]
theorem not_right (f : Fm) (t : Bool) : f.not.right t = f.right (!t) := by rw [Fm.not, right_not]
theorem nnf_ok {f : Fm} (h : f.checkI = 0) : f.nnf = f.right false := if_pos h
theorem nnf_no {f : Fm} (h : ¬ f.checkI = 0) : f.nnf = nil0 := if_neg h
theorem checkI_cases (f : Fm) : (f.formB = false ∧ f.checkI = 1) ∨ (f.formB = true ∧ (256 < f.rank ∨ 24 < f.depth) ∧ f.checkI = 2) ∨ (f.formB = true ∧ ¬ (256 < f.rank ∨ 24 < f.depth) ∧ f.checkI = 0) := by
  unfold Fm.checkI
  cases h : f.formB with
  | false => exact .inl ⟨rfl, by simp⟩
  | true =>
    by_cases h2 : 256 < f.rank ∨ 24 < f.depth
    · exact .inr (.inl ⟨rfl, h2, by simp [h2]⟩)
    · exact .inr (.inr ⟨rfl, h2, by rw [if_pos rfl, if_neg h2]⟩)

section
variable {M : Maps}
theorem fn6 (hM : M.Ok) (f : Fm) (hf : f.wt ≤ 1048576) : PFn Tryd.prog (GG M) 6 [f.d] (· = [.bool true]) := by
  have hxw := nnf_wt f
  have hyw := nnf_wt f.nnf
  have hr := f.rank_le_wt
  have hxr := f.nnf.rank_le_wt
  have hdr := f.depth_le
  have hxd := f.nnf.depth_le
  have h12 := fn12 (G := GG M) f (by omega)
  have h23 := fn23 hM f (by omega)
  have h13 := fn13 hM f (by omega)
  have h19 := fn19 (G := GG M) f (by omega)
  have h19x := fn19 (G := GG M) f.nnf (by omega)
  have h23x := fn23 hM f.nnf (by omega)
  have h21 := fn21 (G := GG M) f.nnf (by omega) f.nnf.nnf
  have h15x := fn15 (G := GG M) f.nnf (by omega)
  have h17x := fn17 (G := GG M) f.nnf (by omega)
  have h15 := fn15 (G := GG M) f (by omega)
  have h17 := fn17 (G := GG M) f (by omega)
  have h26 := fn26 (G := GG M) f.nnf (by omega)
  rw [look_nil] at h19 h19x
  rw [d_cells f] at h12 h23 h13 h19 h15 h17 ⊢
  rw [d_cells f.nnf] at h19x h23x h21 h15x h17x h26
  rw [d_cells f.nnf.nnf] at h21
  refine PFn.walk (fn := Tryd.f6) (code := bodyOf Tryd.f6) mixed
    (LL [(11, loopW (α := Nat) Tryd.prog (GG M) L0 0 (loopN (bodyOf Tryd.f6) 0) [1, 3, 4, 5, 6] (fun x => x ≤ f.nnf.free.length) (fun x => f.nnf.free.length - x)
      (fun x => [(7, .d (.int .i64 x))]) (fun H _ => H))])
    Tryd.func6 (by kernel_rfl) ⟨_, rfl⟩ (LoopsOk.one (b1 := loopN (bodyOf Tryd.f6) 0) (by kernel_rfl) (by kernel_rfl) (loopW_sound mixed (ok0 (by kernel_rfl)))) ?_
  apply @of_vc _ (
    PFn Tryd.prog (GG M) (11 : Nat) [] fun (rs : List D) => ∃ (b : Bool), rs = [D.bool b] ∧ ((!b) = true → [D.bool false] = [D.bool true]) ∧ ((!b) = false → PFn Tryd.prog (GG M) (12 : Nat)
    [D.agg [D.int IntKind.i64 (Fm.kind f), D.str (Fm.name f), D.int IntKind.i64 (Fm.n f), D.sl (List.map Tm.d (Fm.ts f)), D.sl (List.map Bd.d (Fm.bs f)), D.sl (List.map Fm.d (Fm.l f))]] fun
    (rs : List D) => ∃ (b : Bool), rs = [D.bool b] ∧ ((!b) = true → [D.bool true] = [D.bool true]) ∧ ((!b) = false → PFn Tryd.prog (GG M) (23 : Nat) [D.agg [D.int IntKind.i64 (Fm.kind f),
    D.str (Fm.name f), D.int IntKind.i64 (Fm.n f), D.sl (List.map Tm.d (Fm.ts f)), D.sl (List.map Bd.d (Fm.bs f)), D.sl (List.map Fm.d (Fm.l f))]] fun (rs : List D) => ∃ (n : Int), ∃ (s :
    List UInt8), ∃ (n_1 : Int), ∃ (l : List D), ∃ (l_1 : List D), ∃ (l_2 : List D), ∃ (n_2 : Int), rs = [D.agg [D.int IntKind.i64 n, D.str s, D.int IntKind.i64 n_1, D.sl l, D.sl l_1, D.sl
    l_2], D.int IntKind.i64 n_2] ∧ ((n_2 != (0 : Int)) = true → PFn Tryd.prog (GG M) (13 : Nat) [D.agg [D.int IntKind.i64 (Fm.kind f), D.str (Fm.name f), D.int IntKind.i64 (Fm.n f), D.sl
    (List.map Tm.d (Fm.ts f)), D.sl (List.map Bd.d (Fm.bs f)), D.sl (List.map Fm.d (Fm.l f))]] fun (rs : List D) => ∃ (n_3 : Int), rs = [D.int IntKind.i64 n_3] ∧ [D.bool (bif n == (0 : Int)
    then n_2 == n_3 else false)] = [D.bool true]) ∧ ((n_2 != (0 : Int)) = false → PFn Tryd.prog (GG M) (19 : Nat) [D.agg [D.int IntKind.i64 (Fm.kind f), D.str (Fm.name f), D.int IntKind.i64
    (Fm.n f), D.sl (List.map Tm.d (Fm.ts f)), D.sl (List.map Bd.d (Fm.bs f)), D.sl (List.map Fm.d (Fm.l f))]] fun (rs : List D) => ∃ (l_3 : List D), rs = [D.sl l_3] ∧ PFn Tryd.prog (GG M)
    (19 : Nat) [D.agg [D.int IntKind.i64 n, D.str s, D.int IntKind.i64 n_1, D.sl l, D.sl l_1, D.sl l_2]] fun (rs : List D) => ∃ (l_4 : List D), rs = [D.sl l_4] ∧ ∃ (x0 : Nat), x0 ≤
    List.length (Fm.free (Fm.nnf f)) ∧ ((AV.ptr (0 : Nat) (0 : Nat) = AV.ptr (0 : Nat) (0 : Nat) ∧ AV.ptr (1 : Nat) (0 : Nat) = AV.ptr (1 : Nat) (0 : Nat) ∧ n_2 = n_2 ∧ l_3 = l_3 ∧ l_4 = l_4
    ∧ (0 : Int) = (↑x0 : Int) ∧ True) ∧ (Fm.kind f = Fm.kind f ∧ Fm.name f = Fm.name f ∧ Fm.n f = Fm.n f ∧ List.map Tm.d (Fm.ts f) = List.map Tm.d (Fm.ts f) ∧ List.map Bd.d (Fm.bs f) =
    List.map Bd.d (Fm.bs f) ∧ List.map Fm.d (Fm.l f) = List.map Fm.d (Fm.l f) ∧ True) ∧ (n = n ∧ s = s ∧ n_1 = n_1 ∧ l = l ∧ l_1 = l_1 ∧ l_2 = l_2 ∧ True) ∧ True) ∧ ∀ (x : Nat), x ≤
    List.length (Fm.free (Fm.nnf f)) → (decide ((↑x : Int) < (↑(List.length l_4) : Int)) = true → ((0 : Int) ≤ (↑x : Int) ∧ l_4[Int.toNat (↑x : Int)]? = some (D.str (D.toStr (Option.getD
    (cellAt l_4 (Int.toNat (↑x : Int)) (0 : Nat)) default)))) ∧ PFn Tryd.prog (GG M) (25 : Nat) [D.sl l_3, D.str (D.toStr (Option.getD (cellAt l_4 (Int.toNat (↑x : Int)) (0 : Nat))
    default))] fun (rs : List D) => ∃ (b : Bool), rs = [D.bool b] ∧ ((!b) = true → [D.bool false] = [D.bool true]) ∧ ((!b) = false → ∃ (y : Nat), y ≤ List.length (Fm.free (Fm.nnf f)) ∧
    List.length (Fm.free (Fm.nnf f)) - y < List.length (Fm.free (Fm.nnf f)) - x ∧ (AV.ptr (0 : Nat) (0 : Nat) = AV.ptr (0 : Nat) (0 : Nat) ∧ AV.ptr (1 : Nat) (0 : Nat) = AV.ptr (1 : Nat) (0
    : Nat) ∧ n_2 = n_2 ∧ l_3 = l_3 ∧ l_4 = l_4 ∧ IntKind.wrap IntKind.i64 ((↑x : Int) + (1 : Int)) = (↑y : Int) ∧ True) ∧ (Fm.kind f = Fm.kind f ∧ Fm.name f = Fm.name f ∧ Fm.n f = Fm.n f ∧
    List.map Tm.d (Fm.ts f) = List.map Tm.d (Fm.ts f) ∧ List.map Bd.d (Fm.bs f) = List.map Bd.d (Fm.bs f) ∧ List.map Fm.d (Fm.l f) = List.map Fm.d (Fm.l f) ∧ True) ∧ (n = n ∧ s = s ∧ n_1 =
    n_1 ∧ l = l ∧ l_1 = l_1 ∧ l_2 = l_2 ∧ True) ∧ True)) ∧ (decide ((↑x : Int) < (↑(List.length l_4) : Int)) = false → PFn Tryd.prog (GG M) (23 : Nat) [D.agg [D.int IntKind.i64 n, D.str s,
    D.int IntKind.i64 n_1, D.sl l, D.sl l_1, D.sl l_2]] fun (rs : List D) => ∃ (n_3 : Int), ∃ (s_1 : List UInt8), ∃ (n_4 : Int), ∃ (l_5 : List D), ∃ (l_6 : List D), ∃ (l_7 : List D), ∃ (n_5
    : Int), rs = [D.agg [D.int IntKind.i64 n_3, D.str s_1, D.int IntKind.i64 n_4, D.sl l_5, D.sl l_6, D.sl l_7], D.int IntKind.i64 n_5] ∧ PFn Tryd.prog (GG M) (21 : Nat) [D.agg [D.int
    IntKind.i64 n, D.str s, D.int IntKind.i64 n_1, D.sl l, D.sl l_1, D.sl l_2], D.agg [D.int IntKind.i64 n_3, D.str s_1, D.int IntKind.i64 n_4, D.sl l_5, D.sl l_6, D.sl l_7]] fun (rs : List
    D) => ∃ (b : Bool), rs = [D.bool b] ∧ PFn Tryd.prog (GG M) (15 : Nat) [D.agg [D.int IntKind.i64 n, D.str s, D.int IntKind.i64 n_1, D.sl l, D.sl l_1, D.sl l_2]] fun (rs : List D) => ∃
    (n_6 : Int), rs = [D.int IntKind.i64 n_6] ∧ PFn Tryd.prog (GG M) (17 : Nat) [D.agg [D.int IntKind.i64 n, D.str s, D.int IntKind.i64 n_1, D.sl l, D.sl l_1, D.sl l_2]] fun (rs : List D) =>
    ∃ (n_7 : Int), rs = [D.int IntKind.i64 n_7] ∧ PFn Tryd.prog (GG M) (26 : Nat) [D.agg [D.int IntKind.i64 n, D.str s, D.int IntKind.i64 n_1, D.sl l, D.sl l_1, D.sl l_2]] fun (rs : List D)
    => ∃ (b_1 : Bool), rs = [D.bool b_1] ∧ PFn Tryd.prog (GG M) (17 : Nat) [D.agg [D.int IntKind.i64 n, D.str s, D.int IntKind.i64 n_1, D.sl l, D.sl l_1, D.sl l_2]] fun (rs : List D) => ∃
    (n_8 : Int), rs = [D.int IntKind.i64 n_8] ∧ PFn Tryd.prog (GG M) (17 : Nat) [D.agg [D.int IntKind.i64 (Fm.kind f), D.str (Fm.name f), D.int IntKind.i64 (Fm.n f), D.sl (List.map Tm.d
    (Fm.ts f)), D.sl (List.map Bd.d (Fm.bs f)), D.sl (List.map Fm.d (Fm.l f))]] fun (rs : List D) => ∃ (n_9 : Int), rs = [D.int IntKind.i64 n_9] ∧ PFn Tryd.prog (GG M) (15 : Nat) [D.agg
    [D.int IntKind.i64 n, D.str s, D.int IntKind.i64 n_1, D.sl l, D.sl l_1, D.sl l_2]] fun (rs : List D) => ∃ (n : Int), rs = [D.int IntKind.i64 n] ∧ PFn Tryd.prog (GG M) (15 : Nat) [D.agg
    [D.int IntKind.i64 (Fm.kind f), D.str (Fm.name f), D.int IntKind.i64 (Fm.n f), D.sl (List.map Tm.d (Fm.ts f)), D.sl (List.map Bd.d (Fm.bs f)), D.sl (List.map Fm.d (Fm.l f))]] fun (rs :
    List D) => ∃ (n_10 : Int), rs = [D.int IntKind.i64 n_10] ∧ [D.bool (bif bif bif b_1 then bif bif n_5 == (0 : Int) then b else false then true else bif n_5 == (2 : Int) then bif decide
    (n_6 > (256 : Int)) then true else decide (n_7 > (24 : Int)) else false else false then decide (n_8 ≤ IntKind.wrap IntKind.i64 (n_9 + (1 : Int))) else false then decide (n ≤ IntKind.wrap
    IntKind.i64 ((2 : Int) * n_10)) else false)] = [D.bool true])))))
  · kernel_rfl
  refine (fn11 hM).mono ?_
  rintro rs rfl
  refine ⟨_, rfl, fun h => (by cases h), fun _ => ?_⟩
  refine h12.mono ?_
  rintro rs rfl
  refine ⟨_, rfl, fun _ => rfl, fun _ => ?_⟩
  refine h23.mono ?_
  rintro rs rfl
  refine ⟨_, _, _, _, _, _, _, congrArg (fun z => [z, D.int IntKind.i64 f.checkI]) (Fm.d_eq _), fun h => ?_, fun h => ?_⟩
  · refine h13.mono ?_
    rintro rs rfl
    refine ⟨_, rfl, ?_⟩
    rw [nnf_no (by simpa using h)]
    simp [nil0, Fm.kind]
  have h0 : f.checkI = 0 := by simpa using h
  have hfb := checkI_form h0
  refine h19.mono ?_
  rintro rs rfl
  refine ⟨_, rfl, ?_⟩
  refine h19x.mono ?_
  rintro rs rfl
  have hfl := f.free_len
  have hxl := f.nnf.free_len
  refine ⟨_, rfl, 0, by omega, by simp, fun x hx => ⟨fun hlt => ?_, fun hge => ?_⟩⟩
  · simp only [List.length_map, decide_eq_true_eq] at hlt
    obtain ⟨z, hz, hm⟩ := get_nat (l := f.nnf.free) (x := x) (by omega)
    rw [Int.toNat_natCast, cell_str hz]
    have e2 : D.toStr (Option.getD (some (D.str z)) default) = z := rfl
    rw [e2]
    refine ⟨⟨by omega, by simp [hz]⟩, ?_⟩
    refine (fn25 f.free z (by omega)).mono ?_
    rintro rs rfl
    have hin : z ∈ f.free := by
      rw [nnf_ok h0] at hm
      exact right_free f hfb _ _ hm
    refine ⟨_, rfl, fun h => ?_, fun _ => ⟨x + 1, by omega, by omega, ?_⟩⟩
    · simp [hin] at h
    · rw [wrap64 (by omega) (by omega)]; simp
  · refine h23x.mono ?_
    rintro rs rfl
    refine ⟨_, _, _, _, _, _, _, congrArg (fun z => [z, D.int IntKind.i64 f.nnf.checkI]) (Fm.d_eq _), ?_⟩
    refine h21.mono ?_
    rintro rs rfl
    refine ⟨_, rfl, ?_⟩
    refine h15x.mono ?_
    rintro rs rfl
    refine ⟨_, rfl, ?_⟩
    refine h17x.mono ?_
    rintro rs rfl
    refine ⟨_, rfl, ?_⟩
    refine h26.mono ?_
    rintro rs rfl
    refine ⟨_, rfl, ?_⟩
    refine h17x.mono ?_
    rintro rs rfl
    refine ⟨_, rfl, ?_⟩
    refine h17.mono ?_
    rintro rs rfl
    refine ⟨_, rfl, ?_⟩
    refine h15x.mono ?_
    rintro rs rfl
    refine ⟨_, rfl, ?_⟩
    refine h15.mono ?_
    rintro rs rfl
    refine ⟨_, rfl, ?_⟩
    have e1 : f.nnf.normB = true := by rw [nnf_ok h0]; exact right_norm f hfb _
    have e2 : decide ((f.nnf.depth : Int) ≤ IntKind.wrap IntKind.i64 ((f.depth : Int) + 1)) = true := by
      rw [wrap64 (by omega) (by omega)]
      have := right_depth f hfb false
      rw [← nnf_ok h0] at this
      exact decide_eq_true (by omega)
    have e3 : decide ((f.nnf.rank : Int) ≤ IntKind.wrap IntKind.i64 (2 * (f.rank : Int))) = true := by
      rw [wrap64 (by omega) (by omega)]
      have := right_rank f hfb false
      rw [← nnf_ok h0] at this
      exact decide_eq_true (by omega)
    have e4 : f.nnf.formB = true := by rw [nnf_ok h0]; exact right_formB f hfb _
    have e5 : (bif bif f.nnf.checkI == (0 : Int) then f.nnf.beq f.nnf.nnf else false then true else bif f.nnf.checkI == (2 : Int) then bif decide ((f.nnf.rank : Int) > 256) then true else decide ((f.nnf.depth : Int) > 24) else false) = true := by
      rcases checkI_cases f.nnf with ⟨c1, _⟩ | ⟨_, c2, c3⟩ | ⟨_, c2, c3⟩
      · rw [e4] at c1; cases c1
      · rw [c3]
        have : (bif decide ((f.nnf.rank : Int) > 256) then true else decide ((f.nnf.depth : Int) > 24)) = true := by
          rcases c2 with c2 | c2
          · rw [decide_eq_true (show (f.nnf.rank : Int) > 256 by omega)]; rfl
          · rw [decide_eq_true (show (f.nnf.depth : Int) > 24 by omega)]; cases decide ((f.nnf.rank : Int) > 256) <;> rfl
        rw [this]; rfl
      · rw [c3, nnf_ok c3, nnf_ok h0, right_right f hfb, show (false ^^ false) = false from rfl, beq_refl]; rfl
    rw [e1, e2, e3]
    simp only [cond_true]
    rw [e5]; rfl

theorem fn7 (hM : M.Ok) (f : Fm) (hf : f.wt ≤ 1048576) : PFn Tryd.prog (GG M) 7 [f.d] (· = [.bool true]) := by
  have w1 := not_wt f
  have w2 := not_wt f.not
  have w3 := nnf_wt f.not
  have w4 := not_wt f.not.nnf
  have w5 := nnf_wt f
  have h12 := fn12 (G := GG M) f (by omega)
  have h23 := fn23 hM f (by omega)
  have h27 := fn27 (G := GG M) f
  have h27n := fn27 (G := GG M) f.not
  have h23nn := fn23 hM f.not.not (by omega)
  have h23n := fn23 hM f.not (by omega)
  have h27z := fn27 (G := GG M) f.not.nnf
  have h23u := fn23 hM f.not.nnf.not (by omega)
  have h21 := fn21 (G := GG M) f.nnf (by omega) f.not.not.nnf
  have h21u := fn21 (G := GG M) f.nnf (by omega) f.not.nnf.not.nnf
  rw [d_cells f] at h12 h23 h27 ⊢
  rw [d_cells f.not] at h27n h23n
  rw [d_cells f.not.not] at h23nn
  rw [d_cells f.not.nnf] at h27z
  rw [d_cells f.not.nnf.not] at h23u
  rw [d_cells f.nnf, d_cells f.not.not.nnf] at h21
  rw [d_cells f.nnf, d_cells f.not.nnf.not.nnf] at h21u
  refine PFn.walk (fn := Tryd.f7) (code := bodyOf Tryd.f7) mixed L0 Tryd.func7 (by kernel_rfl) ⟨_, rfl⟩ (ok0 (by kernel_rfl)) ?_
  apply @of_vc _ (
    PFn Tryd.prog (GG M) (11 : Nat) [] fun (rs : List D) => ∃ (b : Bool), rs = [D.bool b] ∧ ((!b) = true → [D.bool false] = [D.bool true]) ∧ ((!b) = false → PFn Tryd.prog (GG M) (12 : Nat)
    [D.agg [D.int IntKind.i64 (Fm.kind f), D.str (Fm.name f), D.int IntKind.i64 (Fm.n f), D.sl (List.map Tm.d (Fm.ts f)), D.sl (List.map Bd.d (Fm.bs f)), D.sl (List.map Fm.d (Fm.l f))]] fun
    (rs : List D) => ∃ (b : Bool), rs = [D.bool b] ∧ ((!b) = true → [D.bool true] = [D.bool true]) ∧ ((!b) = false → PFn Tryd.prog (GG M) (23 : Nat) [D.agg [D.int IntKind.i64 (Fm.kind f),
    D.str (Fm.name f), D.int IntKind.i64 (Fm.n f), D.sl (List.map Tm.d (Fm.ts f)), D.sl (List.map Bd.d (Fm.bs f)), D.sl (List.map Fm.d (Fm.l f))]] fun (rs : List D) => ∃ (n : Int), ∃ (s :
    List UInt8), ∃ (n_1 : Int), ∃ (l : List D), ∃ (l_1 : List D), ∃ (l_2 : List D), ∃ (n_2 : Int), rs = [D.agg [D.int IntKind.i64 n, D.str s, D.int IntKind.i64 n_1, D.sl l, D.sl l_1, D.sl
    l_2], D.int IntKind.i64 n_2] ∧ PFn Tryd.prog (GG M) (27 : Nat) [D.agg [D.int IntKind.i64 (Fm.kind f), D.str (Fm.name f), D.int IntKind.i64 (Fm.n f), D.sl (List.map Tm.d (Fm.ts f)), D.sl
    (List.map Bd.d (Fm.bs f)), D.sl (List.map Fm.d (Fm.l f))]] fun (rs : List D) => ∃ (n_3 : Int), ∃ (s_1 : List UInt8), ∃ (n_4 : Int), ∃ (l_3 : List D), ∃ (l_4 : List D), ∃ (l_5 : List D),
    rs = [D.agg [D.int IntKind.i64 n_3, D.str s_1, D.int IntKind.i64 n_4, D.sl l_3, D.sl l_4, D.sl l_5]] ∧ PFn Tryd.prog (GG M) (27 : Nat) [D.agg [D.int IntKind.i64 n_3, D.str s_1, D.int
    IntKind.i64 n_4, D.sl l_3, D.sl l_4, D.sl l_5]] fun (rs : List D) => ∃ (n_5 : Int), ∃ (s_2 : List UInt8), ∃ (n_6 : Int), ∃ (l_6 : List D), ∃ (l_7 : List D), ∃ (l_8 : List D), rs = [D.agg
    [D.int IntKind.i64 n_5, D.str s_2, D.int IntKind.i64 n_6, D.sl l_6, D.sl l_7, D.sl l_8]] ∧ PFn Tryd.prog (GG M) (23 : Nat) [D.agg [D.int IntKind.i64 n_5, D.str s_2, D.int IntKind.i64
    n_6, D.sl l_6, D.sl l_7, D.sl l_8]] fun (rs : List D) => ∃ (n_7 : Int), ∃ (s_3 : List UInt8), ∃ (n_8 : Int), ∃ (l_9 : List D), ∃ (l_10 : List D), ∃ (l_11 : List D), ∃ (n_9 : Int), rs =
    [D.agg [D.int IntKind.i64 n_7, D.str s_3, D.int IntKind.i64 n_8, D.sl l_9, D.sl l_10, D.sl l_11], D.int IntKind.i64 n_9] ∧ PFn Tryd.prog (GG M) (27 : Nat) [D.agg [D.int IntKind.i64
    (Fm.kind f), D.str (Fm.name f), D.int IntKind.i64 (Fm.n f), D.sl (List.map Tm.d (Fm.ts f)), D.sl (List.map Bd.d (Fm.bs f)), D.sl (List.map Fm.d (Fm.l f))]] fun (rs : List D) => ∃ (n_10 :
    Int), ∃ (s_4 : List UInt8), ∃ (n_11 : Int), ∃ (l_12 : List D), ∃ (l_13 : List D), ∃ (l_14 : List D), rs = [D.agg [D.int IntKind.i64 n_10, D.str s_4, D.int IntKind.i64 n_11, D.sl l_12,
    D.sl l_13, D.sl l_14]] ∧ PFn Tryd.prog (GG M) (23 : Nat) [D.agg [D.int IntKind.i64 n_10, D.str s_4, D.int IntKind.i64 n_11, D.sl l_12, D.sl l_13, D.sl l_14]] fun (rs : List D) => ∃ (n_12
    : Int), ∃ (s_5 : List UInt8), ∃ (n_13 : Int), ∃ (l_15 : List D), ∃ (l_16 : List D), ∃ (l_17 : List D), ∃ (n_14 : Int), rs = [D.agg [D.int IntKind.i64 n_12, D.str s_5, D.int IntKind.i64
    n_13, D.sl l_15, D.sl l_16, D.sl l_17], D.int IntKind.i64 n_14] ∧ ((bif n_2 != (0 : Int) then true else n_14 != (0 : Int)) = true → [D.bool (bif n_9 != (0 : Int) then bif n_2 == (0 :
    Int) then true else n_14 == n_2 else false)] = [D.bool true]) ∧ ((bif n_2 != (0 : Int) then true else n_14 != (0 : Int)) = false → PFn Tryd.prog (GG M) (27 : Nat) [D.agg [D.int
    IntKind.i64 n_12, D.str s_5, D.int IntKind.i64 n_13, D.sl l_15, D.sl l_16, D.sl l_17]] fun (rs : List D) => ∃ (n_15 : Int), ∃ (s_6 : List UInt8), ∃ (n_16 : Int), ∃ (l_18 : List D), ∃
    (l_19 : List D), ∃ (l_20 : List D), rs = [D.agg [D.int IntKind.i64 n_15, D.str s_6, D.int IntKind.i64 n_16, D.sl l_18, D.sl l_19, D.sl l_20]] ∧ PFn Tryd.prog (GG M) (23 : Nat) [D.agg
    [D.int IntKind.i64 n_15, D.str s_6, D.int IntKind.i64 n_16, D.sl l_18, D.sl l_19, D.sl l_20]] fun (rs : List D) => ∃ (n_17 : Int), ∃ (s_7 : List UInt8), ∃ (n_18 : Int), ∃ (l_21 : List
    D), ∃ (l_22 : List D), ∃ (l_23 : List D), ∃ (n_19 : Int), rs = [D.agg [D.int IntKind.i64 n_17, D.str s_7, D.int IntKind.i64 n_18, D.sl l_21, D.sl l_22, D.sl l_23], D.int IntKind.i64
    n_19] ∧ PFn Tryd.prog (GG M) (21 : Nat) [D.agg [D.int IntKind.i64 n, D.str s, D.int IntKind.i64 n_1, D.sl l, D.sl l_1, D.sl l_2], D.agg [D.int IntKind.i64 n_7, D.str s_3, D.int
    IntKind.i64 n_8, D.sl l_9, D.sl l_10, D.sl l_11]] fun (rs : List D) => ∃ (b : Bool), rs = [D.bool b] ∧ PFn Tryd.prog (GG M) (21 : Nat) [D.agg [D.int IntKind.i64 n, D.str s, D.int
    IntKind.i64 n_1, D.sl l, D.sl l_1, D.sl l_2], D.agg [D.int IntKind.i64 n_17, D.str s_7, D.int IntKind.i64 n_18, D.sl l_21, D.sl l_22, D.sl l_23]] fun (rs : List D) => ∃ (b_1 : Bool), rs
    = [D.bool b_1] ∧ [D.bool (bif bif n_9 == (2 : Int) then true else bif n_9 == (0 : Int) then b else false then bif n_19 == (2 : Int) then true else bif n_19 == (0 : Int) then b_1 else
    false else false)] = [D.bool true]))))
  · kernel_rfl
  refine (fn11 hM).mono ?_
  rintro rs rfl
  refine ⟨_, rfl, fun h => (by cases h), fun _ => ?_⟩
  refine h12.mono ?_
  rintro rs rfl
  refine ⟨_, rfl, fun _ => rfl, fun _ => ?_⟩
  refine h23.mono ?_
  rintro rs rfl
  refine ⟨_, _, _, _, _, _, _, congrArg (fun z => [z, D.int IntKind.i64 f.checkI]) (Fm.d_eq _), ?_⟩
  refine h27.mono ?_
  rintro rs rfl
  refine ⟨_, _, _, _, _, _, congrArg (fun z => [z]) (Fm.d_eq _), ?_⟩
  refine h27n.mono ?_
  rintro rs rfl
  refine ⟨_, _, _, _, _, _, congrArg (fun z => [z]) (Fm.d_eq _), ?_⟩
  refine h23nn.mono ?_
  rintro rs rfl
  refine ⟨_, _, _, _, _, _, _, congrArg (fun z => [z, D.int IntKind.i64 f.not.not.checkI]) (Fm.d_eq _), ?_⟩
  refine h27.mono ?_
  rintro rs rfl
  refine ⟨_, _, _, _, _, _, congrArg (fun z => [z]) (Fm.d_eq _), ?_⟩
  refine h23n.mono ?_
  rintro rs rfl
  have r1 := not_rank f
  have r2 := not_rank f.not
  have d1 := not_depth f
  have d2 := not_depth f.not
  have b1 := not_formB f
  have b2 := not_formB f.not
  refine ⟨_, _, _, _, _, _, _, congrArg (fun z => [z, D.int IntKind.i64 f.not.checkI]) (Fm.d_eq _), fun h => ?_, fun h => ?_⟩
  · rcases checkI_cases f with ⟨c1, c3⟩ | ⟨c1, c2, c3⟩ | ⟨c1, c2, c3⟩ <;> rcases checkI_cases f.not with ⟨n1, n3⟩ | ⟨n1, n2, n3⟩ | ⟨n1, n2, n3⟩ <;> rcases checkI_cases f.not.not with ⟨m1, m3⟩ | ⟨m1, m2, m3⟩ | ⟨m1, m2, m3⟩ <;>
      first
      | (exfalso; rw [b2, b1, c1] at m1; exact absurd m1 (by decide))
      | (exfalso; rw [b1, c1] at n1; exact absurd n1 (by decide))
      | (exfalso; omega)
      | (rw [c3, n3] at h; exact absurd h (by decide))
      | (rw [c3, n3, m3]; rfl)
  · rw [bif_or] at h
    simp only [Bool.or_eq_false_iff, bne_eq_false_iff_eq] at h
    obtain ⟨h0, hn0⟩ := h
    have hfb := checkI_form h0
    refine h27z.mono ?_
    rintro rs rfl
    refine ⟨_, _, _, _, _, _, congrArg (fun z => [z]) (Fm.d_eq _), ?_⟩
    refine h23u.mono ?_
    rintro rs rfl
    refine ⟨_, _, _, _, _, _, _, congrArg (fun z => [z, D.int IntKind.i64 f.not.nnf.not.checkI]) (Fm.d_eq _), ?_⟩
    refine h21.mono ?_
    rintro rs rfl
    refine ⟨_, rfl, ?_⟩
    refine h21u.mono ?_
    rintro rs rfl
    refine ⟨_, rfl, ?_⟩
    have hz : f.not.nnf = f.right true := by rw [nnf_ok hn0, not_right]; rfl
    have k1 : (bif f.not.not.checkI == (2 : Int) then true else bif f.not.not.checkI == (0 : Int) then f.nnf.beq f.not.not.nnf else false) = true := by
      rcases checkI_cases f.not.not with ⟨m1, m3⟩ | ⟨m1, m2, m3⟩ | ⟨m1, m2, m3⟩
      · rw [b2, b1, hfb] at m1; cases m1
      · rw [m3]; rfl
      · rw [m3, nnf_ok m3, nnf_ok h0, not_right, not_right]
        simp only [Bool.not_false, Bool.not_true]
        rw [beq_refl]; rfl
    have k2 : (bif f.not.nnf.not.checkI == (2 : Int) then true else bif f.not.nnf.not.checkI == (0 : Int) then f.nnf.beq f.not.nnf.not.nnf else false) = true := by
      rcases checkI_cases f.not.nnf.not with ⟨m1, m3⟩ | ⟨m1, m2, m3⟩ | ⟨m1, m2, m3⟩
      · rw [not_formB, hz, right_formB f hfb] at m1; cases m1
      · rw [m3]; rfl
      · rw [m3, nnf_ok m3, nnf_ok h0, not_right, hz, right_right f hfb]
        simp only [Bool.not_false, Bool.xor_self]
        rw [beq_refl]; rfl
    rw [k1, k2]; rfl
end
end Go.Fo
/- Laws 6 and 7 as contracts. -/
namespace Go.Fo
open Go Go.Sx Go.Proofs
set_option maxRecDepth 100000
set_option maxHeartbeats 0

def andF (a b : Fm) : Fm := .mk 11 [] 0 [] [] [a, b]
def impF (a b : Fm) : Fm := .mk 13 [] 0 [] [] [a, b]
def orF (a b : Fm) : Fm := .mk 12 [] 0 [] [] [a, b]
theorem two_d (k : Int) (a b : Fm) : (Fm.mk k [] 0 [] [] [a, b]).d = .agg [.int .i64 k, .str [], .int .i64 0, .sl [], .sl [], .sl [.agg (fmCells a), .agg (fmCells b)]] := by rw [Fm.d_mk]; simp [d_cells]
theorem two_wt (k : Int) (a b : Fm) : (Fm.mk k [] 0 [] [] [a, b]).wt = 1 + a.wt + b.wt := by simp [Fm.wt, Fm.wts, sumT, sumB]; omega
theorem and_formB (a b : Fm) : (andF a b).formB = (a.formB && b.formB) := by simp [andF, formB_mk, nodeB, partsI, termsB, bindsB, atomB, quantB, Fm.kind, Fm.ts, Fm.bs, Fm.l, Fm.n, Fm.name]
theorem imp_formB (a b : Fm) : (impF a b).formB = (a.formB && b.formB) := by simp [impF, formB_mk, nodeB, partsI, termsB, bindsB, atomB, quantB, Fm.kind, Fm.ts, Fm.bs, Fm.l, Fm.n, Fm.name]
theorem two_rank (k : Int) (a b : Fm) : (Fm.mk k [] 0 [] [] [a, b]).rank = 1 + (a.rank + b.rank) := by simp [Fm.rank, Fm.ranks]
theorem two_depth (k : Int) (a b : Fm) : (Fm.mk k [] 0 [] [] [a, b]).depth = max a.depth b.depth + 1 := by simp [Fm.depth, Fm.depths]
theorem and_free (a b : Fm) : (andF a b).free = b.free.foldl (addA []) a.free := by
  rw [Fm.free_eq]
  show (tsN [] ++ Fm.frees [a, b]).foldl (addA []) [] = _
  have : tsN [] ++ Fm.frees [a, b] = a.free ++ b.free := by simp [tsN, Fm.frees]
  rw [this, List.foldl_append, free_self]

section
variable {M : Maps}
theorem fn8 (hM : M.Ok) (a b : Fm) (ha : a.wt ≤ 1048576) (hb : b.wt ≤ 1048576) : PFn Tryd.prog (GG M) 8 [a.d, b.d] (· = [.bool true]) := by
  have wa := nnf_wt a
  have wb := nnf_wt b
  have wn := not_wt a
  have wand : (andF a b).wt = 1 + a.wt + b.wt := two_wt 11 a b
  have wimp : (impF a b).wt = 1 + a.wt + b.wt := two_wt 13 a b
  have wnn := nnf_wt (andF a b)
  have wii := nnf_wt (impF a b)
  have wna := nnf_wt a.not
  have ra := a.rank_le_wt
  have rb := b.rank_le_wt
  have da := a.depth_le
  have db := b.depth_le
  have rand : (andF a b).rank = 1 + (a.rank + b.rank) := two_rank 11 a b
  have rimp : (impF a b).rank = 1 + (a.rank + b.rank) := two_rank 13 a b
  have dand : (andF a b).depth = max a.depth b.depth + 1 := two_depth 11 a b
  have dimp : (impF a b).depth = max a.depth b.depth + 1 := two_depth 13 a b
  have dna := not_depth a
  have rna := not_rank a
  have band := and_formB a b
  have bimp := imp_formB a b
  have bna := not_formB a
  have h12a := fn12 (G := GG M) a (by omega)
  have h12b := fn12 (G := GG M) b (by omega)
  have h23a := fn23 hM a (by omega)
  have h23b := fn23 hM b (by omega)
  have h23and := fn23 hM (andF a b) (by omega)
  have h23imp := fn23 hM (impF a b) (by omega)
  have h27 := fn27 (G := GG M) a
  have h23n := fn23 hM a.not (by omega)
  have h19and := fn19 (G := GG M) (andF a b) (by omega)
  have h19a := fn19 (G := GG M) a (by omega)
  have h19b := fn19 (G := GG M) b (by omega)
  have h21z := fn21 (G := GG M) (andF a b).nnf (by omega) (andF a.nnf b.nnf)
  have h21w := fn21 (G := GG M) (impF a b).nnf (by omega) (orF a.not.nnf b.nnf)
  have h15and := fn15 (G := GG M) (andF a b) (by omega)
  have h15a := fn15 (G := GG M) a (by omega)
  have h15b := fn15 (G := GG M) b (by omega)
  have h17and := fn17 (G := GG M) (andF a b) (by omega)
  have h17a := fn17 (G := GG M) a (by omega)
  have h17b := fn17 (G := GG M) b (by omega)
  rw [look_nil] at h19and h19a h19b
  have e1 : (andF a b).d = _ := two_d 11 a b
  have e2 : (impF a b).d = _ := two_d 13 a b
  have e3 : (andF a.nnf b.nnf).d = _ := two_d 11 a.nnf b.nnf
  have e4 : (orF a.not.nnf b.nnf).d = _ := two_d 12 a.not.nnf b.nnf
  rw [d_cells a] at h12a h23a h27 h19a h15a h17a ⊢
  rw [d_cells b] at h12b h23b h19b h15b h17b ⊢
  rw [e1] at h23and h19and h15and h17and
  rw [e2] at h23imp
  rw [d_cells a.not] at h23n
  rw [d_cells (andF a b).nnf, e3] at h21z
  rw [d_cells (impF a b).nnf, e4] at h21w
  refine PFn.walk (fn := Tryd.f8) (code := bodyOf Tryd.f8) mixed
    (LL [(17, loopW (α := Nat) Tryd.prog (GG M) L0 0 (loopN (bodyOf Tryd.f8) 0) [2, 3, 5, 6, 7, 8, 9, 10, 11, 12, 13, 14, 15, 16, 17, 18] (fun x => x ≤ a.free.length) (fun x => a.free.length - x)
      (fun x => [(19, .d (.int .i64 x))]) (fun H _ => H))])
    Tryd.func8 (by kernel_rfl) ⟨_, rfl⟩ (LoopsOk.one (b1 := loopN (bodyOf Tryd.f8) 0) (by kernel_rfl) (by kernel_rfl) (loopW_sound mixed (ok0 (by kernel_rfl)))) ?_
  apply @of_vc _ (
    PFn Tryd.prog (GG M) (11 : Nat) [] fun (rs : List D) => ∃ (b_1 : Bool), rs = [D.bool b_1] ∧ ((!b_1) = true → [D.bool false] = [D.bool true]) ∧ ((!b_1) = false → PFn Tryd.prog (GG M) (12
    : Nat) [D.agg [D.int IntKind.i64 (Fm.kind a), D.str (Fm.name a), D.int IntKind.i64 (Fm.n a), D.sl (List.map Tm.d (Fm.ts a)), D.sl (List.map Bd.d (Fm.bs a)), D.sl (List.map Fm.d (Fm.l
    a))]] fun (rs : List D) => ∃ (b_2 : Bool), rs = [D.bool b_2] ∧ PFn Tryd.prog (GG M) (12 : Nat) [D.agg [D.int IntKind.i64 (Fm.kind b), D.str (Fm.name b), D.int IntKind.i64 (Fm.n b), D.sl
    (List.map Tm.d (Fm.ts b)), D.sl (List.map Bd.d (Fm.bs b)), D.sl (List.map Fm.d (Fm.l b))]] fun (rs : List D) => ∃ (b_3 : Bool), rs = [D.bool b_3] ∧ ((bif !b_2 then true else !b_3) = true
    → [D.bool true] = [D.bool true]) ∧ ((bif !b_2 then true else !b_3) = false → PFn Tryd.prog (GG M) (23 : Nat) [D.agg [D.int IntKind.i64 (Fm.kind a), D.str (Fm.name a), D.int IntKind.i64
    (Fm.n a), D.sl (List.map Tm.d (Fm.ts a)), D.sl (List.map Bd.d (Fm.bs a)), D.sl (List.map Fm.d (Fm.l a))]] fun (rs : List D) => ∃ (n : Int), ∃ (s : List UInt8), ∃ (n_1 : Int), ∃ (l : List
    D), ∃ (l_1 : List D), ∃ (l_2 : List D), ∃ (n_2 : Int), rs = [D.agg [D.int IntKind.i64 n, D.str s, D.int IntKind.i64 n_1, D.sl l, D.sl l_1, D.sl l_2], D.int IntKind.i64 n_2] ∧ PFn
    Tryd.prog (GG M) (23 : Nat) [D.agg [D.int IntKind.i64 (Fm.kind b), D.str (Fm.name b), D.int IntKind.i64 (Fm.n b), D.sl (List.map Tm.d (Fm.ts b)), D.sl (List.map Bd.d (Fm.bs b)), D.sl
    (List.map Fm.d (Fm.l b))]] fun (rs : List D) => ∃ (n_3 : Int), ∃ (s_1 : List UInt8), ∃ (n_4 : Int), ∃ (l_3 : List D), ∃ (l_4 : List D), ∃ (l_5 : List D), ∃ (n_5 : Int), rs = [D.agg
    [D.int IntKind.i64 n_3, D.str s_1, D.int IntKind.i64 n_4, D.sl l_3, D.sl l_4, D.sl l_5], D.int IntKind.i64 n_5] ∧ PFn Tryd.prog (GG M) (23 : Nat) [D.agg [D.int IntKind.i64 (11 : Int),
    D.str (Array.toList (ByteArray.data (ByteArray.mk #[]))), D.int IntKind.i64 (0 : Int), D.sl [], D.sl [], D.sl [D.agg [D.int IntKind.i64 (Fm.kind a), D.str (Fm.name a), D.int IntKind.i64
    (Fm.n a), D.sl (List.map Tm.d (Fm.ts a)), D.sl (List.map Bd.d (Fm.bs a)), D.sl (List.map Fm.d (Fm.l a))], D.agg [D.int IntKind.i64 (Fm.kind b), D.str (Fm.name b), D.int IntKind.i64 (Fm.n
    b), D.sl (List.map Tm.d (Fm.ts b)), D.sl (List.map Bd.d (Fm.bs b)), D.sl (List.map Fm.d (Fm.l b))]]]] fun (rs : List D) => ∃ (n_6 : Int), ∃ (s_2 : List UInt8), ∃ (n_7 : Int), ∃ (l_6 :
    List D), ∃ (l_7 : List D), ∃ (l_8 : List D), ∃ (n_8 : Int), rs = [D.agg [D.int IntKind.i64 n_6, D.str s_2, D.int IntKind.i64 n_7, D.sl l_6, D.sl l_7, D.sl l_8], D.int IntKind.i64 n_8] ∧
    PFn Tryd.prog (GG M) (23 : Nat) [D.agg [D.int IntKind.i64 (13 : Int), D.str (Array.toList (ByteArray.data (ByteArray.mk #[]))), D.int IntKind.i64 (0 : Int), D.sl [], D.sl [], D.sl [D.agg
    [D.int IntKind.i64 (Fm.kind a), D.str (Fm.name a), D.int IntKind.i64 (Fm.n a), D.sl (List.map Tm.d (Fm.ts a)), D.sl (List.map Bd.d (Fm.bs a)), D.sl (List.map Fm.d (Fm.l a))], D.agg
    [D.int IntKind.i64 (Fm.kind b), D.str (Fm.name b), D.int IntKind.i64 (Fm.n b), D.sl (List.map Tm.d (Fm.ts b)), D.sl (List.map Bd.d (Fm.bs b)), D.sl (List.map Fm.d (Fm.l b))]]]] fun (rs :
    List D) => ∃ (n_9 : Int), ∃ (s_3 : List UInt8), ∃ (n_10 : Int), ∃ (l_9 : List D), ∃ (l_10 : List D), ∃ (l_11 : List D), ∃ (n_11 : Int), rs = [D.agg [D.int IntKind.i64 n_9, D.str s_3,
    D.int IntKind.i64 n_10, D.sl l_9, D.sl l_10, D.sl l_11], D.int IntKind.i64 n_11] ∧ PFn Tryd.prog (GG M) (27 : Nat) [D.agg [D.int IntKind.i64 (Fm.kind a), D.str (Fm.name a), D.int
    IntKind.i64 (Fm.n a), D.sl (List.map Tm.d (Fm.ts a)), D.sl (List.map Bd.d (Fm.bs a)), D.sl (List.map Fm.d (Fm.l a))]] fun (rs : List D) => ∃ (n_12 : Int), ∃ (s_4 : List UInt8), ∃ (n_13 :
    Int), ∃ (l_12 : List D), ∃ (l_13 : List D), ∃ (l_14 : List D), rs = [D.agg [D.int IntKind.i64 n_12, D.str s_4, D.int IntKind.i64 n_13, D.sl l_12, D.sl l_13, D.sl l_14]] ∧ PFn Tryd.prog
    (GG M) (23 : Nat) [D.agg [D.int IntKind.i64 n_12, D.str s_4, D.int IntKind.i64 n_13, D.sl l_12, D.sl l_13, D.sl l_14]] fun (rs : List D) => ∃ (n_14 : Int), ∃ (s_5 : List UInt8), ∃ (n_15
    : Int), ∃ (l_15 : List D), ∃ (l_16 : List D), ∃ (l_17 : List D), ∃ (n_16 : Int), rs = [D.agg [D.int IntKind.i64 n_14, D.str s_5, D.int IntKind.i64 n_15, D.sl l_15, D.sl l_16, D.sl l_17],
    D.int IntKind.i64 n_16] ∧ ((bif bif bif bif n_2 != (0 : Int) then true else n_5 != (0 : Int) then true else n_8 != (0 : Int) then true else n_11 != (0 : Int) then true else n_16 != (0 :
    Int)) = true → [D.bool (bif bif n_8 != (0 : Int) then n_11 == n_8 else false then true else bif n_16 != (0 : Int) then n_2 == (0 : Int) else false)] = [D.bool true]) ∧ ((bif bif bif bif
    n_2 != (0 : Int) then true else n_5 != (0 : Int) then true else n_8 != (0 : Int) then true else n_11 != (0 : Int) then true else n_16 != (0 : Int)) = false → PFn Tryd.prog (GG M) (19 :
    Nat) [D.agg [D.int IntKind.i64 (11 : Int), D.str (Array.toList (ByteArray.data (ByteArray.mk #[]))), D.int IntKind.i64 (0 : Int), D.sl [], D.sl [], D.sl [D.agg [D.int IntKind.i64
    (Fm.kind a), D.str (Fm.name a), D.int IntKind.i64 (Fm.n a), D.sl (List.map Tm.d (Fm.ts a)), D.sl (List.map Bd.d (Fm.bs a)), D.sl (List.map Fm.d (Fm.l a))], D.agg [D.int IntKind.i64
    (Fm.kind b), D.str (Fm.name b), D.int IntKind.i64 (Fm.n b), D.sl (List.map Tm.d (Fm.ts b)), D.sl (List.map Bd.d (Fm.bs b)), D.sl (List.map Fm.d (Fm.l b))]]]] fun (rs : List D) => ∃ (l_18
    : List D), rs = [D.sl l_18] ∧ PFn Tryd.prog (GG M) (19 : Nat) [D.agg [D.int IntKind.i64 (Fm.kind a), D.str (Fm.name a), D.int IntKind.i64 (Fm.n a), D.sl (List.map Tm.d (Fm.ts a)), D.sl
    (List.map Bd.d (Fm.bs a)), D.sl (List.map Fm.d (Fm.l a))]] fun (rs : List D) => ∃ (l_19 : List D), rs = [D.sl l_19] ∧ ∃ (x0 : Nat), x0 ≤ List.length (Fm.free a) ∧ ((AV.ptr (0 : Nat) (0 :
    Nat) = AV.ptr (0 : Nat) (0 : Nat) ∧ AV.ptr (1 : Nat) (0 : Nat) = AV.ptr (1 : Nat) (0 : Nat) ∧ AV.ptr (2 : Nat) (0 : Nat) = AV.ptr (2 : Nat) (0 : Nat) ∧ AV.ptr (3 : Nat) (0 : Nat) =
    AV.ptr (3 : Nat) (0 : Nat) ∧ AV.ptr (4 : Nat) (0 : Nat) = AV.ptr (4 : Nat) (0 : Nat) ∧ n_2 = n_2 ∧ AV.ptr (5 : Nat) (0 : Nat) = AV.ptr (5 : Nat) (0 : Nat) ∧ n_5 = n_5 ∧ AV.ptr (6 : Nat)
    (0 : Nat) = AV.ptr (6 : Nat) (0 : Nat) ∧ n_8 = n_8 ∧ AV.ptr (7 : Nat) (0 : Nat) = AV.ptr (7 : Nat) (0 : Nat) ∧ n_11 = n_11 ∧ AV.ptr (8 : Nat) (0 : Nat) = AV.ptr (8 : Nat) (0 : Nat) ∧
    n_16 = n_16 ∧ l_18 = l_18 ∧ l_19 = l_19 ∧ (0 : Int) = (↑x0 : Int) ∧ True) ∧ (Fm.kind a = Fm.kind a ∧ Fm.name a = Fm.name a ∧ Fm.n a = Fm.n a ∧ List.map Tm.d (Fm.ts a) = List.map Tm.d
    (Fm.ts a) ∧ List.map Bd.d (Fm.bs a) = List.map Bd.d (Fm.bs a) ∧ List.map Fm.d (Fm.l a) = List.map Fm.d (Fm.l a) ∧ True) ∧ (Fm.kind b = Fm.kind b ∧ Fm.name b = Fm.name b ∧ Fm.n b = Fm.n b
    ∧ List.map Tm.d (Fm.ts b) = List.map Tm.d (Fm.ts b) ∧ List.map Bd.d (Fm.bs b) = List.map Bd.d (Fm.bs b) ∧ List.map Fm.d (Fm.l b) = List.map Fm.d (Fm.l b) ∧ True) ∧ ((11 : Int) = (11 :
    Int) ∧ Array.toList (ByteArray.data (ByteArray.mk #[])) = Array.toList (ByteArray.data (ByteArray.mk #[])) ∧ (0 : Int) = (0 : Int) ∧ ([] : List D) = [] ∧ ([] : List D) = [] ∧ [D.agg
    [D.int IntKind.i64 (Fm.kind a), D.str (Fm.name a), D.int IntKind.i64 (Fm.n a), D.sl (List.map Tm.d (Fm.ts a)), D.sl (List.map Bd.d (Fm.bs a)), D.sl (List.map Fm.d (Fm.l a))], D.agg
    [D.int IntKind.i64 (Fm.kind b), D.str (Fm.name b), D.int IntKind.i64 (Fm.n b), D.sl (List.map Tm.d (Fm.ts b)), D.sl (List.map Bd.d (Fm.bs b)), D.sl (List.map Fm.d (Fm.l b))]] = [D.agg
    [D.int IntKind.i64 (Fm.kind a), D.str (Fm.name a), D.int IntKind.i64 (Fm.n a), D.sl (List.map Tm.d (Fm.ts a)), D.sl (List.map Bd.d (Fm.bs a)), D.sl (List.map Fm.d (Fm.l a))], D.agg
    [D.int IntKind.i64 (Fm.kind b), D.str (Fm.name b), D.int IntKind.i64 (Fm.n b), D.sl (List.map Tm.d (Fm.ts b)), D.sl (List.map Bd.d (Fm.bs b)), D.sl (List.map Fm.d (Fm.l b))]] ∧ True) ∧
    ((13 : Int) = (13 : Int) ∧ Array.toList (ByteArray.data (ByteArray.mk #[])) = Array.toList (ByteArray.data (ByteArray.mk #[])) ∧ (0 : Int) = (0 : Int) ∧ ([] : List D) = [] ∧ ([] : List
    D) = [] ∧ [D.agg [D.int IntKind.i64 (Fm.kind a), D.str (Fm.name a), D.int IntKind.i64 (Fm.n a), D.sl (List.map Tm.d (Fm.ts a)), D.sl (List.map Bd.d (Fm.bs a)), D.sl (List.map Fm.d (Fm.l
    a))], D.agg [D.int IntKind.i64 (Fm.kind b), D.str (Fm.name b), D.int IntKind.i64 (Fm.n b), D.sl (List.map Tm.d (Fm.ts b)), D.sl (List.map Bd.d (Fm.bs b)), D.sl (List.map Fm.d (Fm.l b))]]
    = [D.agg [D.int IntKind.i64 (Fm.kind a), D.str (Fm.name a), D.int IntKind.i64 (Fm.n a), D.sl (List.map Tm.d (Fm.ts a)), D.sl (List.map Bd.d (Fm.bs a)), D.sl (List.map Fm.d (Fm.l a))],
    D.agg [D.int IntKind.i64 (Fm.kind b), D.str (Fm.name b), D.int IntKind.i64 (Fm.n b), D.sl (List.map Tm.d (Fm.ts b)), D.sl (List.map Bd.d (Fm.bs b)), D.sl (List.map Fm.d (Fm.l b))]] ∧
    True) ∧ (n = n ∧ s = s ∧ n_1 = n_1 ∧ l = l ∧ l_1 = l_1 ∧ l_2 = l_2 ∧ True) ∧ (n_3 = n_3 ∧ s_1 = s_1 ∧ n_4 = n_4 ∧ l_3 = l_3 ∧ l_4 = l_4 ∧ l_5 = l_5 ∧ True) ∧ (n_6 = n_6 ∧ s_2 = s_2 ∧ n_7
    = n_7 ∧ l_6 = l_6 ∧ l_7 = l_7 ∧ l_8 = l_8 ∧ True) ∧ (n_9 = n_9 ∧ s_3 = s_3 ∧ n_10 = n_10 ∧ l_9 = l_9 ∧ l_10 = l_10 ∧ l_11 = l_11 ∧ True) ∧ (n_14 = n_14 ∧ s_5 = s_5 ∧ n_15 = n_15 ∧ l_15 =
    l_15 ∧ l_16 = l_16 ∧ l_17 = l_17 ∧ True) ∧ True) ∧ ∀ (x : Nat), x ≤ List.length (Fm.free a) → (decide ((↑x : Int) < (↑(List.length l_19) : Int)) = true → (decide ((↑x : Int) ≥
    (↑(List.length l_18) : Int)) = false → (0 : Int) ≤ (↑x : Int) ∧ l_18[Int.toNat (↑x : Int)]? = some (D.str (D.toStr (Option.getD (cellAt l_18 (Int.toNat (↑x : Int)) (0 : Nat)) default))))
    ∧ (decide ((↑x : Int) ≥ (↑(List.length l_18) : Int)) = false → (0 : Int) ≤ (↑x : Int) ∧ l_19[Int.toNat (↑x : Int)]? = some (D.str (D.toStr (Option.getD (cellAt l_19 (Int.toNat (↑x :
    Int)) (0 : Nat)) default)))) ∧ ((bif decide ((↑x : Int) ≥ (↑(List.length l_18) : Int)) then true else !D.toStr (Option.getD (cellAt l_18 (Int.toNat (↑x : Int)) (0 : Nat)) default) ==
    D.toStr (Option.getD (cellAt l_19 (Int.toNat (↑x : Int)) (0 : Nat)) default)) = true → [D.bool false] = [D.bool true]) ∧ ((bif decide ((↑x : Int) ≥ (↑(List.length l_18) : Int)) then true
    else !D.toStr (Option.getD (cellAt l_18 (Int.toNat (↑x : Int)) (0 : Nat)) default) == D.toStr (Option.getD (cellAt l_19 (Int.toNat (↑x : Int)) (0 : Nat)) default)) = false → ∃ (y : Nat),
    y ≤ List.length (Fm.free a) ∧ List.length (Fm.free a) - y < List.length (Fm.free a) - x ∧ (AV.ptr (0 : Nat) (0 : Nat) = AV.ptr (0 : Nat) (0 : Nat) ∧ AV.ptr (1 : Nat) (0 : Nat) = AV.ptr
    (1 : Nat) (0 : Nat) ∧ AV.ptr (2 : Nat) (0 : Nat) = AV.ptr (2 : Nat) (0 : Nat) ∧ AV.ptr (3 : Nat) (0 : Nat) = AV.ptr (3 : Nat) (0 : Nat) ∧ AV.ptr (4 : Nat) (0 : Nat) = AV.ptr (4 : Nat) (0
    : Nat) ∧ n_2 = n_2 ∧ AV.ptr (5 : Nat) (0 : Nat) = AV.ptr (5 : Nat) (0 : Nat) ∧ n_5 = n_5 ∧ AV.ptr (6 : Nat) (0 : Nat) = AV.ptr (6 : Nat) (0 : Nat) ∧ n_8 = n_8 ∧ AV.ptr (7 : Nat) (0 :
    Nat) = AV.ptr (7 : Nat) (0 : Nat) ∧ n_11 = n_11 ∧ AV.ptr (8 : Nat) (0 : Nat) = AV.ptr (8 : Nat) (0 : Nat) ∧ n_16 = n_16 ∧ l_18 = l_18 ∧ l_19 = l_19 ∧ IntKind.wrap IntKind.i64 ((↑x : Int)
    + (1 : Int)) = (↑y : Int) ∧ True) ∧ (Fm.kind a = Fm.kind a ∧ Fm.name a = Fm.name a ∧ Fm.n a = Fm.n a ∧ List.map Tm.d (Fm.ts a) = List.map Tm.d (Fm.ts a) ∧ List.map Bd.d (Fm.bs a) =
    List.map Bd.d (Fm.bs a) ∧ List.map Fm.d (Fm.l a) = List.map Fm.d (Fm.l a) ∧ True) ∧ (Fm.kind b = Fm.kind b ∧ Fm.name b = Fm.name b ∧ Fm.n b = Fm.n b ∧ List.map Tm.d (Fm.ts b) = List.map
    Tm.d (Fm.ts b) ∧ List.map Bd.d (Fm.bs b) = List.map Bd.d (Fm.bs b) ∧ List.map Fm.d (Fm.l b) = List.map Fm.d (Fm.l b) ∧ True) ∧ ((11 : Int) = (11 : Int) ∧ Array.toList (ByteArray.data
    (ByteArray.mk #[])) = Array.toList (ByteArray.data (ByteArray.mk #[])) ∧ (0 : Int) = (0 : Int) ∧ ([] : List D) = [] ∧ ([] : List D) = [] ∧ [D.agg [D.int IntKind.i64 (Fm.kind a), D.str
    (Fm.name a), D.int IntKind.i64 (Fm.n a), D.sl (List.map Tm.d (Fm.ts a)), D.sl (List.map Bd.d (Fm.bs a)), D.sl (List.map Fm.d (Fm.l a))], D.agg [D.int IntKind.i64 (Fm.kind b), D.str
    (Fm.name b), D.int IntKind.i64 (Fm.n b), D.sl (List.map Tm.d (Fm.ts b)), D.sl (List.map Bd.d (Fm.bs b)), D.sl (List.map Fm.d (Fm.l b))]] = [D.agg [D.int IntKind.i64 (Fm.kind a), D.str
    (Fm.name a), D.int IntKind.i64 (Fm.n a), D.sl (List.map Tm.d (Fm.ts a)), D.sl (List.map Bd.d (Fm.bs a)), D.sl (List.map Fm.d (Fm.l a))], D.agg [D.int IntKind.i64 (Fm.kind b), D.str
    (Fm.name b), D.int IntKind.i64 (Fm.n b), D.sl (List.map Tm.d (Fm.ts b)), D.sl (List.map Bd.d (Fm.bs b)), D.sl (List.map Fm.d (Fm.l b))]] ∧ True) ∧ ((13 : Int) = (13 : Int) ∧ Array.toList
    (ByteArray.data (ByteArray.mk #[])) = Array.toList (ByteArray.data (ByteArray.mk #[])) ∧ (0 : Int) = (0 : Int) ∧ ([] : List D) = [] ∧ ([] : List D) = [] ∧ [D.agg [D.int IntKind.i64
    (Fm.kind a), D.str (Fm.name a), D.int IntKind.i64 (Fm.n a), D.sl (List.map Tm.d (Fm.ts a)), D.sl (List.map Bd.d (Fm.bs a)), D.sl (List.map Fm.d (Fm.l a))], D.agg [D.int IntKind.i64
    (Fm.kind b), D.str (Fm.name b), D.int IntKind.i64 (Fm.n b), D.sl (List.map Tm.d (Fm.ts b)), D.sl (List.map Bd.d (Fm.bs b)), D.sl (List.map Fm.d (Fm.l b))]] = [D.agg [D.int IntKind.i64
    (Fm.kind a), D.str (Fm.name a), D.int IntKind.i64 (Fm.n a), D.sl (List.map Tm.d (Fm.ts a)), D.sl (List.map Bd.d (Fm.bs a)), D.sl (List.map Fm.d (Fm.l a))], D.agg [D.int IntKind.i64
    (Fm.kind b), D.str (Fm.name b), D.int IntKind.i64 (Fm.n b), D.sl (List.map Tm.d (Fm.ts b)), D.sl (List.map Bd.d (Fm.bs b)), D.sl (List.map Fm.d (Fm.l b))]] ∧ True) ∧ (n = n ∧ s = s ∧ n_1
    = n_1 ∧ l = l ∧ l_1 = l_1 ∧ l_2 = l_2 ∧ True) ∧ (n_3 = n_3 ∧ s_1 = s_1 ∧ n_4 = n_4 ∧ l_3 = l_3 ∧ l_4 = l_4 ∧ l_5 = l_5 ∧ True) ∧ (n_6 = n_6 ∧ s_2 = s_2 ∧ n_7 = n_7 ∧ l_6 = l_6 ∧ l_7 =
    l_7 ∧ l_8 = l_8 ∧ True) ∧ (n_9 = n_9 ∧ s_3 = s_3 ∧ n_10 = n_10 ∧ l_9 = l_9 ∧ l_10 = l_10 ∧ l_11 = l_11 ∧ True) ∧ (n_14 = n_14 ∧ s_5 = s_5 ∧ n_15 = n_15 ∧ l_15 = l_15 ∧ l_16 = l_16 ∧ l_17
    = l_17 ∧ True) ∧ True)) ∧ (decide ((↑x : Int) < (↑(List.length l_19) : Int)) = false → PFn Tryd.prog (GG M) (21 : Nat) [D.agg [D.int IntKind.i64 n_6, D.str s_2, D.int IntKind.i64 n_7,
    D.sl l_6, D.sl l_7, D.sl l_8], D.agg [D.int IntKind.i64 (11 : Int), D.str (Array.toList (ByteArray.data (ByteArray.mk #[]))), D.int IntKind.i64 (0 : Int), D.sl [], D.sl [], D.sl [D.agg
    [D.int IntKind.i64 n, D.str s, D.int IntKind.i64 n_1, D.sl l, D.sl l_1, D.sl l_2], D.agg [D.int IntKind.i64 n_3, D.str s_1, D.int IntKind.i64 n_4, D.sl l_3, D.sl l_4, D.sl l_5]]]] fun
    (rs : List D) => ∃ (b_4 : Bool), rs = [D.bool b_4] ∧ PFn Tryd.prog (GG M) (21 : Nat) [D.agg [D.int IntKind.i64 n_9, D.str s_3, D.int IntKind.i64 n_10, D.sl l_9, D.sl l_10, D.sl l_11],
    D.agg [D.int IntKind.i64 (12 : Int), D.str (Array.toList (ByteArray.data (ByteArray.mk #[]))), D.int IntKind.i64 (0 : Int), D.sl [], D.sl [], D.sl [D.agg [D.int IntKind.i64 n_14, D.str
    s_5, D.int IntKind.i64 n_15, D.sl l_15, D.sl l_16, D.sl l_17], D.agg [D.int IntKind.i64 n_3, D.str s_1, D.int IntKind.i64 n_4, D.sl l_3, D.sl l_4, D.sl l_5]]]] fun (rs : List D) => ∃
    (b_5 : Bool), rs = [D.bool b_5] ∧ PFn Tryd.prog (GG M) (15 : Nat) [D.agg [D.int IntKind.i64 (11 : Int), D.str (Array.toList (ByteArray.data (ByteArray.mk #[]))), D.int IntKind.i64 (0 :
    Int), D.sl [], D.sl [], D.sl [D.agg [D.int IntKind.i64 (Fm.kind a), D.str (Fm.name a), D.int IntKind.i64 (Fm.n a), D.sl (List.map Tm.d (Fm.ts a)), D.sl (List.map Bd.d (Fm.bs a)), D.sl
    (List.map Fm.d (Fm.l a))], D.agg [D.int IntKind.i64 (Fm.kind b), D.str (Fm.name b), D.int IntKind.i64 (Fm.n b), D.sl (List.map Tm.d (Fm.ts b)), D.sl (List.map Bd.d (Fm.bs b)), D.sl
    (List.map Fm.d (Fm.l b))]]]] fun (rs : List D) => ∃ (n : Int), rs = [D.int IntKind.i64 n] ∧ PFn Tryd.prog (GG M) (15 : Nat) [D.agg [D.int IntKind.i64 (Fm.kind a), D.str (Fm.name a),
    D.int IntKind.i64 (Fm.n a), D.sl (List.map Tm.d (Fm.ts a)), D.sl (List.map Bd.d (Fm.bs a)), D.sl (List.map Fm.d (Fm.l a))]] fun (rs : List D) => ∃ (n_17 : Int), rs = [D.int IntKind.i64
    n_17] ∧ PFn Tryd.prog (GG M) (15 : Nat) [D.agg [D.int IntKind.i64 (Fm.kind b), D.str (Fm.name b), D.int IntKind.i64 (Fm.n b), D.sl (List.map Tm.d (Fm.ts b)), D.sl (List.map Bd.d (Fm.bs
    b)), D.sl (List.map Fm.d (Fm.l b))]] fun (rs : List D) => ∃ (n_18 : Int), rs = [D.int IntKind.i64 n_18] ∧ PFn Tryd.prog (GG M) (17 : Nat) [D.agg [D.int IntKind.i64 (11 : Int), D.str
    (Array.toList (ByteArray.data (ByteArray.mk #[]))), D.int IntKind.i64 (0 : Int), D.sl [], D.sl [], D.sl [D.agg [D.int IntKind.i64 (Fm.kind a), D.str (Fm.name a), D.int IntKind.i64 (Fm.n
    a), D.sl (List.map Tm.d (Fm.ts a)), D.sl (List.map Bd.d (Fm.bs a)), D.sl (List.map Fm.d (Fm.l a))], D.agg [D.int IntKind.i64 (Fm.kind b), D.str (Fm.name b), D.int IntKind.i64 (Fm.n b),
    D.sl (List.map Tm.d (Fm.ts b)), D.sl (List.map Bd.d (Fm.bs b)), D.sl (List.map Fm.d (Fm.l b))]]]] fun (rs : List D) => ∃ (n_19 : Int), rs = [D.int IntKind.i64 n_19] ∧ PFn Tryd.prog (GG
    M) (17 : Nat) [D.agg [D.int IntKind.i64 (Fm.kind a), D.str (Fm.name a), D.int IntKind.i64 (Fm.n a), D.sl (List.map Tm.d (Fm.ts a)), D.sl (List.map Bd.d (Fm.bs a)), D.sl (List.map Fm.d
    (Fm.l a))]] fun (rs : List D) => ∃ (n_20 : Int), rs = [D.int IntKind.i64 n_20] ∧ PFn Tryd.prog (GG M) (17 : Nat) [D.agg [D.int IntKind.i64 (Fm.kind b), D.str (Fm.name b), D.int
    IntKind.i64 (Fm.n b), D.sl (List.map Tm.d (Fm.ts b)), D.sl (List.map Bd.d (Fm.bs b)), D.sl (List.map Fm.d (Fm.l b))]] fun (rs : List D) => ∃ (n_21 : Int), rs = [D.int IntKind.i64 n_21] ∧
    PFn Tryd.prog (GG M) (19 : Nat) [D.agg [D.int IntKind.i64 (Fm.kind b), D.str (Fm.name b), D.int IntKind.i64 (Fm.n b), D.sl (List.map Tm.d (Fm.ts b)), D.sl (List.map Bd.d (Fm.bs b)), D.sl
    (List.map Fm.d (Fm.l b))]] fun (rs : List D) => ∃ (l : List D), rs = [D.sl l] ∧ [D.bool (bif bif bif bif b_4 then b_5 else false then n == IntKind.wrap IntKind.i64 (IntKind.wrap
    IntKind.i64 ((1 : Int) + n_17) + n_18) else false then n_19 == IntKind.wrap IntKind.i64 ((1 : Int) + if n_21 > n_20 then n_21 else n_20) else false then decide ((↑(List.length l_18) :
    Int) ≤ IntKind.wrap IntKind.i64 ((↑(List.length l_19) : Int) + (↑(List.length l) : Int))) else false)] = [D.bool true])))))
  · kernel_rfl
  refine (fn11 hM).mono ?_
  rintro rs rfl
  refine ⟨_, rfl, fun h => (by cases h), fun _ => ?_⟩
  refine h12a.mono ?_
  rintro rs rfl
  refine ⟨_, rfl, ?_⟩
  refine h12b.mono ?_
  rintro rs rfl
  refine ⟨_, rfl, fun _ => rfl, fun _ => ?_⟩
  refine h23a.mono ?_
  rintro rs rfl
  refine ⟨_, _, _, _, _, _, _, congrArg (fun z => [z, D.int IntKind.i64 a.checkI]) (Fm.d_eq _), ?_⟩
  refine h23b.mono ?_
  rintro rs rfl
  refine ⟨_, _, _, _, _, _, _, congrArg (fun z => [z, D.int IntKind.i64 b.checkI]) (Fm.d_eq _), ?_⟩
  refine h23and.mono ?_
  rintro rs rfl
  refine ⟨_, _, _, _, _, _, _, congrArg (fun z => [z, D.int IntKind.i64 (andF a b).checkI]) (Fm.d_eq _), ?_⟩
  refine h23imp.mono ?_
  rintro rs rfl
  refine ⟨_, _, _, _, _, _, _, congrArg (fun z => [z, D.int IntKind.i64 (impF a b).checkI]) (Fm.d_eq _), ?_⟩
  refine h27.mono ?_
  rintro rs rfl
  refine ⟨_, _, _, _, _, _, congrArg (fun z => [z]) (Fm.d_eq _), ?_⟩
  refine h23n.mono ?_
  rintro rs rfl
  refine ⟨_, _, _, _, _, _, _, congrArg (fun z => [z, D.int IntKind.i64 a.not.checkI]) (Fm.d_eq _), fun h => ?_, fun h => ?_⟩
  · have ca := checkI_cases a
    have cb := checkI_cases b
    have cn := checkI_cases a.not
    rcases checkI_cases (andF a b) with ⟨m1, m3⟩ | ⟨m1, m2, m3⟩ | ⟨m1, m2, m3⟩ <;> rcases checkI_cases (impF a b) with ⟨n1, n3⟩ | ⟨n1, n2, n3⟩ | ⟨n1, n2, n3⟩ <;>
      first
      | (exfalso; rw [band] at m1; rw [bimp, m1] at n1; exact absurd n1 (by decide))
      | (exfalso; omega)
      | (rw [m3, n3]; rfl)
      | skip
    exfalso
    rw [band, Bool.and_eq_true] at m1
    have a0 : a.checkI = 0 := by
      rcases ca with ⟨c1, _⟩ | ⟨_, c2, _⟩ | ⟨_, _, c3⟩
      · rw [m1.1] at c1; cases c1
      · omega
      · exact c3
    have b0 : b.checkI = 0 := by
      rcases cb with ⟨c1, _⟩ | ⟨_, c2, _⟩ | ⟨_, _, c3⟩
      · rw [m1.2] at c1; cases c1
      · omega
      · exact c3
    have n0 : a.not.checkI = 0 := by
      rcases cn with ⟨c1, _⟩ | ⟨_, c2, _⟩ | ⟨_, _, c3⟩
      · rw [bna, m1.1] at c1; cases c1
      · have := b.rank_eq; omega
      · exact c3
    rw [a0, b0, n0, m3, n3] at h
    exact absurd h (by decide)
  · simp only [bif_or, Bool.or_eq_false_iff, bne_eq_false_iff_eq] at h
    obtain ⟨⟨⟨⟨a0, b0⟩, m0⟩, i0⟩, n0⟩ := h
    have hfa := checkI_form a0
    have hfb := checkI_form b0
    refine h19and.mono ?_
    rintro rs rfl
    refine ⟨_, rfl, ?_⟩
    refine h19a.mono ?_
    rintro rs rfl
    have hla := a.free_len
    have hlb := b.free_len
    have hland := (andF a b).free_len
    obtain ⟨q, hq⟩ := fold_pre [] b.free a.free
    have hfree : (andF a b).free = a.free ++ q := by rw [and_free, hq]
    have hlen := addA_len [] b.free a.free
    rw [← and_free] at hlen
    refine ⟨_, rfl, 0, by omega, by simp, fun x hx => ⟨fun hlt => ?_, fun hge => ?_⟩⟩
    · simp only [List.length_map, decide_eq_true_eq] at hlt
      obtain ⟨z, hz, hm⟩ := get_nat (l := a.free) (x := x) (by omega)
      have hz2 : (andF a b).free[x]? = some z := by rw [hfree, List.getElem?_append_left (by omega)]; exact hz
      have hlt2 : x < (andF a b).free.length := by rw [hfree, List.length_append]; omega
      rw [Int.toNat_natCast, cell_str hz, cell_str hz2]
      have e2 : D.toStr (Option.getD (some (D.str z)) default) = z := rfl
      rw [e2]
      have g1 : decide ((x : Int) ≥ ((List.map D.str (andF a b).free).length : Int)) = false := by simp; omega
      rw [g1]
      refine ⟨fun _ => ⟨by omega, by simp [hz2]⟩, fun _ => ⟨by omega, by simp [hz]⟩, fun h => ?_, fun _ => ⟨x + 1, by omega, by omega, ?_⟩⟩
      · simp at h
      · rw [wrap64 (by omega) (by omega)]; simp
    · refine h21z.mono ?_
      rintro rs rfl
      refine ⟨_, rfl, ?_⟩
      refine h21w.mono ?_
      rintro rs rfl
      refine ⟨_, rfl, ?_⟩
      refine h15and.mono ?_
      rintro rs rfl
      refine ⟨_, rfl, ?_⟩
      refine h15a.mono ?_
      rintro rs rfl
      refine ⟨_, rfl, ?_⟩
      refine h15b.mono ?_
      rintro rs rfl
      refine ⟨_, rfl, ?_⟩
      refine h17and.mono ?_
      rintro rs rfl
      refine ⟨_, rfl, ?_⟩
      refine h17a.mono ?_
      rintro rs rfl
      refine ⟨_, rfl, ?_⟩
      refine h17b.mono ?_
      rintro rs rfl
      refine ⟨_, rfl, ?_⟩
      refine h19b.mono ?_
      rintro rs rfl
      refine ⟨_, rfl, ?_⟩
      have k1 : (andF a b).nnf.beq (andF a.nnf b.nnf) = true := by
        rw [nnf_ok m0, nnf_ok a0, nnf_ok b0, andF, right_and]; exact beq_refl _
      have k2 : (impF a b).nnf.beq (orF a.not.nnf b.nnf) = true := by
        rw [nnf_ok i0, nnf_ok n0, nnf_ok b0, impF, right_imp, not_right]; exact beq_refl _
      have k3 : (((andF a b).rank : Int) == IntKind.i64.wrap (IntKind.i64.wrap (1 + (a.rank : Int)) + (b.rank : Int))) = true := by
        rw [wrap64 (n := 1 + (a.rank : Int)) (by omega) (by omega), wrap64 (by omega) (by omega), beq_iff_eq]; omega
      have k4 : (((andF a b).depth : Int) == IntKind.i64.wrap (1 + if (b.depth : Int) > (a.depth : Int) then (b.depth : Int) else (a.depth : Int))) = true := by
        rw [wrap64 (by split <;> omega) (by split <;> omega), beq_iff_eq]; split <;> omega
      have k5 : decide (((List.map D.str (andF a b).free).length : Int) ≤ IntKind.i64.wrap (((List.map D.str a.free).length : Int) + ((List.map D.str b.free).length : Int))) = true := by
        simp only [List.length_map]
        rw [wrap64 (by omega) (by omega)]
        exact decide_eq_true (by omega)
      rw [k1, k2, k3, k4, k5]; rfl

/-! Quantifying over a name. -/
def allF (nm : Nm) (s : Int) (f : Fm) : Fm := .mk 14 [] 0 [] [⟨nm, s⟩] [f]
def leastF (nm : Nm) (s n : Int) (f : Fm) : Fm := .mk 16 [] n [] [⟨nm, s⟩] [f]
theorem quant_d (k n : Int) (nm : Nm) (s : Int) (f : Fm) : (Fm.mk k [] n [] [⟨nm, s⟩] [f]).d = .agg [.int .i64 k, .str [], .int .i64 n, .sl [], .sl [.agg [.str nm, .int .i64 s]], .sl [.agg (fmCells f)]] := by rw [Fm.d_mk]; simp [d_cells, Bd.d]
theorem quant_wt (k n : Int) (nm : Nm) (s : Int) (f : Fm) : (Fm.mk k [] n [] [⟨nm, s⟩] [f]).wt = 2 + nm.length + f.wt := by simp [Fm.wt, Fm.wts, sumT, sumB] <;> omega
theorem all_free (nm : Nm) (s : Int) (f : Fm) : (allF nm s f).free = f.free.filter (fun x => !(x == nm)) := by
  rw [Fm.free_eq]
  show (tsN [] ++ Fm.frees [f]).foldl (addA [nm]) [] = _
  have : tsN [] ++ Fm.frees [f] = f.free := by simp [tsN, Fm.frees]
  rw [this, fold_filter _ _ _ (free_nodup f) (by simp)]
  simp only [List.nil_append]
  congr 1
  funext x
  by_cases h : x = nm <;> simp [h]
theorem filter_at {p : Nm → Bool} {l : List Nm} {i : Nat} {z : Nm} (h : l[i]? = some z) (hp : p z = true) : (l.filter p)[((l.take i).filter p).length]? = some z := by
  have hlt : i < l.length := by
    rcases Nat.lt_or_ge i l.length with h' | h'
    · exact h'
    · rw [List.getElem?_eq_none h'] at h; cases h
  have e : l = l.take i ++ z :: l.drop (i + 1) := by
    rw [List.getElem?_eq_getElem hlt] at h
    cases h
    rw [← List.drop_eq_getElem_cons hlt, List.take_append_drop]
  have e2 : l.filter p = (l.take i).filter p ++ z :: (l.drop (i + 1)).filter p := by
    have := congrArg (List.filter p) e
    rw [List.filter_append, List.filter_cons, if_pos hp] at this
    exact this
  rw [e2, List.getElem?_append_right (by omega)]
  simp
theorem filter_take_succ {p : Nm → Bool} {l : List Nm} {i : Nat} {z : Nm} (h : l[i]? = some z) : (l.take (i + 1)).filter p = (l.take i).filter p ++ if p z then [z] else [] := by
  rw [List.take_add_one, h, List.filter_append]
  congr 1
  simp only [Option.toList_some, List.filter_cons, List.filter_nil]

theorem count_least {nm : Nm} {s n : Int} {f : Fm} (h : (leastF nm s n f).formB = true) : 0 ≤ n ∧ n ≤ 1099511627776 := by
  have := formB_shape h
  unfold leastF at this
  cases this with
  | quant k bs x hk => omega
  | count k n bs x hk h0 hn => exact ⟨h0, hn⟩

theorem fn9 (hM : M.Ok) (f : Fm) (nm : Nm) (s n : Int) (hf : f.wt ≤ 1048576) (hnm : nm.length ≤ 1048576) : PFn Tryd.prog (GG M) 9 [f.d, .str nm, .int .i64 s, .int .i64 n] (· = [.bool true]) := by
  have wall : (allF nm s f).wt = 2 + nm.length + f.wt := quant_wt 14 0 nm s f
  have wlea : (leastF nm s n f).wt = 2 + nm.length + f.wt := quant_wt 16 n nm s f
  have wna := not_wt (allF nm s f)
  have wnl := not_wt (leastF nm s n f)
  have h12 := fn12 (G := GG M) f (by omega)
  have h19 := fn19 (G := GG M) f (by omega)
  have h19a := fn19 (G := GG M) (allF nm s f) (by omega)
  have h27a := fn27 (G := GG M) (allF nm s f)
  have h27l := fn27 (G := GG M) (leastF nm s n f)
  have h23a := fn23 hM (allF nm s f).not (by omega)
  have h23l := fn23 hM (leastF nm s n f).not (by omega)
  rw [look_nil] at h19 h19a
  have e1 : (allF nm s f).d = _ := quant_d 14 0 nm s f
  have e2 : (leastF nm s n f).d = _ := quant_d 16 n nm s f
  rw [d_cells f] at h12 h19 ⊢
  rw [e1] at h19a h27a
  rw [e2] at h27l
  rw [d_cells (allF nm s f).not] at h23a
  rw [d_cells (leastF nm s n f).not] at h23l
  refine PFn.walk (fn := Tryd.f9) (code := bodyOf Tryd.f9) mixed
    (LL [(12, loopW (α := Nat) Tryd.prog (GG M) L0 0 (loopN (bodyOf Tryd.f9) 0) [1, 2, 3, 4, 9, 10, 11, 12, 13] (fun i => i ≤ f.free.length) (fun i => f.free.length - i)
      (fun i => [(14, .d (.int .i64 (((f.free.take i).filter (fun x => !(x == nm))).length))), (15, .d (.int .i64 i))]) (fun H _ => H))])
    Tryd.func9 (by kernel_rfl) ⟨_, rfl⟩ (LoopsOk.one (b1 := loopN (bodyOf Tryd.f9) 0) (by kernel_rfl) (by kernel_rfl) (loopW_sound mixed (ok0 (by kernel_rfl)))) ?_
  apply @of_vc _ (
    PFn Tryd.prog (GG M) (11 : Nat) [] fun (rs : List D) => ∃ (b : Bool), rs = [D.bool b] ∧ ((!b) = true → [D.bool false] = [D.bool true]) ∧ ((!b) = false → PFn Tryd.prog (GG M) (12 : Nat)
    [D.agg [D.int IntKind.i64 (Fm.kind f), D.str (Fm.name f), D.int IntKind.i64 (Fm.n f), D.sl (List.map Tm.d (Fm.ts f)), D.sl (List.map Bd.d (Fm.bs f)), D.sl (List.map Fm.d (Fm.l f))]] fun
    (rs : List D) => ∃ (b : Bool), rs = [D.bool b] ∧ ((bif !b then true else decide ((↑(List.length nm) : Int) > (100 : Int))) = true → [D.bool true] = [D.bool true]) ∧ ((bif !b then true
    else decide ((↑(List.length nm) : Int) > (100 : Int))) = false → PFn Tryd.prog (GG M) (19 : Nat) [D.agg [D.int IntKind.i64 (Fm.kind f), D.str (Fm.name f), D.int IntKind.i64 (Fm.n f),
    D.sl (List.map Tm.d (Fm.ts f)), D.sl (List.map Bd.d (Fm.bs f)), D.sl (List.map Fm.d (Fm.l f))]] fun (rs : List D) => ∃ (l : List D), rs = [D.sl l] ∧ PFn Tryd.prog (GG M) (19 : Nat)
    [D.agg [D.int IntKind.i64 (14 : Int), D.str (Array.toList (ByteArray.data (ByteArray.mk #[]))), D.int IntKind.i64 (0 : Int), D.sl [], D.sl [D.agg [D.str nm, D.int IntKind.i64 s]], D.sl
    [D.agg [D.int IntKind.i64 (Fm.kind f), D.str (Fm.name f), D.int IntKind.i64 (Fm.n f), D.sl (List.map Tm.d (Fm.ts f)), D.sl (List.map Bd.d (Fm.bs f)), D.sl (List.map Fm.d (Fm.l f))]]]]
    fun (rs : List D) => ∃ (l_1 : List D), rs = [D.sl l_1] ∧ ∃ (x0 : Nat), x0 ≤ List.length (Fm.free f) ∧ ((nm = nm ∧ s = s ∧ n = n ∧ AV.ptr (0 : Nat) (0 : Nat) = AV.ptr (0 : Nat) (0 : Nat)
    ∧ [D.agg [D.str nm, D.int IntKind.i64 s]] = [D.agg [D.str nm, D.int IntKind.i64 s]] ∧ AV.ptr (1 : Nat) (0 : Nat) = AV.ptr (1 : Nat) (0 : Nat) ∧ AV.ptr (2 : Nat) (0 : Nat) = AV.ptr (2 :
    Nat) (0 : Nat) ∧ l = l ∧ l_1 = l_1 ∧ (0 : Int) = (↑(List.length (List.filter (fun (x : Nm) => !x == nm) (List.take x0 (Fm.free f)))) : Int) ∧ (0 : Int) = (↑x0 : Int) ∧ True) ∧ (Fm.kind f
    = Fm.kind f ∧ Fm.name f = Fm.name f ∧ Fm.n f = Fm.n f ∧ List.map Tm.d (Fm.ts f) = List.map Tm.d (Fm.ts f) ∧ List.map Bd.d (Fm.bs f) = List.map Bd.d (Fm.bs f) ∧ List.map Fm.d (Fm.l f) =
    List.map Fm.d (Fm.l f) ∧ True) ∧ ((14 : Int) = (14 : Int) ∧ Array.toList (ByteArray.data (ByteArray.mk #[])) = Array.toList (ByteArray.data (ByteArray.mk #[])) ∧ (0 : Int) = (0 : Int) ∧
    ([] : List D) = [] ∧ [D.agg [D.str nm, D.int IntKind.i64 s]] = [D.agg [D.str nm, D.int IntKind.i64 s]] ∧ [D.agg [D.int IntKind.i64 (Fm.kind f), D.str (Fm.name f), D.int IntKind.i64 (Fm.n
    f), D.sl (List.map Tm.d (Fm.ts f)), D.sl (List.map Bd.d (Fm.bs f)), D.sl (List.map Fm.d (Fm.l f))]] = [D.agg [D.int IntKind.i64 (Fm.kind f), D.str (Fm.name f), D.int IntKind.i64 (Fm.n
    f), D.sl (List.map Tm.d (Fm.ts f)), D.sl (List.map Bd.d (Fm.bs f)), D.sl (List.map Fm.d (Fm.l f))]] ∧ True) ∧ ((16 : Int) = (16 : Int) ∧ Array.toList (ByteArray.data (ByteArray.mk #[]))
    = Array.toList (ByteArray.data (ByteArray.mk #[])) ∧ n = n ∧ ([] : List D) = [] ∧ [D.agg [D.str nm, D.int IntKind.i64 s]] = [D.agg [D.str nm, D.int IntKind.i64 s]] ∧ [D.agg [D.int
    IntKind.i64 (Fm.kind f), D.str (Fm.name f), D.int IntKind.i64 (Fm.n f), D.sl (List.map Tm.d (Fm.ts f)), D.sl (List.map Bd.d (Fm.bs f)), D.sl (List.map Fm.d (Fm.l f))]] = [D.agg [D.int
    IntKind.i64 (Fm.kind f), D.str (Fm.name f), D.int IntKind.i64 (Fm.n f), D.sl (List.map Tm.d (Fm.ts f)), D.sl (List.map Bd.d (Fm.bs f)), D.sl (List.map Fm.d (Fm.l f))]] ∧ True) ∧ True) ∧
    ∀ (x : Nat), x ≤ List.length (Fm.free f) → (decide ((↑x : Int) < (↑(List.length l) : Int)) = true → ((0 : Int) ≤ (↑x : Int) ∧ l[Int.toNat (↑x : Int)]? = some (D.str (D.toStr (Option.getD
    (cellAt l (Int.toNat (↑x : Int)) (0 : Nat)) default)))) ∧ ((D.toStr (Option.getD (cellAt l (Int.toNat (↑x : Int)) (0 : Nat)) default) == nm) = true → ∃ (y : Nat), y ≤ List.length
    (Fm.free f) ∧ List.length (Fm.free f) - y < List.length (Fm.free f) - x ∧ (nm = nm ∧ s = s ∧ n = n ∧ AV.ptr (0 : Nat) (0 : Nat) = AV.ptr (0 : Nat) (0 : Nat) ∧ [D.agg [D.str nm, D.int
    IntKind.i64 s]] = [D.agg [D.str nm, D.int IntKind.i64 s]] ∧ AV.ptr (1 : Nat) (0 : Nat) = AV.ptr (1 : Nat) (0 : Nat) ∧ AV.ptr (2 : Nat) (0 : Nat) = AV.ptr (2 : Nat) (0 : Nat) ∧ l = l ∧
    l_1 = l_1 ∧ (↑(List.length (List.filter (fun (x : Nm) => !x == nm) (List.take x (Fm.free f)))) : Int) = (↑(List.length (List.filter (fun (x : Nm) => !x == nm) (List.take y (Fm.free f))))
    : Int) ∧ IntKind.wrap IntKind.i64 ((↑x : Int) + (1 : Int)) = (↑y : Int) ∧ True) ∧ (Fm.kind f = Fm.kind f ∧ Fm.name f = Fm.name f ∧ Fm.n f = Fm.n f ∧ List.map Tm.d (Fm.ts f) = List.map
    Tm.d (Fm.ts f) ∧ List.map Bd.d (Fm.bs f) = List.map Bd.d (Fm.bs f) ∧ List.map Fm.d (Fm.l f) = List.map Fm.d (Fm.l f) ∧ True) ∧ ((14 : Int) = (14 : Int) ∧ Array.toList (ByteArray.data
    (ByteArray.mk #[])) = Array.toList (ByteArray.data (ByteArray.mk #[])) ∧ (0 : Int) = (0 : Int) ∧ ([] : List D) = [] ∧ [D.agg [D.str nm, D.int IntKind.i64 s]] = [D.agg [D.str nm, D.int
    IntKind.i64 s]] ∧ [D.agg [D.int IntKind.i64 (Fm.kind f), D.str (Fm.name f), D.int IntKind.i64 (Fm.n f), D.sl (List.map Tm.d (Fm.ts f)), D.sl (List.map Bd.d (Fm.bs f)), D.sl (List.map
    Fm.d (Fm.l f))]] = [D.agg [D.int IntKind.i64 (Fm.kind f), D.str (Fm.name f), D.int IntKind.i64 (Fm.n f), D.sl (List.map Tm.d (Fm.ts f)), D.sl (List.map Bd.d (Fm.bs f)), D.sl (List.map
    Fm.d (Fm.l f))]] ∧ True) ∧ ((16 : Int) = (16 : Int) ∧ Array.toList (ByteArray.data (ByteArray.mk #[])) = Array.toList (ByteArray.data (ByteArray.mk #[])) ∧ n = n ∧ ([] : List D) = [] ∧
    [D.agg [D.str nm, D.int IntKind.i64 s]] = [D.agg [D.str nm, D.int IntKind.i64 s]] ∧ [D.agg [D.int IntKind.i64 (Fm.kind f), D.str (Fm.name f), D.int IntKind.i64 (Fm.n f), D.sl (List.map
    Tm.d (Fm.ts f)), D.sl (List.map Bd.d (Fm.bs f)), D.sl (List.map Fm.d (Fm.l f))]] = [D.agg [D.int IntKind.i64 (Fm.kind f), D.str (Fm.name f), D.int IntKind.i64 (Fm.n f), D.sl (List.map
    Tm.d (Fm.ts f)), D.sl (List.map Bd.d (Fm.bs f)), D.sl (List.map Fm.d (Fm.l f))]] ∧ True) ∧ True) ∧ ((D.toStr (Option.getD (cellAt l (Int.toNat (↑x : Int)) (0 : Nat)) default) == nm) =
    false → (decide ((↑(List.length (List.filter (fun (x : Nm) => !x == nm) (List.take x (Fm.free f)))) : Int) ≥ (↑(List.length l_1) : Int)) = false → (0 : Int) ≤ (↑(List.length (List.filter
    (fun (x : Nm) => !x == nm) (List.take x (Fm.free f)))) : Int) ∧ l_1[Int.toNat (↑(List.length (List.filter (fun (x : Nm) => !x == nm) (List.take x (Fm.free f)))) : Int)]? = some (D.str
    (D.toStr (Option.getD (cellAt l_1 (Int.toNat (↑(List.length (List.filter (fun (x : Nm) => !x == nm) (List.take x (Fm.free f)))) : Int)) (0 : Nat)) default)))) ∧ (decide ((↑(List.length
    (List.filter (fun (x : Nm) => !x == nm) (List.take x (Fm.free f)))) : Int) ≥ (↑(List.length l_1) : Int)) = false → (0 : Int) ≤ (↑x : Int) ∧ l[Int.toNat (↑x : Int)]? = some (D.str
    (D.toStr (Option.getD (cellAt l (Int.toNat (↑x : Int)) (0 : Nat)) default)))) ∧ ((bif decide ((↑(List.length (List.filter (fun (x : Nm) => !x == nm) (List.take x (Fm.free f)))) : Int) ≥
    (↑(List.length l_1) : Int)) then true else !D.toStr (Option.getD (cellAt l_1 (Int.toNat (↑(List.length (List.filter (fun (x : Nm) => !x == nm) (List.take x (Fm.free f)))) : Int)) (0 :
    Nat)) default) == D.toStr (Option.getD (cellAt l (Int.toNat (↑x : Int)) (0 : Nat)) default)) = true → [D.bool false] = [D.bool true]) ∧ ((bif decide ((↑(List.length (List.filter (fun (x
    : Nm) => !x == nm) (List.take x (Fm.free f)))) : Int) ≥ (↑(List.length l_1) : Int)) then true else !D.toStr (Option.getD (cellAt l_1 (Int.toNat (↑(List.length (List.filter (fun (x : Nm)
    => !x == nm) (List.take x (Fm.free f)))) : Int)) (0 : Nat)) default) == D.toStr (Option.getD (cellAt l (Int.toNat (↑x : Int)) (0 : Nat)) default)) = false → ∃ (y : Nat), y ≤ List.length
    (Fm.free f) ∧ List.length (Fm.free f) - y < List.length (Fm.free f) - x ∧ (nm = nm ∧ s = s ∧ n = n ∧ AV.ptr (0 : Nat) (0 : Nat) = AV.ptr (0 : Nat) (0 : Nat) ∧ [D.agg [D.str nm, D.int
    IntKind.i64 s]] = [D.agg [D.str nm, D.int IntKind.i64 s]] ∧ AV.ptr (1 : Nat) (0 : Nat) = AV.ptr (1 : Nat) (0 : Nat) ∧ AV.ptr (2 : Nat) (0 : Nat) = AV.ptr (2 : Nat) (0 : Nat) ∧ l = l ∧
    l_1 = l_1 ∧ IntKind.wrap IntKind.i64 ((↑(List.length (List.filter (fun (x : Nm) => !x == nm) (List.take x (Fm.free f)))) : Int) + (1 : Int)) = (↑(List.length (List.filter (fun (x : Nm)
    => !x == nm) (List.take y (Fm.free f)))) : Int) ∧ IntKind.wrap IntKind.i64 ((↑x : Int) + (1 : Int)) = (↑y : Int) ∧ True) ∧ (Fm.kind f = Fm.kind f ∧ Fm.name f = Fm.name f ∧ Fm.n f = Fm.n
    f ∧ List.map Tm.d (Fm.ts f) = List.map Tm.d (Fm.ts f) ∧ List.map Bd.d (Fm.bs f) = List.map Bd.d (Fm.bs f) ∧ List.map Fm.d (Fm.l f) = List.map Fm.d (Fm.l f) ∧ True) ∧ ((14 : Int) = (14 :
    Int) ∧ Array.toList (ByteArray.data (ByteArray.mk #[])) = Array.toList (ByteArray.data (ByteArray.mk #[])) ∧ (0 : Int) = (0 : Int) ∧ ([] : List D) = [] ∧ [D.agg [D.str nm, D.int
    IntKind.i64 s]] = [D.agg [D.str nm, D.int IntKind.i64 s]] ∧ [D.agg [D.int IntKind.i64 (Fm.kind f), D.str (Fm.name f), D.int IntKind.i64 (Fm.n f), D.sl (List.map Tm.d (Fm.ts f)), D.sl
    (List.map Bd.d (Fm.bs f)), D.sl (List.map Fm.d (Fm.l f))]] = [D.agg [D.int IntKind.i64 (Fm.kind f), D.str (Fm.name f), D.int IntKind.i64 (Fm.n f), D.sl (List.map Tm.d (Fm.ts f)), D.sl
    (List.map Bd.d (Fm.bs f)), D.sl (List.map Fm.d (Fm.l f))]] ∧ True) ∧ ((16 : Int) = (16 : Int) ∧ Array.toList (ByteArray.data (ByteArray.mk #[])) = Array.toList (ByteArray.data
    (ByteArray.mk #[])) ∧ n = n ∧ ([] : List D) = [] ∧ [D.agg [D.str nm, D.int IntKind.i64 s]] = [D.agg [D.str nm, D.int IntKind.i64 s]] ∧ [D.agg [D.int IntKind.i64 (Fm.kind f), D.str
    (Fm.name f), D.int IntKind.i64 (Fm.n f), D.sl (List.map Tm.d (Fm.ts f)), D.sl (List.map Bd.d (Fm.bs f)), D.sl (List.map Fm.d (Fm.l f))]] = [D.agg [D.int IntKind.i64 (Fm.kind f), D.str
    (Fm.name f), D.int IntKind.i64 (Fm.n f), D.sl (List.map Tm.d (Fm.ts f)), D.sl (List.map Bd.d (Fm.bs f)), D.sl (List.map Fm.d (Fm.l f))]] ∧ True) ∧ True))) ∧ (decide ((↑x : Int) <
    (↑(List.length l) : Int)) = false → PFn Tryd.prog (GG M) (27 : Nat) [D.agg [D.int IntKind.i64 (14 : Int), D.str (Array.toList (ByteArray.data (ByteArray.mk #[]))), D.int IntKind.i64 (0 :
    Int), D.sl [], D.sl [D.agg [D.str nm, D.int IntKind.i64 s]], D.sl [D.agg [D.int IntKind.i64 (Fm.kind f), D.str (Fm.name f), D.int IntKind.i64 (Fm.n f), D.sl (List.map Tm.d (Fm.ts f)),
    D.sl (List.map Bd.d (Fm.bs f)), D.sl (List.map Fm.d (Fm.l f))]]]] fun (rs : List D) => ∃ (n_1 : Int), ∃ (s_1 : List UInt8), ∃ (n_2 : Int), ∃ (l : List D), ∃ (l_2 : List D), ∃ (l_3 : List
    D), rs = [D.agg [D.int IntKind.i64 n_1, D.str s_1, D.int IntKind.i64 n_2, D.sl l, D.sl l_2, D.sl l_3]] ∧ PFn Tryd.prog (GG M) (23 : Nat) [D.agg [D.int IntKind.i64 n_1, D.str s_1, D.int
    IntKind.i64 n_2, D.sl l, D.sl l_2, D.sl l_3]] fun (rs : List D) => ∃ (n_3 : Int), ∃ (s_2 : List UInt8), ∃ (n_4 : Int), ∃ (l : List D), ∃ (l_4 : List D), ∃ (l_5 : List D), ∃ (n_5 : Int),
    rs = [D.agg [D.int IntKind.i64 n_3, D.str s_2, D.int IntKind.i64 n_4, D.sl l, D.sl l_4, D.sl l_5], D.int IntKind.i64 n_5] ∧ PFn Tryd.prog (GG M) (27 : Nat) [D.agg [D.int IntKind.i64 (16
    : Int), D.str (Array.toList (ByteArray.data (ByteArray.mk #[]))), D.int IntKind.i64 n, D.sl [], D.sl [D.agg [D.str nm, D.int IntKind.i64 s]], D.sl [D.agg [D.int IntKind.i64 (Fm.kind f),
    D.str (Fm.name f), D.int IntKind.i64 (Fm.n f), D.sl (List.map Tm.d (Fm.ts f)), D.sl (List.map Bd.d (Fm.bs f)), D.sl (List.map Fm.d (Fm.l f))]]]] fun (rs : List D) => ∃ (n_6 : Int), ∃
    (s_3 : List UInt8), ∃ (n_7 : Int), ∃ (l : List D), ∃ (l_6 : List D), ∃ (l_7 : List D), rs = [D.agg [D.int IntKind.i64 n_6, D.str s_3, D.int IntKind.i64 n_7, D.sl l, D.sl l_6, D.sl l_7]]
    ∧ PFn Tryd.prog (GG M) (23 : Nat) [D.agg [D.int IntKind.i64 n_6, D.str s_3, D.int IntKind.i64 n_7, D.sl l, D.sl l_6, D.sl l_7]] fun (rs : List D) => ∃ (n_8 : Int), ∃ (s_4 : List UInt8),
    ∃ (n_9 : Int), ∃ (l : List D), ∃ (l_8 : List D), ∃ (l_9 : List D), ∃ (n_10 : Int), rs = [D.agg [D.int IntKind.i64 n_8, D.str s_4, D.int IntKind.i64 n_9, D.sl l, D.sl l_8, D.sl l_9],
    D.int IntKind.i64 n_10] ∧ ((bif (↑(List.length (List.filter (fun (x : Nm) => !x == nm) (List.take x (Fm.free f)))) : Int) != (↑(List.length l_1) : Int) then true else bif n_5 != (0 :
    Int) then n_3 != (0 : Int) else false) = true → [D.bool false] = [D.bool true]) ∧ ((bif (↑(List.length (List.filter (fun (x : Nm) => !x == nm) (List.take x (Fm.free f)))) : Int) !=
    (↑(List.length l_1) : Int) then true else bif n_5 != (0 : Int) then n_3 != (0 : Int) else false) = false → ((n_5 == (0 : Int)) = true ∧ (bif n_3 != (15 : Int) then true else
    (↑(List.length l_4) : Int) != (1 : Int)) = false → (0 : Int) ≤ (0 : Int) ∧ l_4[Int.toNat (0 : Int)]? = some (aggAt [Sh.str, Sh.int IntKind.i64] l_4 (Int.toNat (0 : Int)))) ∧ ((n_5 == (0
    : Int)) = true ∧ (bif n_3 != (15 : Int) then true else (↑(List.length l_4) : Int) != (1 : Int)) = false → (0 : Int) ≤ (0 : Int) ∧ some (D.agg [D.str nm, D.int IntKind.i64 s]) = some
    (aggAt [Sh.str, Sh.int IntKind.i64] [D.agg [D.str nm, D.int IntKind.i64 s]] (Int.toNat (0 : Int)))) ∧ ((bif n_5 == (0 : Int) then bif bif n_3 != (15 : Int) then true else (↑(List.length
    l_4) : Int) != (1 : Int) then true else !(fun (r : Bool) => D.toStr (Option.getD (cellAt l_4 (Int.toNat (0 : Int)) (0 : Nat)) default) == D.toStr (Option.getD (cellAt [D.agg [D.str nm,
    D.int IntKind.i64 s]] (Int.toNat (0 : Int)) (0 : Nat)) default) && r) ((fun (r : Bool) => D.toInt (Option.getD (cellAt l_4 (Int.toNat (0 : Int)) ((0 : Nat) + (1 : Nat))) default) ==
    D.toInt (Option.getD (cellAt [D.agg [D.str nm, D.int IntKind.i64 s]] (Int.toNat (0 : Int)) ((0 : Nat) + (1 : Nat))) default) && r) true) else false) = true → [D.bool false] = [D.bool
    true]) ∧ ((bif n_5 == (0 : Int) then bif bif n_3 != (15 : Int) then true else (↑(List.length l_4) : Int) != (1 : Int) then true else !(fun (r : Bool) => D.toStr (Option.getD (cellAt l_4
    (Int.toNat (0 : Int)) (0 : Nat)) default) == D.toStr (Option.getD (cellAt [D.agg [D.str nm, D.int IntKind.i64 s]] (Int.toNat (0 : Int)) (0 : Nat)) default) && r) ((fun (r : Bool) =>
    D.toInt (Option.getD (cellAt l_4 (Int.toNat (0 : Int)) ((0 : Nat) + (1 : Nat))) default) == D.toInt (Option.getD (cellAt [D.agg [D.str nm, D.int IntKind.i64 s]] (Int.toNat (0 : Int)) ((0
    : Nat) + (1 : Nat))) default) && r) true) else false) = false → [D.bool (bif bif n_10 != (0 : Int) then true else bif n == (0 : Int) then n_8 == (2 : Int) else false then true else bif
    bif decide (n > (0 : Int)) then n_8 == (17 : Int) else false then n_9 == IntKind.wrap IntKind.i64 (n - (1 : Int)) else false)] = [D.bool true]))))))
  · kernel_rfl
  refine (fn11 hM).mono ?_
  rintro rs rfl
  refine ⟨_, rfl, fun h => (by cases h), fun _ => ?_⟩
  refine h12.mono ?_
  rintro rs rfl
  refine ⟨_, rfl, fun _ => rfl, fun _ => ?_⟩
  refine h19.mono ?_
  rintro rs rfl
  refine ⟨_, rfl, ?_⟩
  refine h19a.mono ?_
  rintro rs rfl
  have hfl := f.free_len
  refine ⟨_, rfl, 0, by omega, by simp, fun x hx => ⟨fun hlt => ?_, fun hge => ?_⟩⟩
  · simp only [List.length_map, decide_eq_true_eq] at hlt
    obtain ⟨z, hz, hm⟩ := get_nat (l := f.free) (x := x) (by omega)
    have hkl : ((f.free.take x).filter (fun x => !(x == nm))).length ≤ x := Nat.le_trans (List.length_filter_le _ _) (by rw [List.length_take]; omega)
    rw [Int.toNat_natCast, cell_str hz]
    have e2 : D.toStr (Option.getD (some (D.str z)) default) = z := rfl
    have hget : (List.map D.str f.free)[x]? = some (D.str z) := by simp [hz]
    have hs := filter_take_succ (p := fun x => !(x == nm)) hz
    rw [e2]
    refine ⟨⟨by omega, hget⟩, fun h => ⟨x + 1, by omega, by omega, ?_⟩, fun h => ?_⟩
    · rw [hs, h, wrap64 (by omega) (by omega)]; simp
    · have hm2 := filter_at (p := fun x => !(x == nm)) hz (by simp only [h]; rfl)
      have hm3 : (allF nm s f).free[((f.free.take x).filter (fun x => !(x == nm))).length]? = some z := by rw [all_free]; exact hm2
      have hk : ((f.free.take x).filter (fun x => !(x == nm))).length < (allF nm s f).free.length := by
        rcases Nat.lt_or_ge ((f.free.take x).filter (fun x => !(x == nm))).length (allF nm s f).free.length with h' | h'
        · exact h'
        · rw [List.getElem?_eq_none h'] at hm3; cases hm3
      have g1 : decide ((((f.free.take x).filter (fun x => !(x == nm))).length : Int) ≥ ((List.map D.str (allF nm s f).free).length : Int)) = false := by simp only [List.length_map]; exact decide_eq_false (by omega)
      rw [g1, Int.toNat_natCast, cell_str hm3, e2]
      refine ⟨fun _ => ⟨by omega, by simp [hm3]⟩, fun _ => ⟨by omega, hget⟩, fun h => ?_, fun _ => ⟨x + 1, by omega, by omega, ?_⟩⟩
      · simp at h
      · rw [hs, h, wrap64 (n := (x : Int) + 1) (by omega) (by omega), wrap64 (by omega) (by omega)]; simp
  · simp only [List.length_map, decide_eq_false_iff_not] at hge
    rw [List.take_of_length_le (by omega : f.free.length ≤ x), ← all_free nm s f]
    refine h27a.mono ?_
    rintro rs rfl
    refine ⟨_, _, _, _, _, _, congrArg (fun z => [z]) (Fm.d_eq _), ?_⟩
    refine h23a.mono ?_
    rintro rs rfl
    refine ⟨_, _, _, _, _, _, _, congrArg (fun z => [z, D.int IntKind.i64 (allF nm s f).not.checkI]) (Fm.d_eq _), ?_⟩
    refine h27l.mono ?_
    rintro rs rfl
    refine ⟨_, _, _, _, _, _, congrArg (fun z => [z]) (Fm.d_eq _), ?_⟩
    refine h23l.mono ?_
    rintro rs rfl
    refine ⟨_, _, _, _, _, _, _, congrArg (fun z => [z, D.int IntKind.i64 (leastF nm s n f).not.checkI]) (Fm.d_eq _), ?_⟩
    have hfin : [D.bool (bif bif (leastF nm s n f).not.checkI != 0 then true else bif n == 0 then (leastF nm s n f).not.nnf.kind == 2 else false then true else bif bif decide (n > 0) then (leastF nm s n f).not.nnf.kind == 17 else false then (leastF nm s n f).not.nnf.n == IntKind.i64.wrap (n - 1) else false)] = [D.bool true] := by
      by_cases h : (leastF nm s n f).not.checkI = 0
      · have hb := checkI_form h
        rw [not_formB] at hb
        obtain ⟨n0, n1⟩ := count_least hb
        have e : (leastF nm s n f).not.nnf = if n = 0 then .mk 2 [] 0 [] [] [] else .mk 17 [] (n - 1) [] [⟨nm, s⟩] [f.right false] := by rw [nnf_ok h, not_right, leastF, right_least]; rfl
        rw [h, e]
        by_cases hz : n = 0
        · subst hz; rfl
        · have g1 : (n == 0) = false := by simpa using hz
          have g2 : decide (n > 0) = true := decide_eq_true (by omega)
          rw [if_neg hz, g1, g2, wrap64 (by omega) (by omega)]
          simp [Fm.kind, Fm.n]
      · have g1 : ((leastF nm s n f).not.checkI != 0) = true := by simpa using h
        rw [g1]; rfl
    have kA : (bif (allF nm s f).not.checkI != 0 then (allF nm s f).not.nnf.kind != 0 else false) = false := by
      by_cases h : (allF nm s f).not.checkI = 0
      · rw [h]; rfl
      · rw [nnf_no h]; simp [nil0, Fm.kind]
    rw [List.length_map (f := D.str), bne_self_eq_false, kA]
    refine ⟨fun h => (by cases h), fun _ => ?_⟩
    by_cases h : (allF nm s f).not.checkI = 0
    · have e : (allF nm s f).not.nnf = .mk 15 [] 0 [] [⟨nm, s⟩] [f.right true] := by rw [nnf_ok h, not_right, allF, right_all]; rfl
      rw [h, e]
      refine ⟨fun _ => ⟨by omega, rfl⟩, fun _ => ⟨by omega, rfl⟩, fun h => ?_, fun _ => hfin⟩
      simp [Fm.kind, Fm.bs, cellAt, Bd.d, D.cells, D.toStr, D.toInt] at h
    · have g2 : ((allF nm s f).not.checkI == 0) = false := by simpa using h
      rw [g2]
      exact ⟨fun h => (by cases h.1), fun h => (by cases h.1), fun h => (by cases h), fun _ => hfin⟩
end
end Go.Fo
/- Law 8 as a contract. -/
namespace Go.Fo
open Go Go.Sx Go.Proofs
set_option maxRecDepth 100000
set_option maxHeartbeats 0

theorem wrap_ne (n : Int) : IntKind.wrap IntKind.i64 (n + 1) ≠ n := by
  simp only [IntKind.wrap]
  simp [IntKind.signed, IntKind.bits]
  omega
theorem cellsT (l : List Tm) : ((l.map Tm.d).all fun d => d.cells.length == 3) = true := by
  rw [List.all_eq_true]
  intro d hd
  obtain ⟨t, _, rfl⟩ := List.mem_map.1 hd
  rfl
theorem cellsF (l : List Fm) : ((l.map Fm.d).all fun d => d.cells.length == 6) = true := by
  rw [List.all_eq_true]
  intro d hd
  obtain ⟨t, _, rfl⟩ := List.mem_map.1 hd
  rw [t.d_eq]; rfl
theorem mk_d (k : Int) (nm : Nm) (n : Int) (ts : List Tm) (bs : List Bd) (l : List Fm) : (Fm.mk k nm n ts bs l).d = .agg [.int .i64 k, .str nm, .int .i64 n, .sl (ts.map Tm.d), .sl (bs.map Bd.d), .sl (l.map Fm.d)] := Fm.d_mk _ _ _ _ _ _
theorem mk_ne {f : Fm} {k : Int} {nm : Nm} {n : Int} {ts : List Tm} {bs : List Bd} {l : List Fm} (h : f.kind ≠ k ∨ f.name ≠ nm ∨ f.n ≠ n ∨ f.ts ≠ ts ∨ f.l ≠ l) : f ≠ .mk k nm n ts bs l := by
  rintro rfl
  rcases h with h | h | h | h | h <;> exact h rfl
theorem wts_app (a b : List Fm) : Fm.wts (a ++ b) = Fm.wts a + Fm.wts b := by
  induction a with
  | nil => simp [Fm.wts]
  | cons x r ih => simp only [List.cons_append, Fm.wts, ih]; omega

section
variable {M : Maps}
theorem fn10 (hM : M.Ok) (f g : Fm) (t : Tm) (hf : f.wt ≤ 1048576) (hg : g.wt ≤ 1048576) : PFn Tryd.prog (GG M) 10 [f.d, g.d, t.d] (· = [.bool true]) := by
  have rf := f.rank_le_wt
  have rg := g.rank_le_wt
  have wf := f.wt_eq
  have wg := g.wt_eq
  have wl := wts_len f.l
  have h12f := fn12 (G := GG M) f (by omega)
  have h12g := fn12 (G := GG M) g (by omega)
  have ha := fn21 (G := GG M) f (by omega) (.mk (IntKind.wrap IntKind.i64 (f.kind + 1)) f.name f.n f.ts f.bs f.l)
  have hb := fn21 (G := GG M) f (by omega) (.mk f.kind (f.name ++ [120]) f.n f.ts f.bs f.l)
  have hc := fn21 (G := GG M) (.mk f.kind f.name (IntKind.wrap IntKind.i64 (f.n + 1)) f.ts f.bs f.l) (by rw [Fm.wt_eq]; show 1 + f.name.length + f.ts.length + f.bs.length + sumT f.ts + sumB f.bs + Fm.wts f.l < _; omega) f
  have hd := fn21 (G := GG M) f (by omega) (.mk f.kind f.name f.n (f.ts ++ [t]) f.bs f.l)
  have hh := fn21 (G := GG M) (.mk f.kind f.name f.n f.ts f.bs (f.l ++ [g])) (by rw [Fm.wt_eq]; show 1 + f.name.length + f.ts.length + f.bs.length + sumT f.ts + sumB f.bs + Fm.wts (f.l ++ [g]) < _; rw [wts_app]; simp only [Fm.wts]; omega) f
  have hfg := fn21 (G := GG M) f (by omega) g
  have hgf := fn21 (G := GG M) g (by omega) f
  have h15f := fn15 (G := GG M) f (by omega)
  have h15g := fn15 (G := GG M) g (by omega)
  have h17f := fn17 (G := GG M) f (by omega)
  have h17g := fn17 (G := GG M) g (by omega)
  have h13f := fn13 hM f (by omega)
  have h13g := fn13 hM g (by omega)
  have h19f := fn19 (G := GG M) f (by omega)
  have h19g := fn19 (G := GG M) g (by omega)
  have eg : (f.l ++ [g]).map Fm.d = f.l.map Fm.d ++ [D.agg (fmCells g)] := by simp [d_cells]
  have et : (f.ts ++ [t]).map Tm.d = f.ts.map Tm.d ++ [t.d] := by simp
  rw [mk_d, d_cells f] at ha hb hc
  rw [mk_d, et, d_cells f] at hd
  rw [mk_d, eg, d_cells f] at hh
  rw [d_cells f, d_cells g] at hfg hgf
  rw [d_cells f] at h12f h15f h17f h13f h19f ⊢
  rw [d_cells g] at h12g h15g h17g h13g h19g ⊢
  refine PFn.walk (fn := Tryd.f10) (code := bodyOf Tryd.f10) mixed L0 Tryd.func10 (by kernel_rfl) ⟨_, rfl⟩ (ok0 (by kernel_rfl)) ?_
  apply @of_vc _ (
    PFn Tryd.prog (GG M) (11 : Nat) [] fun (rs : List D) => ∃ (b : Bool), rs = [D.bool b] ∧ ((!b) = true → [D.bool false] = [D.bool true]) ∧ ((!b) = false → PFn Tryd.prog (GG M) (12 : Nat)
    [D.agg [D.int IntKind.i64 (Fm.kind f), D.str (Fm.name f), D.int IntKind.i64 (Fm.n f), D.sl (List.map Tm.d (Fm.ts f)), D.sl (List.map Bd.d (Fm.bs f)), D.sl (List.map Fm.d (Fm.l f))]] fun
    (rs : List D) => ∃ (b : Bool), rs = [D.bool b] ∧ PFn Tryd.prog (GG M) (12 : Nat) [D.agg [D.int IntKind.i64 (Fm.kind g), D.str (Fm.name g), D.int IntKind.i64 (Fm.n g), D.sl (List.map Tm.d
    (Fm.ts g)), D.sl (List.map Bd.d (Fm.bs g)), D.sl (List.map Fm.d (Fm.l g))]] fun (rs : List D) => ∃ (b_1 : Bool), rs = [D.bool b_1] ∧ ((bif !b then true else !b_1) = true → [D.bool true]
    = [D.bool true]) ∧ ((bif !b then true else !b_1) = false → Nat.le (List.length (Fm.name f) + List.length (Array.toList (ByteArray.data (ByteArray.mk #[(120 : UInt8)]))))
    (9223372036854775807 : Nat) ∧ FA [] (List.map Tm.d (Fm.ts f)) (nat_lit 3) (nat_lit 32) ∧ (List.length (List.reverse ([] : List D)) + List.length (List.map Tm.d (Fm.ts f)) = List.length
    (List.reverse ([] : List D) ++ List.map Tm.d (Fm.ts f)) ∧ (3 : Nat) = (3 : Nat) ∧ FA (List.reverse ([] : List D) ++ List.map Tm.d (Fm.ts f)) [D.agg [D.int IntKind.i64 (Tm.kind t), D.str
    (Tm.name t), D.int IntKind.i64 (Tm.n t)]] (nat_lit 3) (nat_lit 32)) ∧ FA [] (List.map Fm.d (Fm.l f)) (nat_lit 6) (nat_lit 104) ∧ (List.length (List.reverse ([] : List D)) + List.length
    (List.map Fm.d (Fm.l f)) = List.length (List.reverse ([] : List D) ++ List.map Fm.d (Fm.l f)) ∧ (6 : Nat) = (6 : Nat) ∧ FA (List.reverse ([] : List D) ++ List.map Fm.d (Fm.l f)) [D.agg
    [D.int IntKind.i64 (Fm.kind g), D.str (Fm.name g), D.int IntKind.i64 (Fm.n g), D.sl (List.map Tm.d (Fm.ts g)), D.sl (List.map Bd.d (Fm.bs g)), D.sl (List.map Fm.d (Fm.l g))]] (nat_lit 6)
    (nat_lit 104)) ∧ PFn Tryd.prog (GG M) (21 : Nat) [D.agg [D.int IntKind.i64 (Fm.kind f), D.str (Fm.name f), D.int IntKind.i64 (Fm.n f), D.sl (List.map Tm.d (Fm.ts f)), D.sl (List.map Bd.d
    (Fm.bs f)), D.sl (List.map Fm.d (Fm.l f))], D.agg [D.int IntKind.i64 (IntKind.wrap IntKind.i64 (Fm.kind f + (1 : Int))), D.str (Fm.name f), D.int IntKind.i64 (Fm.n f), D.sl (List.map
    Tm.d (Fm.ts f)), D.sl (List.map Bd.d (Fm.bs f)), D.sl (List.map Fm.d (Fm.l f))]] fun (rs : List D) => ∃ (b : Bool), rs = [D.bool b] ∧ PFn Tryd.prog (GG M) (21 : Nat) [D.agg [D.int
    IntKind.i64 (Fm.kind f), D.str (Fm.name f), D.int IntKind.i64 (Fm.n f), D.sl (List.map Tm.d (Fm.ts f)), D.sl (List.map Bd.d (Fm.bs f)), D.sl (List.map Fm.d (Fm.l f))], D.agg [D.int
    IntKind.i64 (Fm.kind f), D.str (Fm.name f ++ Array.toList (ByteArray.data (ByteArray.mk #[(120 : UInt8)]))), D.int IntKind.i64 (Fm.n f), D.sl (List.map Tm.d (Fm.ts f)), D.sl (List.map
    Bd.d (Fm.bs f)), D.sl (List.map Fm.d (Fm.l f))]] fun (rs : List D) => ∃ (b_2 : Bool), rs = [D.bool b_2] ∧ PFn Tryd.prog (GG M) (21 : Nat) [D.agg [D.int IntKind.i64 (Fm.kind f), D.str
    (Fm.name f), D.int IntKind.i64 (IntKind.wrap IntKind.i64 (Fm.n f + (1 : Int))), D.sl (List.map Tm.d (Fm.ts f)), D.sl (List.map Bd.d (Fm.bs f)), D.sl (List.map Fm.d (Fm.l f))], D.agg
    [D.int IntKind.i64 (Fm.kind f), D.str (Fm.name f), D.int IntKind.i64 (Fm.n f), D.sl (List.map Tm.d (Fm.ts f)), D.sl (List.map Bd.d (Fm.bs f)), D.sl (List.map Fm.d (Fm.l f))]] fun (rs :
    List D) => ∃ (b_3 : Bool), rs = [D.bool b_3] ∧ PFn Tryd.prog (GG M) (21 : Nat) [D.agg [D.int IntKind.i64 (Fm.kind f), D.str (Fm.name f), D.int IntKind.i64 (Fm.n f), D.sl (List.map Tm.d
    (Fm.ts f)), D.sl (List.map Bd.d (Fm.bs f)), D.sl (List.map Fm.d (Fm.l f))], D.agg [D.int IntKind.i64 (Fm.kind f), D.str (Fm.name f), D.int IntKind.i64 (Fm.n f), D.sl (List.reverse ([] :
    List D) ++ List.map Tm.d (Fm.ts f) ++ List.reverse [D.agg (List.reverse [D.int IntKind.i64 (Tm.n t), D.str (Tm.name t), D.int IntKind.i64 (Tm.kind t)])]), D.sl (List.map Bd.d (Fm.bs f)),
    D.sl (List.map Fm.d (Fm.l f))]] fun (rs : List D) => ∃ (b_4 : Bool), rs = [D.bool b_4] ∧ PFn Tryd.prog (GG M) (21 : Nat) [D.agg [D.int IntKind.i64 (Fm.kind f), D.str (Fm.name f), D.int
    IntKind.i64 (Fm.n f), D.sl (List.map Tm.d (Fm.ts f)), D.sl (List.map Bd.d (Fm.bs f)), D.sl (List.reverse ([] : List D) ++ List.map Fm.d (Fm.l f) ++ List.reverse [D.agg (List.reverse
    [D.sl (List.map Fm.d (Fm.l g)), D.sl (List.map Bd.d (Fm.bs g)), D.sl (List.map Tm.d (Fm.ts g)), D.int IntKind.i64 (Fm.n g), D.str (Fm.name g), D.int IntKind.i64 (Fm.kind g)])])], D.agg
    [D.int IntKind.i64 (Fm.kind f), D.str (Fm.name f), D.int IntKind.i64 (Fm.n f), D.sl (List.map Tm.d (Fm.ts f)), D.sl (List.map Bd.d (Fm.bs f)), D.sl (List.map Fm.d (Fm.l f))]] fun (rs :
    List D) => ∃ (b_5 : Bool), rs = [D.bool b_5] ∧ ((bif bif bif bif b then true else b_2 then true else b_3 then true else b_4 then true else b_5) = true → [D.bool false] = [D.bool true]) ∧
    ((bif bif bif bif b then true else b_2 then true else b_3 then true else b_4 then true else b_5) = false → PFn Tryd.prog (GG M) (21 : Nat) [D.agg [D.int IntKind.i64 (Fm.kind f), D.str
    (Fm.name f), D.int IntKind.i64 (Fm.n f), D.sl (List.map Tm.d (Fm.ts f)), D.sl (List.map Bd.d (Fm.bs f)), D.sl (List.map Fm.d (Fm.l f))], D.agg [D.int IntKind.i64 (Fm.kind g), D.str
    (Fm.name g), D.int IntKind.i64 (Fm.n g), D.sl (List.map Tm.d (Fm.ts g)), D.sl (List.map Bd.d (Fm.bs g)), D.sl (List.map Fm.d (Fm.l g))]] fun (rs : List D) => ∃ (b : Bool), rs = [D.bool
    b] ∧ PFn Tryd.prog (GG M) (21 : Nat) [D.agg [D.int IntKind.i64 (Fm.kind g), D.str (Fm.name g), D.int IntKind.i64 (Fm.n g), D.sl (List.map Tm.d (Fm.ts g)), D.sl (List.map Bd.d (Fm.bs g)),
    D.sl (List.map Fm.d (Fm.l g))], D.agg [D.int IntKind.i64 (Fm.kind f), D.str (Fm.name f), D.int IntKind.i64 (Fm.n f), D.sl (List.map Tm.d (Fm.ts f)), D.sl (List.map Bd.d (Fm.bs f)), D.sl
    (List.map Fm.d (Fm.l f))]] fun (rs : List D) => ∃ (b_6 : Bool), rs = [D.bool b_6] ∧ PFn Tryd.prog (GG M) (21 : Nat) [D.agg [D.int IntKind.i64 (Fm.kind f), D.str (Fm.name f), D.int
    IntKind.i64 (Fm.n f), D.sl (List.map Tm.d (Fm.ts f)), D.sl (List.map Bd.d (Fm.bs f)), D.sl (List.map Fm.d (Fm.l f))], D.agg [D.int IntKind.i64 (Fm.kind g), D.str (Fm.name g), D.int
    IntKind.i64 (Fm.n g), D.sl (List.map Tm.d (Fm.ts g)), D.sl (List.map Bd.d (Fm.bs g)), D.sl (List.map Fm.d (Fm.l g))]] fun (rs : List D) => ∃ (b_7 : Bool), rs = [D.bool b_7] ∧ PFn
    Tryd.prog (GG M) (15 : Nat) [D.agg [D.int IntKind.i64 (Fm.kind f), D.str (Fm.name f), D.int IntKind.i64 (Fm.n f), D.sl (List.map Tm.d (Fm.ts f)), D.sl (List.map Bd.d (Fm.bs f)), D.sl
    (List.map Fm.d (Fm.l f))]] fun (rs : List D) => ∃ (n : Int), rs = [D.int IntKind.i64 n] ∧ PFn Tryd.prog (GG M) (15 : Nat) [D.agg [D.int IntKind.i64 (Fm.kind g), D.str (Fm.name g), D.int
    IntKind.i64 (Fm.n g), D.sl (List.map Tm.d (Fm.ts g)), D.sl (List.map Bd.d (Fm.bs g)), D.sl (List.map Fm.d (Fm.l g))]] fun (rs : List D) => ∃ (n_1 : Int), rs = [D.int IntKind.i64 n_1] ∧
    PFn Tryd.prog (GG M) (17 : Nat) [D.agg [D.int IntKind.i64 (Fm.kind f), D.str (Fm.name f), D.int IntKind.i64 (Fm.n f), D.sl (List.map Tm.d (Fm.ts f)), D.sl (List.map Bd.d (Fm.bs f)), D.sl
    (List.map Fm.d (Fm.l f))]] fun (rs : List D) => ∃ (n_2 : Int), rs = [D.int IntKind.i64 n_2] ∧ PFn Tryd.prog (GG M) (17 : Nat) [D.agg [D.int IntKind.i64 (Fm.kind g), D.str (Fm.name g),
    D.int IntKind.i64 (Fm.n g), D.sl (List.map Tm.d (Fm.ts g)), D.sl (List.map Bd.d (Fm.bs g)), D.sl (List.map Fm.d (Fm.l g))]] fun (rs : List D) => ∃ (n_3 : Int), rs = [D.int IntKind.i64
    n_3] ∧ PFn Tryd.prog (GG M) (13 : Nat) [D.agg [D.int IntKind.i64 (Fm.kind f), D.str (Fm.name f), D.int IntKind.i64 (Fm.n f), D.sl (List.map Tm.d (Fm.ts f)), D.sl (List.map Bd.d (Fm.bs
    f)), D.sl (List.map Fm.d (Fm.l f))]] fun (rs : List D) => ∃ (n_4 : Int), rs = [D.int IntKind.i64 n_4] ∧ PFn Tryd.prog (GG M) (13 : Nat) [D.agg [D.int IntKind.i64 (Fm.kind g), D.str
    (Fm.name g), D.int IntKind.i64 (Fm.n g), D.sl (List.map Tm.d (Fm.ts g)), D.sl (List.map Bd.d (Fm.bs g)), D.sl (List.map Fm.d (Fm.l g))]] fun (rs : List D) => ∃ (n_5 : Int), rs = [D.int
    IntKind.i64 n_5] ∧ PFn Tryd.prog (GG M) (19 : Nat) [D.agg [D.int IntKind.i64 (Fm.kind f), D.str (Fm.name f), D.int IntKind.i64 (Fm.n f), D.sl (List.map Tm.d (Fm.ts f)), D.sl (List.map
    Bd.d (Fm.bs f)), D.sl (List.map Fm.d (Fm.l f))]] fun (rs : List D) => ∃ (l : List D), rs = [D.sl l] ∧ PFn Tryd.prog (GG M) (19 : Nat) [D.agg [D.int IntKind.i64 (Fm.kind g), D.str
    (Fm.name g), D.int IntKind.i64 (Fm.n g), D.sl (List.map Tm.d (Fm.ts g)), D.sl (List.map Bd.d (Fm.bs g)), D.sl (List.map Fm.d (Fm.l g))]] fun (rs : List D) => ∃ (l_1 : List D), rs = [D.sl
    l_1] ∧ [D.bool (bif b == b_6 then bif !b_7 then true else bif bif bif n == n_1 then n_2 == n_3 else false then n_4 == n_5 else false then (↑(List.length l) : Int) == (↑(List.length l_1)
    : Int) else false else false)] = [D.bool true]))))
  · kernel_rfl
  refine (fn11 hM).mono ?_
  rintro rs rfl
  refine ⟨_, rfl, fun h => (by cases h), fun _ => ?_⟩
  refine h12f.mono ?_
  rintro rs rfl
  refine ⟨_, rfl, ?_⟩
  refine h12g.mono ?_
  rintro rs rfl
  refine ⟨_, rfl, fun _ => rfl, fun _ => ?_⟩
  have c1 := cellsT f.ts
  have c2 := cellsF f.l
  refine ⟨?_, ⟨?_, ?_⟩, ⟨?_, rfl, ?_, ?_⟩, ⟨?_, ?_⟩, ⟨?_, rfl, ?_, ?_⟩, ?_⟩
  · show f.name.length + 1 ≤ _; omega
  · simpa using c1
  · simp; omega
  · simp
  · simpa [D.cells] using c1
  · simp; omega
  · simpa using c2
  · simp; omega
  · simp
  · simpa [D.cells] using c2
  · simp; omega
  refine ha.mono ?_
  rintro rs rfl
  refine ⟨_, rfl, ?_⟩
  refine hb.mono ?_
  rintro rs rfl
  refine ⟨_, rfl, ?_⟩
  refine hc.mono ?_
  rintro rs rfl
  refine ⟨_, rfl, ?_⟩
  refine hd.mono ?_
  rintro rs rfl
  refine ⟨_, rfl, ?_⟩
  refine hh.mono ?_
  rintro rs rfl
  have na := beq_ne (mk_ne (f := f) (nm := f.name) (n := f.n) (ts := f.ts) (bs := f.bs) (l := f.l) (.inl (wrap_ne f.kind).symm))
  have nb := beq_ne (mk_ne (f := f) (k := f.kind) (n := f.n) (ts := f.ts) (bs := f.bs) (l := f.l) (.inr (.inl (show f.name ≠ f.name ++ [120] by simp))))
  have nc := beq_ne (mk_ne (f := f) (k := f.kind) (nm := f.name) (ts := f.ts) (bs := f.bs) (l := f.l) (.inr (.inr (.inl (wrap_ne f.n).symm))))
  have nd := beq_ne (mk_ne (f := f) (k := f.kind) (nm := f.name) (n := f.n) (bs := f.bs) (l := f.l) (.inr (.inr (.inr (.inl (show f.ts ≠ f.ts ++ [t] by simp))))))
  have nh := beq_ne (mk_ne (f := f) (k := f.kind) (nm := f.name) (n := f.n) (ts := f.ts) (bs := f.bs) (.inr (.inr (.inr (.inr (show f.l ≠ f.l ++ [g] by simp))))))
  rw [beq_comm] at nc nh
  rw [na, nb, nc, nd, nh]
  refine ⟨_, rfl, fun h => (by cases h), fun _ => ?_⟩
  refine hfg.mono ?_
  rintro rs rfl
  refine ⟨_, rfl, ?_⟩
  refine hgf.mono ?_
  rintro rs rfl
  refine ⟨_, rfl, ?_⟩
  refine hfg.mono ?_
  rintro rs rfl
  refine ⟨_, rfl, ?_⟩
  refine h15f.mono ?_
  rintro rs rfl
  refine ⟨_, rfl, ?_⟩
  refine h15g.mono ?_
  rintro rs rfl
  refine ⟨_, rfl, ?_⟩
  refine h17f.mono ?_
  rintro rs rfl
  refine ⟨_, rfl, ?_⟩
  refine h17g.mono ?_
  rintro rs rfl
  refine ⟨_, rfl, ?_⟩
  refine h13f.mono ?_
  rintro rs rfl
  refine ⟨_, rfl, ?_⟩
  refine h13g.mono ?_
  rintro rs rfl
  refine ⟨_, rfl, ?_⟩
  refine h19f.mono ?_
  rintro rs rfl
  refine ⟨_, rfl, ?_⟩
  refine h19g.mono ?_
  rintro rs rfl
  refine ⟨_, rfl, ?_⟩
  rw [beq_comm g f]
  cases hb : f.beq g with
  | false => rfl
  | true =>
    obtain rfl := (beq_eq_iff f g).1 hb
    simp
end
end Go.Fo
