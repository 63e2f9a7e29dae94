/- Joined texts: the walk by computed conditions, the contracts of the functions, the plain laws. -/
import Derived.Test.YtkaadmkjjfcakaaDoorP4
import Derived.Test.YtkaadmkjjfcakaaDoorP3
import Derived.Test.YtkaadmkjjfcakaaDoorRows
import Derived.ChangeArms
import Derived.Deep.Slices
import Derived.WideKeyElems2
import Derived.WideKeyArgs2
import Derived.MakeChecks
import Derived.FnData
import Derived.Carry
import Derived.OpenShut
import Derived.WideShapes
import Derived.RowKit
import Derived.LaidMore
import Derived.Deep.DeepHandedRow
import Derived.Deep.DeepWitnessRowRef
import Derived.Test.YtkaadmkjjfcakaaDoorCards
import Derived.Test.YtkaadmkjjfcakaaDoorTie
import Derived.ProofKit
/- Nnf; the sanity check. -/
namespace Go.Fo
open Go Go.Sx Go.Proofs
set_option maxRecDepth 100000
set_option maxHeartbeats 0

def Fm.nnf (f : Fm) : Fm := if f.checkI = 0 then f.right false else nil0
theorem checkI_form {f : Fm} (h : f.checkI = 0) : f.formB = true := by
  unfold Fm.checkI at h
  split at h
  · assumption
  · cases h
theorem nil0_d : nil0.d = .agg [.int .i64 0, .str [], .int .i64 0, .sl [], .sl [], .sl []] := by rw [nil0, Fm.d_mk]; rfl

theorem beq_refl (f : Fm) : f.beq f = true := by
  induction f using Fm.induct with
  | h f ih =>
  rw [beq_parts]
  refine ⟨rfl, rfl, rfl, rfl, rfl, ?_⟩
  have : ∀ l : List Fm, (∀ x ∈ l, x.beq x = true) → Fm.beqs l l = true := by
    intro l
    induction l with
    | nil => intro _; rw [Fm.beqs]
    | cons x r ihr => intro h; rw [Fm.beqs, h x (by simp), ihr fun y hy => h y (by simp [hy])]; rfl
  exact this f.l ih

/-- The weight of a normal form. -/
theorem turn_len (s : Nm) : (turnS s).length ≤ 2 := by unfold turnS; repeat (first | (split; · simp) | simp)
theorem right_wt (f : Fm) (hb : f.formB = true) : ∀ t, (f.right t).wt ≤ 3 * f.wt := by
  induction f using Fm.induct with
  | h f ih =>
  intro t
  have hs := formB_shape hb
  cases hs with
  | const k hk => rcases hk with rfl | rfl <;> cases t <;> simp [right_const1, right_const2, Fm.wt, Fm.wts, sumT, sumB]
  | atom k a b hk ha hb ha2 hb2 => rw [right_atom a b hk]; cases t <;> simp [Fm.wt, Fm.wts, sumT, sumB] <;> omega
  | cmp s a b hs ha hb =>
    have := turn_len s
    rw [right_cmp]; cases t <;> simp [Fm.wt, Fm.wts, sumT, sumB] <;> omega
  | not x hx => rw [right_not]; have := ih x (by simp [Fm.l]) hx (!t); simp [Fm.wt, Fm.wts, sumT, sumB] at this ⊢; omega
  | two k x y hk hx hy =>
    have h1 := ih x (by simp [Fm.l]) hx
    have h2 := ih y (by simp [Fm.l]) hy
    have a1 := h1 t; have a2 := h1 (!t); have b1 := h2 t
    rcases hk with rfl | rfl | rfl
    · rw [right_and]; simp [Fm.wt, Fm.wts, sumT, sumB] at *; omega
    · rw [right_or]; simp [Fm.wt, Fm.wts, sumT, sumB] at *; omega
    · rw [right_imp]; simp [Fm.wt, Fm.wts, sumT, sumB] at *; omega
  | quant k bs x hk hb h1 h6 hx =>
    have a1 := ih x (by simp [Fm.l]) hx t
    rcases hk with rfl | rfl
    · rw [right_all]; simp [Fm.wt, Fm.wts, sumT, sumB] at *; omega
    · rw [right_some]; simp [Fm.wt, Fm.wts, sumT, sumB] at *; omega
  | count k n bs x hk h0 hn hb h1 h6 hx =>
    have a1 := ih x (by simp [Fm.l]) hx false
    rcases hk with rfl | rfl
    · rw [right_least]; split <;> simp [Fm.wt, Fm.wts, sumT, sumB] at * <;> omega
    · rw [right_most]; split <;> simp [Fm.wt, Fm.wts, sumT, sumB] at * <;> omega
theorem nnf_wt (f : Fm) : f.nnf.wt ≤ 3 * f.wt + 1 := by
  unfold Fm.nnf
  split
  · rename_i h; have := right_wt f (checkI_form h) false; omega
  · have : nil0.wt = 1 := by decide
    omega

def vT (c : UInt8) : Tm := ⟨2, [c], 0⟩
def lvIn : Fm := .mk 4 [] 0 [vT 108, vT 114] [] []
def lvAt : Fm := .mk 3 [] 0 [vT 108, vT 115] [] []
def lvLeast : Fm := .mk 16 [] 2 [] [⟨[115], 2⟩] [lvAt]
def lvF : Fm := .mk 10 [] 0 [] [] [.mk 13 [] 0 [] [] [lvIn, lvLeast]]
def lvWant : Fm := .mk 11 [] 0 [] [] [lvIn, .mk 17 [] 1 [] [⟨[115], 2⟩] [lvAt]]
def lvBad : Fm := .mk 4 [] 0 [] [] []

theorem lv1 : lvF.checkI = 0 := by decide +kernel
theorem lv2 : lvF.nnf.beq lvWant = true := by decide +kernel
theorem lv3 : lvF.beq lvWant = false := by decide +kernel
theorem lv4 : lvF.look [] [] = [[108], [114]] := by decide +kernel
theorem lv5 : lvF.rank = 5 := by decide +kernel
theorem lv6 : lvF.depth = 4 := by decide +kernel
theorem lv7 : lvBad.checkI = 1 := by decide +kernel
theorem lv8 : nil0.checkI = 1 := by decide +kernel
theorem lv9 : lvF.wt < 100 := by decide +kernel
theorem lv10 : lvF.nnf.wt < 100 := by decide +kernel

section
variable {M : Maps}
theorem fn23 (hM : M.Ok) (f : Fm) (hf : f.wt < 1099511627776) : PFn Tryd.prog (GG M) 23 [f.d] (· = [f.nnf.d, .int .i64 f.checkI]) := by
  have h13 := fn13 hM f (by omega)
  have h38 := fn38 hM f
  rw [d_cells f] at h13 h38 ⊢
  refine PFn.walk (fn := Tryd.f23) (code := bodyOf Tryd.f23) mixed L0 Tryd.func23 (by kernel_rfl) ⟨_, rfl⟩ (ok0 (by kernel_rfl)) ?_
  apply @of_vc _ (
    PFn Tryd.prog (GG M) (13 : Nat)
     [D.agg [D.int IntKind.i64 (Fm.kind f), D.str (Fm.name f), D.int IntKind.i64 (Fm.n f), D.sl (List.map Tm.d (Fm.ts f)), D.sl (List.map Bd.d (Fm.bs f)), D.sl (List.map Fm.d (Fm.l f))]]
     fun (rs : List D) =>
     ∃ (n : Int),
      rs = [D.int IntKind.i64 n] ∧
       ((n != (0 : Int)) = true →
         [D.agg [D.int IntKind.i64 (0 : Int), D.str (Array.toList (ByteArray.data { data := #[] })), D.int IntKind.i64 (0 : Int), D.sl [], D.sl [], D.sl []], D.int IntKind.i64 n] =
          [Fm.d (Fm.nnf f), D.int IntKind.i64 (Fm.checkI f)]) ∧
        ((n != (0 : Int)) = false →
         PFn Tryd.prog (GG M) (38 : Nat)
          [D.agg [D.int IntKind.i64 (Fm.kind f), D.str (Fm.name f), D.int IntKind.i64 (Fm.n f), D.sl (List.map Tm.d (Fm.ts f)), D.sl (List.map Bd.d (Fm.bs f)), D.sl (List.map Fm.d (Fm.l f))],
           D.bool false]
          fun (rs : List D) =>
          ∃ (n : Int),
           ∃ (s : List UInt8),
            ∃ (n_1 : Int),
             ∃ (l : List D),
              ∃ (l_1 : List D),
               ∃ (l_2 : List D),
                rs = [D.agg [D.int IntKind.i64 n, D.str s, D.int IntKind.i64 n_1, D.sl l, D.sl l_1, D.sl l_2]] ∧
                 [D.agg [D.int IntKind.i64 n, D.str s, D.int IntKind.i64 n_1, D.sl l, D.sl l_1, D.sl l_2], D.int IntKind.i64 (0 : Int)] = [Fm.d (Fm.nnf f), D.int IntKind.i64 (Fm.checkI f)]))
  · kernel_rfl
  refine h13.mono ?_
  rintro rs rfl
  refine ⟨_, rfl, fun h => ?_, fun h => ?_⟩
  · have h' : ¬ f.checkI = 0 := by simpa using h
    rw [Fm.nnf, if_neg h', nil0_d]
  · have h' : f.checkI = 0 := by simpa using h
    refine (h38 (checkI_form h') false).mono ?_
    rintro rs rfl
    refine ⟨_, _, _, _, _, _, congrArg (fun z => [z]) (Fm.d_eq _), ?_⟩
    rw [← Fm.d_eq, Fm.nnf, if_pos h', h']
theorem fn24 (f : Fm) (hf : f.wt < 1099511627776) : PFn Tryd.prog (GG M) 24 [f.d] (· = [f.nnf.d, .int .i64 f.checkI]) := by
  have h13 := fn14 (G := GG M) f (by omega)
  have h38 := fn39 (G := GG M) f
  rw [d_cells f] at h13 h38 ⊢
  refine PFn.walk (fn := Tryd.f24) (code := bodyOf Tryd.f24) mixed L0 Tryd.func24 (by kernel_rfl) ⟨_, rfl⟩ (ok0 (by kernel_rfl)) ?_
  apply @of_vc _ (
    PFn Tryd.prog (GG M) (14 : Nat)
     [D.agg [D.int IntKind.i64 (Fm.kind f), D.str (Fm.name f), D.int IntKind.i64 (Fm.n f), D.sl (List.map Tm.d (Fm.ts f)), D.sl (List.map Bd.d (Fm.bs f)), D.sl (List.map Fm.d (Fm.l f))]]
     fun (rs : List D) =>
     ∃ (n : Int),
      rs = [D.int IntKind.i64 n] ∧
       ((n != (0 : Int)) = true →
         [D.agg [D.int IntKind.i64 (0 : Int), D.str (Array.toList (ByteArray.data { data := #[] })), D.int IntKind.i64 (0 : Int), D.sl [], D.sl [], D.sl []], D.int IntKind.i64 n] =
          [Fm.d (Fm.nnf f), D.int IntKind.i64 (Fm.checkI f)]) ∧
        ((n != (0 : Int)) = false →
         PFn Tryd.prog (GG M) (39 : Nat)
          [D.agg [D.int IntKind.i64 (Fm.kind f), D.str (Fm.name f), D.int IntKind.i64 (Fm.n f), D.sl (List.map Tm.d (Fm.ts f)), D.sl (List.map Bd.d (Fm.bs f)), D.sl (List.map Fm.d (Fm.l f))],
           D.bool false]
          fun (rs : List D) =>
          ∃ (n : Int),
           ∃ (s : List UInt8),
            ∃ (n_1 : Int),
             ∃ (l : List D),
              ∃ (l_1 : List D),
               ∃ (l_2 : List D),
                rs = [D.agg [D.int IntKind.i64 n, D.str s, D.int IntKind.i64 n_1, D.sl l, D.sl l_1, D.sl l_2]] ∧
                 [D.agg [D.int IntKind.i64 n, D.str s, D.int IntKind.i64 n_1, D.sl l, D.sl l_1, D.sl l_2], D.int IntKind.i64 (0 : Int)] = [Fm.d (Fm.nnf f), D.int IntKind.i64 (Fm.checkI f)]))
  · kernel_rfl
  refine h13.mono ?_
  rintro rs rfl
  refine ⟨_, rfl, fun h => ?_, fun h => ?_⟩
  · have h' : ¬ f.checkI = 0 := by simpa using h
    rw [Fm.nnf, if_neg h', nil0_d]
  · have h' : f.checkI = 0 := by simpa using h
    refine (h38 (checkI_form h') false).mono ?_
    rintro rs rfl
    refine ⟨_, _, _, _, _, _, congrArg (fun z => [z]) (Fm.d_eq _), ?_⟩
    rw [← Fm.d_eq, Fm.nnf, if_pos h', h']

theorem fn11 (hM : M.Ok) : PFn Tryd.prog (GG M) 11 [] (· = [.bool true]) := by
  refine PFn.walk (fn := Tryd.f11) (code := bodyOf Tryd.f11) mixed L0 Tryd.func11 (by kernel_rfl) ⟨_, rfl⟩ (ok0 (by kernel_rfl)) ?_
  apply @of_vc _ (
    PFn Tryd.prog (GG M) (28 : Nat) [D.str (Array.toList (ByteArray.data { data := #[(108 : UInt8)] }))] fun (rs : List D) =>
     ∃ (n : Int),
      ∃ (s : List UInt8),
       ∃ (n_1 : Int),
        rs = [D.agg [D.int IntKind.i64 n, D.str s, D.int IntKind.i64 n_1]] ∧
         PFn Tryd.prog (GG M) (28 : Nat) [D.str (Array.toList (ByteArray.data { data := #[(114 : UInt8)] }))] fun (rs : List D) =>
          ∃ (n_2 : Int),
           ∃ (s_1 : List UInt8),
            ∃ (n_3 : Int),
             rs = [D.agg [D.int IntKind.i64 n_2, D.str s_1, D.int IntKind.i64 n_3]] ∧
              PFn Tryd.prog (GG M) (28 : Nat) [D.str (Array.toList (ByteArray.data { data := #[(108 : UInt8)] }))] fun (rs : List D) =>
               ∃ (n_4 : Int),
                ∃ (s_2 : List UInt8),
                 ∃ (n_5 : Int),
                  rs = [D.agg [D.int IntKind.i64 n_4, D.str s_2, D.int IntKind.i64 n_5]] ∧
                   PFn Tryd.prog (GG M) (28 : Nat) [D.str (Array.toList (ByteArray.data { data := #[(115 : UInt8)] }))] fun (rs : List D) =>
                    ∃ (n_6 : Int),
                     ∃ (s_3 : List UInt8),
                      ∃ (n_7 : Int),
                       rs = [D.agg [D.int IntKind.i64 n_6, D.str s_3, D.int IntKind.i64 n_7]] ∧
                        PFn Tryd.prog (GG M) (23 : Nat)
                         [D.agg
                           [D.int IntKind.i64 (10 : Int), D.str (Array.toList (ByteArray.data { data := #[] })), D.int IntKind.i64 (0 : Int), D.sl [], D.sl [],
                            D.sl
                             [D.agg
                               [D.int IntKind.i64 (13 : Int), D.str (Array.toList (ByteArray.data { data := #[] })), D.int IntKind.i64 (0 : Int), D.sl [], D.sl [],
                                D.sl
                                 [D.agg
                                   [D.int IntKind.i64 (4 : Int), D.str (Array.toList (ByteArray.data { data := #[] })), D.int IntKind.i64 (0 : Int),
                                    D.sl [D.agg [D.int IntKind.i64 n, D.str s, D.int IntKind.i64 n_1], D.agg [D.int IntKind.i64 n_2, D.str s_1, D.int IntKind.i64 n_3]],
                                    D.sl [], D.sl []],
                                  D.agg
                                   [D.int IntKind.i64 (16 : Int), D.str (Array.toList (ByteArray.data { data := #[] })), D.int IntKind.i64 (2 : Int), D.sl [],
                                    D.sl [D.agg [D.str (Array.toList (ByteArray.data { data := #[(115 : UInt8)] })), D.int IntKind.i64 (2 : Int)]],
                                    D.sl
                                     [D.agg
                                       [D.int IntKind.i64 (3 : Int), D.str (Array.toList (ByteArray.data { data := #[] })), D.int IntKind.i64 (0 : Int),
                                        D.sl
                                         [D.agg [D.int IntKind.i64 n_4, D.str s_2, D.int IntKind.i64 n_5],
                                          D.agg [D.int IntKind.i64 n_6, D.str s_3, D.int IntKind.i64 n_7]],
                                        D.sl [], D.sl []]]]]]]]]
                         fun (rs : List D) =>
                         ∃ (n_8 : Int),
                          ∃ (s_4 : List UInt8),
                           ∃ (n_9 : Int),
                            ∃ (l : List D),
                             ∃ (l_1 : List D),
                              ∃ (l_2 : List D),
                               ∃ (n_10 : Int),
                                rs = [D.agg [D.int IntKind.i64 n_8, D.str s_4, D.int IntKind.i64 n_9, D.sl l, D.sl l_1, D.sl l_2], D.int IntKind.i64 n_10] ∧
                                 PFn Tryd.prog (GG M) (19 : Nat)
                                  [D.agg
                                    [D.int IntKind.i64 (10 : Int), D.str (Array.toList (ByteArray.data { data := #[] })), D.int IntKind.i64 (0 : Int), D.sl [], D.sl [],
                                     D.sl
                                      [D.agg
                                        [D.int IntKind.i64 (13 : Int), D.str (Array.toList (ByteArray.data { data := #[] })), D.int IntKind.i64 (0 : Int), D.sl [],
                                         D.sl [],
                                         D.sl
                                          [D.agg
                                            [D.int IntKind.i64 (4 : Int), D.str (Array.toList (ByteArray.data { data := #[] })), D.int IntKind.i64 (0 : Int),
                                             D.sl
                                              [D.agg [D.int IntKind.i64 n, D.str s, D.int IntKind.i64 n_1],
                                               D.agg [D.int IntKind.i64 n_2, D.str s_1, D.int IntKind.i64 n_3]],
                                             D.sl [], D.sl []],
                                           D.agg
                                            [D.int IntKind.i64 (16 : Int), D.str (Array.toList (ByteArray.data { data := #[] })), D.int IntKind.i64 (2 : Int),
                                             D.sl [],
                                             D.sl [D.agg [D.str (Array.toList (ByteArray.data { data := #[(115 : UInt8)] })), D.int IntKind.i64 (2 : Int)]],
                                             D.sl
                                              [D.agg
                                                [D.int IntKind.i64 (3 : Int), D.str (Array.toList (ByteArray.data { data := #[] })),
                                                 D.int IntKind.i64 (0 : Int),
                                                 D.sl
                                                  [D.agg [D.int IntKind.i64 n_4, D.str s_2, D.int IntKind.i64 n_5],
                                                   D.agg [D.int IntKind.i64 n_6, D.str s_3, D.int IntKind.i64 n_7]],
                                                 D.sl [], D.sl []]]]]]]]]
                                  fun (rs : List D) =>
                                  ∃ (l_3 : List D),
                                   rs = [D.sl l_3] ∧
                                    PFn Tryd.prog (GG M) (23 : Nat)
                                     [D.agg
                                       [D.int IntKind.i64 (4 : Int), D.str (Array.toList (ByteArray.data { data := #[] })), D.int IntKind.i64 (0 : Int), D.sl [],
                                        D.sl [], D.sl []]]
                                     fun (rs : List D) =>
                                     ∃ (n_11 : Int),
                                      ∃ (s_5 : List UInt8),
                                       ∃ (n_12 : Int),
                                        ∃ (l_4 : List D),
                                         ∃ (l_5 : List D),
                                          ∃ (l_6 : List D),
                                           ∃ (n_13 : Int),
                                            rs =
                                              [D.agg [D.int IntKind.i64 n_11, D.str s_5, D.int IntKind.i64 n_12, D.sl l_4, D.sl l_5, D.sl l_6],
                                               D.int IntKind.i64 n_13] ∧
                                             PFn Tryd.prog (GG M) (21 : Nat)
                                              [D.agg [D.int IntKind.i64 n_8, D.str s_4, D.int IntKind.i64 n_9, D.sl l, D.sl l_1, D.sl l_2],
                                               D.agg
                                                [D.int IntKind.i64 (11 : Int), D.str (Array.toList (ByteArray.data { data := #[] })),
                                                 D.int IntKind.i64 (0 : Int), D.sl [], D.sl [],
                                                 D.sl
                                                  [D.agg
                                                    [D.int IntKind.i64 (4 : Int), D.str (Array.toList (ByteArray.data { data := #[] })),
                                                     D.int IntKind.i64 (0 : Int),
                                                     D.sl
                                                      [D.agg [D.int IntKind.i64 n, D.str s, D.int IntKind.i64 n_1],
                                                       D.agg [D.int IntKind.i64 n_2, D.str s_1, D.int IntKind.i64 n_3]],
                                                     D.sl [], D.sl []],
                                                   D.agg
                                                    [D.int IntKind.i64 (17 : Int), D.str (Array.toList (ByteArray.data { data := #[] })),
                                                     D.int IntKind.i64 (1 : Int), D.sl [],
                                                     D.sl
                                                      [D.agg
                                                        [D.str (Array.toList (ByteArray.data { data := #[(115 : UInt8)] })),
                                                         D.int IntKind.i64 (2 : Int)]],
                                                     D.sl
                                                      [D.agg
                                                        [D.int IntKind.i64 (3 : Int), D.str (Array.toList (ByteArray.data { data := #[] })),
                                                         D.int IntKind.i64 (0 : Int),
                                                         D.sl
                                                          [D.agg [D.int IntKind.i64 n_4, D.str s_2, D.int IntKind.i64 n_5],
                                                           D.agg [D.int IntKind.i64 n_6, D.str s_3, D.int IntKind.i64 n_7]],
                                                         D.sl [], D.sl []]]]]]]
                                              fun (rs : List D) =>
                                              ∃ (b : Bool),
                                               rs = [D.bool b] ∧
                                                PFn Tryd.prog (GG M) (21 : Nat)
                                                 [D.agg
                                                   [D.int IntKind.i64 (10 : Int), D.str (Array.toList (ByteArray.data { data := #[] })),
                                                    D.int IntKind.i64 (0 : Int), D.sl [], D.sl [],
                                                    D.sl
                                                     [D.agg
                                                       [D.int IntKind.i64 (13 : Int), D.str (Array.toList (ByteArray.data { data := #[] })),
                                                        D.int IntKind.i64 (0 : Int), D.sl [], D.sl [],
                                                        D.sl
                                                         [D.agg
                                                           [D.int IntKind.i64 (4 : Int), D.str (Array.toList (ByteArray.data { data := #[] })),
                                                            D.int IntKind.i64 (0 : Int),
                                                            D.sl
                                                             [D.agg [D.int IntKind.i64 n, D.str s, D.int IntKind.i64 n_1],
                                                              D.agg [D.int IntKind.i64 n_2, D.str s_1, D.int IntKind.i64 n_3]],
                                                            D.sl [], D.sl []],
                                                          D.agg
                                                           [D.int IntKind.i64 (16 : Int), D.str (Array.toList (ByteArray.data { data := #[] })),
                                                            D.int IntKind.i64 (2 : Int), D.sl [],
                                                            D.sl
                                                             [D.agg
                                                               [D.str (Array.toList (ByteArray.data { data := #[(115 : UInt8)] })),
                                                                D.int IntKind.i64 (2 : Int)]],
                                                            D.sl
                                                             [D.agg
                                                               [D.int IntKind.i64 (3 : Int),
                                                                D.str (Array.toList (ByteArray.data { data := #[] })),
                                                                D.int IntKind.i64 (0 : Int),
                                                                D.sl
                                                                 [D.agg [D.int IntKind.i64 n_4, D.str s_2, D.int IntKind.i64 n_5],
                                                                  D.agg [D.int IntKind.i64 n_6, D.str s_3, D.int IntKind.i64 n_7]],
                                                                D.sl [], D.sl []]]]]]]],
                                                  D.agg
                                                   [D.int IntKind.i64 (11 : Int), D.str (Array.toList (ByteArray.data { data := #[] })),
                                                    D.int IntKind.i64 (0 : Int), D.sl [], D.sl [],
                                                    D.sl
                                                     [D.agg
                                                       [D.int IntKind.i64 (4 : Int), D.str (Array.toList (ByteArray.data { data := #[] })),
                                                        D.int IntKind.i64 (0 : Int),
                                                        D.sl
                                                         [D.agg [D.int IntKind.i64 n, D.str s, D.int IntKind.i64 n_1],
                                                          D.agg [D.int IntKind.i64 n_2, D.str s_1, D.int IntKind.i64 n_3]],
                                                        D.sl [], D.sl []],
                                                      D.agg
                                                       [D.int IntKind.i64 (17 : Int), D.str (Array.toList (ByteArray.data { data := #[] })),
                                                        D.int IntKind.i64 (1 : Int), D.sl [],
                                                        D.sl
                                                         [D.agg
                                                           [D.str (Array.toList (ByteArray.data { data := #[(115 : UInt8)] })),
                                                            D.int IntKind.i64 (2 : Int)]],
                                                        D.sl
                                                         [D.agg
                                                           [D.int IntKind.i64 (3 : Int), D.str (Array.toList (ByteArray.data { data := #[] })),
                                                            D.int IntKind.i64 (0 : Int),
                                                            D.sl
                                                             [D.agg [D.int IntKind.i64 n_4, D.str s_2, D.int IntKind.i64 n_5],
                                                              D.agg [D.int IntKind.i64 n_6, D.str s_3, D.int IntKind.i64 n_7]],
                                                            D.sl [], D.sl []]]]]]]
                                                 fun (rs : List D) =>
                                                 ∃ (b_1 : Bool),
                                                  rs = [D.bool b_1] ∧
                                                   ((bif bif bif n_10 == (0 : Int) then b else false then !b_1 else false then
                                                       (↑(List.length l_3) : Int) == (2 : Int)
                                                      else false) =
                                                      true →
                                                     (0 : Int) ≤ (0 : Int) ∧
                                                      l_3[Int.toNat (0 : Int)]? =
                                                       some (D.str (D.toStr (Option.getD (cellAt l_3 (Int.toNat (0 : Int)) (0 : Nat)) default)))) ∧
                                                    ((bif
                                                         bif bif bif n_10 == (0 : Int) then b else false then !b_1 else false then
                                                          (↑(List.length l_3) : Int) == (2 : Int)
                                                         else false then
                                                        D.toStr (Option.getD (cellAt l_3 (Int.toNat (0 : Int)) (0 : Nat)) default) ==
                                                         Array.toList (ByteArray.data { data := #[(108 : UInt8)] })
                                                       else false) =
                                                       true →
                                                      (0 : Int) ≤ (1 : Int) ∧
                                                       l_3[Int.toNat (1 : Int)]? =
                                                        some (D.str (D.toStr (Option.getD (cellAt l_3 (Int.toNat (1 : Int)) (0 : Nat)) default)))) ∧
                                                     PFn Tryd.prog (GG M) (13 : Nat)
                                                      [D.agg
                                                        [D.int IntKind.i64 (10 : Int), D.str (Array.toList (ByteArray.data { data := #[] })),
                                                         D.int IntKind.i64 (0 : Int), D.sl [], D.sl [],
                                                         D.sl
                                                          [D.agg
                                                            [D.int IntKind.i64 (13 : Int), D.str (Array.toList (ByteArray.data { data := #[] })),
                                                             D.int IntKind.i64 (0 : Int), D.sl [], D.sl [],
                                                             D.sl
                                                              [D.agg
                                                                [D.int IntKind.i64 (4 : Int),
                                                                 D.str (Array.toList (ByteArray.data { data := #[] })),
                                                                 D.int IntKind.i64 (0 : Int),
                                                                 D.sl
                                                                  [D.agg [D.int IntKind.i64 n, D.str s, D.int IntKind.i64 n_1],
                                                                   D.agg [D.int IntKind.i64 n_2, D.str s_1, D.int IntKind.i64 n_3]],
                                                                 D.sl [], D.sl []],
                                                               D.agg
                                                                [D.int IntKind.i64 (16 : Int),
                                                                 D.str (Array.toList (ByteArray.data { data := #[] })),
                                                                 D.int IntKind.i64 (2 : Int), D.sl [],
                                                                 D.sl
                                                                  [D.agg
                                                                    [D.str (Array.toList (ByteArray.data { data := #[(115 : UInt8)] })),
                                                                     D.int IntKind.i64 (2 : Int)]],
                                                                 D.sl
                                                                  [D.agg
                                                                    [D.int IntKind.i64 (3 : Int),
                                                                     D.str (Array.toList (ByteArray.data { data := #[] })),
                                                                     D.int IntKind.i64 (0 : Int),
                                                                     D.sl
                                                                      [D.agg [D.int IntKind.i64 n_4, D.str s_2, D.int IntKind.i64 n_5],
                                                                       D.agg [D.int IntKind.i64 n_6, D.str s_3, D.int IntKind.i64 n_7]],
                                                                     D.sl [], D.sl []]]]]]]]]
                                                      fun (rs : List D) =>
                                                      ∃ (n_14 : Int),
                                                       rs = [D.int IntKind.i64 n_14] ∧
                                                        PFn Tryd.prog (GG M) (15 : Nat)
                                                         [D.agg
                                                           [D.int IntKind.i64 (10 : Int), D.str (Array.toList (ByteArray.data { data := #[] })),
                                                            D.int IntKind.i64 (0 : Int), D.sl [], D.sl [],
                                                            D.sl
                                                             [D.agg
                                                               [D.int IntKind.i64 (13 : Int),
                                                                D.str (Array.toList (ByteArray.data { data := #[] })),
                                                                D.int IntKind.i64 (0 : Int), D.sl [], D.sl [],
                                                                D.sl
                                                                 [D.agg
                                                                   [D.int IntKind.i64 (4 : Int),
                                                                    D.str (Array.toList (ByteArray.data { data := #[] })),
                                                                    D.int IntKind.i64 (0 : Int),
                                                                    D.sl
                                                                     [D.agg [D.int IntKind.i64 n, D.str s, D.int IntKind.i64 n_1],
                                                                      D.agg [D.int IntKind.i64 n_2, D.str s_1, D.int IntKind.i64 n_3]],
                                                                    D.sl [], D.sl []],
                                                                  D.agg
                                                                   [D.int IntKind.i64 (16 : Int),
                                                                    D.str (Array.toList (ByteArray.data { data := #[] })),
                                                                    D.int IntKind.i64 (2 : Int), D.sl [],
                                                                    D.sl
                                                                     [D.agg
                                                                       [D.str
                                                                         (Array.toList (ByteArray.data { data := #[(115 : UInt8)] })),
                                                                        D.int IntKind.i64 (2 : Int)]],
                                                                    D.sl
                                                                     [D.agg
                                                                       [D.int IntKind.i64 (3 : Int),
                                                                        D.str (Array.toList (ByteArray.data { data := #[] })),
                                                                        D.int IntKind.i64 (0 : Int),
                                                                        D.sl
                                                                         [D.agg
                                                                           [D.int IntKind.i64 n_4, D.str s_2, D.int IntKind.i64 n_5],
                                                                          D.agg
                                                                           [D.int IntKind.i64 n_6, D.str s_3,
                                                                            D.int IntKind.i64 n_7]],
                                                                        D.sl [], D.sl []]]]]]]]]
                                                         fun (rs : List D) =>
                                                         ∃ (n_15 : Int),
                                                          rs = [D.int IntKind.i64 n_15] ∧
                                                           PFn Tryd.prog (GG M) (17 : Nat)
                                                            [D.agg
                                                              [D.int IntKind.i64 (10 : Int),
                                                               D.str (Array.toList (ByteArray.data { data := #[] })),
                                                               D.int IntKind.i64 (0 : Int), D.sl [], D.sl [],
                                                               D.sl
                                                                [D.agg
                                                                  [D.int IntKind.i64 (13 : Int),
                                                                   D.str (Array.toList (ByteArray.data { data := #[] })),
                                                                   D.int IntKind.i64 (0 : Int), D.sl [], D.sl [],
                                                                   D.sl
                                                                    [D.agg
                                                                      [D.int IntKind.i64 (4 : Int),
                                                                       D.str (Array.toList (ByteArray.data { data := #[] })),
                                                                       D.int IntKind.i64 (0 : Int),
                                                                       D.sl
                                                                        [D.agg [D.int IntKind.i64 n, D.str s, D.int IntKind.i64 n_1],
                                                                         D.agg
                                                                          [D.int IntKind.i64 n_2, D.str s_1, D.int IntKind.i64 n_3]],
                                                                       D.sl [], D.sl []],
                                                                     D.agg
                                                                      [D.int IntKind.i64 (16 : Int),
                                                                       D.str (Array.toList (ByteArray.data { data := #[] })),
                                                                       D.int IntKind.i64 (2 : Int), D.sl [],
                                                                       D.sl
                                                                        [D.agg
                                                                          [D.str
                                                                            (Array.toList
                                                                             (ByteArray.data { data := #[(115 : UInt8)] })),
                                                                           D.int IntKind.i64 (2 : Int)]],
                                                                       D.sl
                                                                        [D.agg
                                                                          [D.int IntKind.i64 (3 : Int),
                                                                           D.str (Array.toList (ByteArray.data { data := #[] })),
                                                                           D.int IntKind.i64 (0 : Int),
                                                                           D.sl
                                                                            [D.agg
                                                                              [D.int IntKind.i64 n_4, D.str s_2,
                                                                               D.int IntKind.i64 n_5],
                                                                             D.agg
                                                                              [D.int IntKind.i64 n_6, D.str s_3,
                                                                               D.int IntKind.i64 n_7]],
                                                                           D.sl [], D.sl []]]]]]]]]
                                                            fun (rs : List D) =>
                                                            ∃ (n : Int),
                                                             rs = [D.int IntKind.i64 n] ∧
                                                              PFn Tryd.prog (GG M) (13 : Nat)
                                                               [D.agg
                                                                 [D.int IntKind.i64 (0 : Int),
                                                                  D.str (Array.toList (ByteArray.data { data := #[] })),
                                                                  D.int IntKind.i64 (0 : Int), D.sl [], D.sl [], D.sl []]]
                                                               fun (rs : List D) =>
                                                               ∃ (n_16 : Int),
                                                                rs = [D.int IntKind.i64 n_16] ∧
                                                                 [D.bool
                                                                    (bif
                                                                      bif
                                                                        bif
                                                                          bif
                                                                            bif
                                                                              bif
                                                                                bif
                                                                                  bif
                                                                                    bif
                                                                                      bif n_10 == (0 : Int) then b
                                                                                      else false then
                                                                                     !b_1
                                                                                    else false then
                                                                                   (↑(List.length l_3) : Int) == (2 : Int)
                                                                                  else false then
                                                                                 D.toStr
                                                                                   (Option.getD
                                                                                    (cellAt l_3 (Int.toNat (0 : Int))
                                                                                     (0 : Nat))
                                                                                    default) ==
                                                                                  Array.toList
                                                                                   (ByteArray.data
                                                                                    { data := #[(108 : UInt8)] })
                                                                                else false then
                                                                               D.toStr
                                                                                 (Option.getD
                                                                                  (cellAt l_3 (Int.toNat (1 : Int)) (0 : Nat))
                                                                                  default) ==
                                                                                Array.toList
                                                                                 (ByteArray.data { data := #[(114 : UInt8)] })
                                                                              else false then
                                                                             n_14 == (0 : Int)
                                                                            else false then
                                                                           n_15 == (5 : Int)
                                                                          else false then
                                                                         n == (4 : Int)
                                                                        else false then
                                                                       n_13 == (1 : Int)
                                                                      else false then
                                                                     n_16 == (1 : Int)
                                                                    else false)] =
                                                                  [D.bool true])
  · kernel_rfl
  refine (fn28 [108]).mono ?_
  rintro rs rfl
  refine ⟨_, _, _, rfl, ?_⟩
  refine (fn28 [114]).mono ?_
  rintro rs rfl
  refine ⟨_, _, _, rfl, ?_⟩
  refine (fn28 [108]).mono ?_
  rintro rs rfl
  refine ⟨_, _, _, rfl, ?_⟩
  refine (fn28 [115]).mono ?_
  rintro rs rfl
  refine ⟨_, _, _, rfl, ?_⟩
  refine (fn23 hM lvF (by have := lv9; omega)).mono ?_
  rintro rs rfl
  refine ⟨_, _, _, _, _, _, _, congrArg (fun z => [z, D.int IntKind.i64 lvF.checkI]) (Fm.d_eq _), ?_⟩
  refine (fn19 lvF (by have := lv9; omega)).mono ?_
  rintro rs rfl
  refine ⟨_, rfl, ?_⟩
  refine (fn23 hM lvBad (by decide)).mono ?_
  rintro rs rfl
  refine ⟨_, _, _, _, _, _, _, congrArg (fun z => [z, D.int IntKind.i64 lvBad.checkI]) (Fm.d_eq _), ?_⟩
  rw [← Fm.d_eq]
  refine (fn21 lvF.nnf (by have := lv10; omega) lvWant).mono ?_
  rintro rs rfl
  refine ⟨_, rfl, ?_⟩
  refine (fn21 lvF (by have := lv9; omega) lvWant).mono ?_
  rintro rs rfl
  refine ⟨_, rfl, ?_⟩
  rw [lv1, lv2, lv3, lv4]
  refine ⟨fun _ => ⟨by decide, rfl⟩, fun _ => ⟨by decide, rfl⟩, ?_⟩
  refine (fn13 hM lvF (by have := lv9; omega)).mono ?_
  rintro rs rfl
  refine ⟨_, rfl, ?_⟩
  refine (fn15 lvF (by rw [lv5]; decide)).mono ?_
  rintro rs rfl
  refine ⟨_, rfl, ?_⟩
  refine (fn17 lvF (by rw [lv5]; decide)).mono ?_
  rintro rs rfl
  refine ⟨_, rfl, ?_⟩
  refine (fn13 hM nil0 (by decide)).mono ?_
  rintro rs rfl
  refine ⟨_, rfl, ?_⟩
  rw [lv1, lv5, lv6, lv7, lv8]
  rfl
theorem fn3 (hM : M.Ok) (f : Fm) (hf : f.wt < 1099511627776) : PFn Tryd.prog (GG M) 3 [f.d] (· = [.bool true]) := by
  rw [d_cells f]
  refine PFn.walk (fn := Tryd.f3) (code := bodyOf Tryd.f3) mixed L0 Tryd.func3 (by kernel_rfl) ⟨_, rfl⟩ (ok0 (by kernel_rfl)) ?_
  have h12 := fn12 (G := GG M) f (by omega)
  have h13 := fn13 hM f (by omega)
  have h14 := fn14 (G := GG M) f (by omega)
  have hr := f.rank_le_wt
  have h15 := fn15 (G := GG M) f (by omega)
  have h16 := fn16 (G := GG M) f (by omega)
  have h17 := fn17 (G := GG M) f (by omega)
  have h18 := fn18 (G := GG M) f (by omega)
  rw [d_cells f] at h12 h13 h14 h15 h16 h17 h18
  apply @of_vc _ (
    PFn Tryd.prog (GG M) (11 : Nat) [] fun (rs : List D) =>
     ∃ (b : Bool),
      rs = [D.bool b] ∧
       ((!b) = true → [D.bool false] = [D.bool true]) ∧
        ((!b) = false →
         PFn Tryd.prog (GG M) (12 : Nat)
          [D.agg [D.int IntKind.i64 (Fm.kind f), D.str (Fm.name f), D.int IntKind.i64 (Fm.n f), D.sl (List.map Tm.d (Fm.ts f)), D.sl (List.map Bd.d (Fm.bs f)), D.sl (List.map Fm.d (Fm.l f))]]
          fun (rs : List D) =>
          ∃ (b : Bool),
           rs = [D.bool b] ∧
            ((!b) = true → [D.bool true] = [D.bool true]) ∧
             ((!b) = false →
              PFn Tryd.prog (GG M) (13 : Nat)
               [D.agg
                 [D.int IntKind.i64 (Fm.kind f), D.str (Fm.name f), D.int IntKind.i64 (Fm.n f), D.sl (List.map Tm.d (Fm.ts f)), D.sl (List.map Bd.d (Fm.bs f)), D.sl (List.map Fm.d (Fm.l f))]]
               fun (rs : List D) =>
               ∃ (n : Int),
                rs = [D.int IntKind.i64 n] ∧
                 PFn Tryd.prog (GG M) (14 : Nat)
                  [D.agg
                    [D.int IntKind.i64 (Fm.kind f), D.str (Fm.name f), D.int IntKind.i64 (Fm.n f), D.sl (List.map Tm.d (Fm.ts f)), D.sl (List.map Bd.d (Fm.bs f)),
                     D.sl (List.map Fm.d (Fm.l f))]]
                  fun (rs : List D) =>
                  ∃ (n_1 : Int),
                   rs = [D.int IntKind.i64 n_1] ∧
                    PFn Tryd.prog (GG M) (15 : Nat)
                     [D.agg
                       [D.int IntKind.i64 (Fm.kind f), D.str (Fm.name f), D.int IntKind.i64 (Fm.n f), D.sl (List.map Tm.d (Fm.ts f)), D.sl (List.map Bd.d (Fm.bs f)),
                        D.sl (List.map Fm.d (Fm.l f))]]
                     fun (rs : List D) =>
                     ∃ (n_2 : Int),
                      rs = [D.int IntKind.i64 n_2] ∧
                       PFn Tryd.prog (GG M) (16 : Nat)
                        [D.agg
                          [D.int IntKind.i64 (Fm.kind f), D.str (Fm.name f), D.int IntKind.i64 (Fm.n f), D.sl (List.map Tm.d (Fm.ts f)), D.sl (List.map Bd.d (Fm.bs f)),
                           D.sl (List.map Fm.d (Fm.l f))]]
                        fun (rs : List D) =>
                        ∃ (n_3 : Int),
                         rs = [D.int IntKind.i64 n_3] ∧
                          PFn Tryd.prog (GG M) (17 : Nat)
                           [D.agg
                             [D.int IntKind.i64 (Fm.kind f), D.str (Fm.name f), D.int IntKind.i64 (Fm.n f), D.sl (List.map Tm.d (Fm.ts f)), D.sl (List.map Bd.d (Fm.bs f)),
                              D.sl (List.map Fm.d (Fm.l f))]]
                           fun (rs : List D) =>
                           ∃ (n_4 : Int),
                            rs = [D.int IntKind.i64 n_4] ∧
                             PFn Tryd.prog (GG M) (18 : Nat)
                              [D.agg
                                [D.int IntKind.i64 (Fm.kind f), D.str (Fm.name f), D.int IntKind.i64 (Fm.n f), D.sl (List.map Tm.d (Fm.ts f)), D.sl (List.map Bd.d (Fm.bs f)),
                                 D.sl (List.map Fm.d (Fm.l f))]]
                              fun (rs : List D) =>
                              ∃ (n_5 : Int), rs = [D.int IntKind.i64 n_5] ∧ [D.bool (bif bif n == n_1 then n_2 == n_3 else false then n_4 == n_5 else false)] = [D.bool true])))
  · kernel_rfl
  refine (fn11 hM).mono ?_
  rintro rs rfl
  refine ⟨_, rfl, fun h => (by cases h), fun _ => ?_⟩
  refine h12.mono ?_
  rintro rs rfl
  refine ⟨_, rfl, fun _ => rfl, fun _ => ?_⟩
  refine h13.mono ?_
  rintro rs rfl
  refine ⟨_, rfl, ?_⟩
  refine h14.mono ?_
  rintro rs rfl
  refine ⟨_, rfl, ?_⟩
  refine h15.mono ?_
  rintro rs rfl
  refine ⟨_, rfl, ?_⟩
  refine h16.mono ?_
  rintro rs rfl
  refine ⟨_, rfl, ?_⟩
  refine h17.mono ?_
  rintro rs rfl
  refine ⟨_, rfl, ?_⟩
  refine h18.mono ?_
  rintro rs rfl
  refine ⟨_, rfl, ?_⟩
  simp
theorem fn5 (hM : M.Ok) (f : Fm) (hf : f.wt < 1099511627776) : PFn Tryd.prog (GG M) 5 [f.d] (· = [.bool true]) := by
  rw [d_cells f]
  refine PFn.walk (fn := Tryd.f5) (code := bodyOf Tryd.f5) mixed L0 Tryd.func5 (by kernel_rfl) ⟨_, rfl⟩ (ok0 (by kernel_rfl)) ?_
  have h12 := fn12 (G := GG M) f (by omega)
  have h23 := fn23 hM f hf
  have h24 := fn24 (M := M) f hf
  rw [d_cells f] at h12 h23 h24
  apply @of_vc _ (
    PFn Tryd.prog (GG M) (11 : Nat) [] fun (rs : List D) =>
     ∃ (b : Bool),
      rs = [D.bool b] ∧
       ((!b) = true → [D.bool false] = [D.bool true]) ∧
        ((!b) = false →
         PFn Tryd.prog (GG M) (12 : Nat)
          [D.agg [D.int IntKind.i64 (Fm.kind f), D.str (Fm.name f), D.int IntKind.i64 (Fm.n f), D.sl (List.map Tm.d (Fm.ts f)), D.sl (List.map Bd.d (Fm.bs f)), D.sl (List.map Fm.d (Fm.l f))]]
          fun (rs : List D) =>
          ∃ (b : Bool),
           rs = [D.bool b] ∧
            ((!b) = true → [D.bool true] = [D.bool true]) ∧
             ((!b) = false →
              PFn Tryd.prog (GG M) (23 : Nat)
               [D.agg
                 [D.int IntKind.i64 (Fm.kind f), D.str (Fm.name f), D.int IntKind.i64 (Fm.n f), D.sl (List.map Tm.d (Fm.ts f)), D.sl (List.map Bd.d (Fm.bs f)), D.sl (List.map Fm.d (Fm.l f))]]
               fun (rs : List D) =>
               ∃ (n : Int),
                ∃ (s : List UInt8),
                 ∃ (n_1 : Int),
                  ∃ (l : List D),
                   ∃ (l_1 : List D),
                    ∃ (l_2 : List D),
                     ∃ (n_2 : Int),
                      rs = [D.agg [D.int IntKind.i64 n, D.str s, D.int IntKind.i64 n_1, D.sl l, D.sl l_1, D.sl l_2], D.int IntKind.i64 n_2] ∧
                       PFn Tryd.prog (GG M) (24 : Nat)
                        [D.agg
                          [D.int IntKind.i64 (Fm.kind f), D.str (Fm.name f), D.int IntKind.i64 (Fm.n f), D.sl (List.map Tm.d (Fm.ts f)), D.sl (List.map Bd.d (Fm.bs f)),
                           D.sl (List.map Fm.d (Fm.l f))]]
                        fun (rs : List D) =>
                        ∃ (n_3 : Int),
                         ∃ (s_1 : List UInt8),
                          ∃ (n_4 : Int),
                           ∃ (l_3 : List D),
                            ∃ (l_4 : List D),
                             ∃ (l_5 : List D),
                              ∃ (n_5 : Int),
                               rs = [D.agg [D.int IntKind.i64 n_3, D.str s_1, D.int IntKind.i64 n_4, D.sl l_3, D.sl l_4, D.sl l_5], D.int IntKind.i64 n_5] ∧
                                PFn Tryd.prog (GG M) (21 : Nat)
                                 [D.agg [D.int IntKind.i64 n, D.str s, D.int IntKind.i64 n_1, D.sl l, D.sl l_1, D.sl l_2],
                                  D.agg [D.int IntKind.i64 n_3, D.str s_1, D.int IntKind.i64 n_4, D.sl l_3, D.sl l_4, D.sl l_5]]
                                 fun (rs : List D) => ∃ (b : Bool), rs = [D.bool b] ∧ [D.bool (bif b then n_2 == n_5 else false)] = [D.bool true])))
  · kernel_rfl
  refine (fn11 hM).mono ?_
  rintro rs rfl
  refine ⟨_, rfl, fun h => (by cases h), fun _ => ?_⟩
  refine h12.mono ?_
  rintro rs rfl
  refine ⟨_, rfl, fun _ => rfl, fun _ => ?_⟩
  refine h23.mono ?_
  rintro rs rfl
  refine ⟨_, _, _, _, _, _, _, congrArg (fun z => [z, D.int IntKind.i64 f.checkI]) (Fm.d_eq _), ?_⟩
  refine h24.mono ?_
  rintro rs rfl
  refine ⟨_, _, _, _, _, _, _, congrArg (fun z => [z, D.int IntKind.i64 f.checkI]) (Fm.d_eq _), ?_⟩
  rw [← Fm.d_eq]
  refine (fn21 f.nnf (by have := nnf_wt f; omega) f.nnf).mono ?_
  rintro rs rfl
  refine ⟨_, rfl, ?_⟩
  rw [beq_refl]; simp
end
end Go.Fo
/- From the reading of the claim's form to the data of the walk. -/
namespace Go.Fo
open Go Go.Sx Go.Proofs
open Go.Proofs.YtkaadmkjjfcakaaDoor (Rows.uptoBulk Rows.uptoBulkAll)
set_option maxRecDepth 100000

def cW (W : World) : Cx := ⟨[], fun b o => ∃ v, W.cell? ⟨b, o, none⟩ = some v, fun r => ∃ es clk, W.heap[r]? = some (.map es clk)⟩

theorem hrW (W : World) : HR (cW W) [] W where
  len := rfl
  inj l l' b k k' h := by simp [cW] at h
  box l b k x h := by simp [cW] at h
  non l x h := by simp [cW] at h
  lt l b k h := by simp [cW] at h
  ilt b o h := by
    obtain ⟨v, hv⟩ := h
    unfold World.cell? at hv
    cases hb : W.heap[b]? with
    | none => simp [hb] at hv
    | some x => exact heap_lt hb
  jlt r h := by obtain ⟨es, clk, h⟩ := h; exact heap_lt h
  iap b o l k hi h := by simp [cW] at h
  jap r l k hr h := by simp [cW] at h

theorem list_choice {α : Type} {Q : Nat → α → Prop} : ∀ n, (∀ i, i < n → ∃ a, Q i a) → ∃ zs : List α, zs.length = n ∧ ∀ (i : Nat) a, zs[i]? = some a → Q i a
  | 0, _ => ⟨[], rfl, fun i a h => by simp at h⟩
  | n + 1, h => by
    obtain ⟨zs, h1, h2⟩ := list_choice n fun i hi => h i (by omega)
    obtain ⟨a, ha⟩ := h n (by omega)
    refine ⟨zs ++ [a], by simp [h1], fun i b hb => ?_⟩
    rcases get_snoc_cases hb with hb | ⟨rfl, rfl⟩
    · exact h2 i b hb
    · rw [h1]; exact ha

theorem sum_bulk {H α : Type} {wt : α → Nat} : ∀ {zs : List α} {es : List (DataW H × List MemPlace)}, zs.length = es.length → (∀ (i : Nat) a y, zs[i]? = some a → es[i]? = some y → wt a ≤ Rows.uptoBulk y.1) → (zs.map wt).sum ≤ Rows.uptoBulkAll (es.map (·.1))
  | [], [], _, _ => by simp
  | a :: zs, y :: es, hl, h => by
    have := sum_bulk (zs := zs) (es := es) (by simpa using hl) fun i b z hb hz => h (i + 1) b z (by simpa using hb) (by simpa using hz)
    have := h 0 a y rfl rfl
    simp only [List.map_cons, List.sum_cons, Rows.uptoBulkAll]; omega
  | [], _ :: _, hl, _ => by simp at hl
  | _ :: _, [], hl, _ => by simp at hl

section
variable {H : Type} {enc : TypeId × Value → H} {P : Program} {W : World} {held : Bool}

/-- A slice of elements that read. -/
theorem trodSlice {α : Type} (toD : α → D) (wt : α → Nat) {sz : Nat} (hs0 : 0 < sz) (hsz : ∀ a, (toD a).cells.length = sz) {t e : TypeId} {fuel : Nat} {cs : List Value} {x : DataW H × List MemPlace} (ht : P.underlying t = some (.slice e)) (hc : P.cellsOf e = sz)
    (helem : ∀ n cs' y, fuel = n + 1 → DataW.trod enc P W 0 (fun _ => true) held n e cs' = some y → ∃ a : α, All2 (R1 (cW W).I (cW W).J W) cs' (toD a).cells ∧ wt a ≤ Rows.uptoBulk y.1)
    (h : DataW.trod enc P W 0 (fun _ => true) held fuel t cs = some x) :
    ∃ (zs : List α) (v : Value), cs = [v] ∧ R1 (cW W).I (cW W).J W v (.sl (zs.map toD)) ∧ (zs.map wt).sum + 1 ≤ Rows.uptoBulk x.1 := by
  rcases DataW.trod_slice ht h with ⟨rfl, rfl⟩ | ⟨a, len, cap, elems, rest, n, hf, rfl, rfl, hb, hl, hm, hlen, hel, hsp, hns⟩
  · exact ⟨[], _, rfl, R1.nil, by simp [Rows.uptoBulk]⟩
  have hex : ∀ i, i < len → ∃ b : α, ∃ cs' y, W.cells? 0 (a.add (i * sz)) sz = some cs' ∧ elems[i]? = some y ∧ All2 (R1 (cW W).I (cW W).J W) cs' (toD b).cells ∧ wt b ≤ Rows.uptoBulk y.1 := by
    intro i hi
    have h1 := hel i hi
    rw [List.getElem?_eq_getElem (by omega : i < elems.length), hc] at h1
    obtain ⟨cs', h2, h3⟩ := Option.bind_eq_some_iff.1 h1
    obtain ⟨b, h4, h5⟩ := helem n cs' _ hf h3
    exact ⟨b, cs', _, h2, by simp [hlen, hi], h4, h5⟩
  obtain ⟨zs, has, hQ⟩ := list_choice len hex
  have hsum : (zs.map wt).sum ≤ Rows.uptoBulkAll (elems.map (·.1)) := sum_bulk (by rw [has, hlen]) fun i b y hb hy => by
    obtain ⟨cs', y', _, h2, _, h4⟩ := hQ i b hb
    rw [hy] at h2; cases h2; exact h4
  refine ⟨zs, _, rfl, ?_, by simp only [Rows.uptoBulk]; omega⟩
  rcases Nat.eq_zero_or_pos len with h0 | h0
  · have : zs = [] := List.eq_nil_of_length_eq_zero (by omega)
    subst this
    subst h0
    exact R1.emp a cap
  · have hspot : a = ⟨a.block, a.off, none⟩ := by
      have hlt : 0 < zs.length := by omega
      obtain ⟨cs', y, h1, _, h3, _⟩ := hQ 0 zs[0] (by simp [hlt])
      obtain ⟨_, h5, h6⟩ := World.cells?_some h1
      have h7 := h6 0 hs0
      have h8 : (a.add (0 * sz)).add 0 = a := by simp [Addr.add]
      rw [h8] at h7
      have h9 : 0 < cs'.length := by omega
      rw [List.getElem?_eq_getElem h9] at h7
      unfold World.cell? at h7
      split at h7
      · split at h7
        · cases h7
        · rename_i hs
          obtain ⟨b, o, s⟩ := a
          cases s with
          | none => rfl
          | some q => simp at hs
      · cases h7
    rw [hspot]
    have key : ∀ i j d, cellAt (zs.map toD) i j = some d → ∃ v, W.cell? ⟨a.block, a.off + i * sz + j, none⟩ = some v ∧ R1 (cW W).I (cW W).J W v d := by
      intro i j d hd
      unfold cellAt at hd
      obtain ⟨x, hx, hj⟩ := Option.bind_eq_some_iff.1 hd
      rw [List.getElem?_map] at hx
      obtain ⟨b, hb', rfl⟩ := Option.map_eq_some_iff.1 hx
      obtain ⟨cs', y, h1, _, h3, _⟩ := hQ i b hb'
      obtain ⟨_, h5, h6⟩ := World.cells?_some h1
      obtain ⟨v, hv, hr⟩ := h3.get hj
      have hjl : j < sz := by
        have := hsz b
        rcases Nat.lt_or_ge j (toD b).cells.length with h' | h'
        · omega
        · rw [List.getElem?_eq_none h'] at hj; cases hj
      have h7 := h6 j hjl
      rw [hv, Deep.add_add] at h7
      have h8 : a.add (i * sz + j) = ⟨a.block, a.off + i * sz + j, none⟩ := by
        have h9 := add_none a.block a.off (i * sz + j)
        rw [← hspot] at h9
        rw [h9, Nat.add_assoc]
      rw [h8] at h7
      exact ⟨v, h7, hr⟩
    have e1 : len = (zs.map toD).length := by simp [has]
    rw [e1]
    refine R1.sl a.block a.off cap sz (zs.map toD) (fun i j => (W.cell? ⟨a.block, a.off + i * sz + j, none⟩).getD undef) ?_ ?_ ?_ (by simp [has]; omega)
    · intro d hd
      obtain ⟨b, _, rfl⟩ := List.mem_map.1 hd
      exact hsz b
    · intro i j d hd
      obtain ⟨v, hv, _⟩ := key i j d hd
      exact ⟨⟨v, hv⟩, by simp [hv]⟩
    · intro i j d hd
      obtain ⟨v, hv, hr⟩ := key i j d hd
      simp only [hv, Option.getD_some]
      exact hr

theorem byte_str (s : ByteArray) : Value.string s = .string ⟨s.data.toList.toArray⟩ := by cases s; simp

/-- A term that reads. -/
theorem trodTm {fuel : Nat} {cs : List Value} {x : DataW H × List MemPlace} (h : DataW.trod enc Tryd.prog W 0 (fun _ => true) held fuel 43 cs = some x) :
    ∃ t : Tm, All2 (R1 (cW W).I (cW W).J W) cs t.d.cells ∧ t.name.length + 1 ≤ Rows.uptoBulk x.1 := by
  obtain ⟨xs, n, rfl, rfl, hl, hx, hf⟩ := DataW.trod_struct Tryd.underlying43 h
  have hc : Tryd.prog.cellsOf 43 = 3 := by kernel_rfl
  have hc3 : Tryd.prog.cellsOf 3 = 1 := by kernel_rfl
  have hc9 : Tryd.prog.cellsOf 9 = 1 := by kernel_rfl
  rw [hc] at hl
  match cs, hl with
  | [v0, v1, v2], _ =>
  match xs, hx with
  | [x0, x1, x2], _ =>
  have h0 : DataW.trod enc Tryd.prog W 0 (fun _ => true) held n 3 (List.take (Tryd.prog.cellsOf 3) [v0, v1, v2]) = some x0 := hf 0 _ rfl
  have h1 : DataW.trod enc Tryd.prog W 0 (fun _ => true) held n 9 (List.take (Tryd.prog.cellsOf 9) [v1, v2]) = some x1 := hf 1 _ rfl
  have h2 : DataW.trod enc Tryd.prog W 0 (fun _ => true) held n 3 (List.take (Tryd.prog.cellsOf 3) [v2]) = some x2 := hf 2 _ rfl
  simp only [hc3, hc9, List.take_succ_cons, List.take_zero] at h0 h1 h2
  obtain ⟨a, e0, f0, _⟩ := DataW.trod_int (k := .i64) Tryd.underlying3 h0
  obtain ⟨b, e1, f1, _⟩ := DataW.trod_string Tryd.underlying9 h1
  obtain ⟨c, e2, f2, _⟩ := DataW.trod_int (k := .i64) Tryd.underlying3 h2
  simp only [List.cons.injEq, and_true] at e0 e1 e2
  subst e0 e1 e2 f0 f1 f2
  refine ⟨⟨a, b.data.toList, c⟩, ?_, ?_⟩
  · rw [byte_str]
    exact All2.cons (.int _ _) (All2.cons (.str _) (All2.cons (.int _ _) All2.nil))
  · simp [Rows.uptoBulk, Rows.uptoBulkAll]; omega

theorem trodBd {fuel : Nat} {cs : List Value} {x : DataW H × List MemPlace} (h : DataW.trod enc Tryd.prog W 0 (fun _ => true) held fuel 40 cs = some x) :
    ∃ t : Bd, All2 (R1 (cW W).I (cW W).J W) cs t.d.cells ∧ t.name.length + 1 ≤ Rows.uptoBulk x.1 := by
  obtain ⟨xs, n, rfl, rfl, hl, hx, hf⟩ := DataW.trod_struct Tryd.underlying40 h
  have hc : Tryd.prog.cellsOf 40 = 2 := by kernel_rfl
  have hc3 : Tryd.prog.cellsOf 3 = 1 := by kernel_rfl
  have hc9 : Tryd.prog.cellsOf 9 = 1 := by kernel_rfl
  rw [hc] at hl
  match cs, hl with
  | [v0, v1], _ =>
  match xs, hx with
  | [x0, x1], _ =>
  have h0 : DataW.trod enc Tryd.prog W 0 (fun _ => true) held n 9 (List.take (Tryd.prog.cellsOf 9) [v0, v1]) = some x0 := hf 0 _ rfl
  have h1 : DataW.trod enc Tryd.prog W 0 (fun _ => true) held n 3 (List.take (Tryd.prog.cellsOf 3) [v1]) = some x1 := hf 1 _ rfl
  simp only [hc3, hc9, List.take_succ_cons, List.take_zero] at h0 h1
  obtain ⟨b, e1, f1, _⟩ := DataW.trod_string Tryd.underlying9 h0
  obtain ⟨c, e2, f2, _⟩ := DataW.trod_int (k := .i64) Tryd.underlying3 h1
  simp only [List.cons.injEq, and_true] at e1 e2
  subst e1 e2 f1 f2
  refine ⟨⟨b.data.toList, c⟩, ?_, ?_⟩
  · rw [byte_str]
    exact All2.cons (.str _) (All2.cons (.int _ _) All2.nil)
  · simp [Rows.uptoBulk, Rows.uptoBulkAll]

theorem sumT_eq (ts : List Tm) : (ts.map fun t => t.name.length + 1).sum = sumT ts + ts.length := by
  unfold sumT
  induction ts with
  | nil => rfl
  | cons t r ih => simp only [List.map_cons, List.sum_cons, List.length_cons, ih]; omega
theorem sumB_eq (ts : List Bd) : (ts.map fun t => t.name.length + 1).sum = sumB ts + ts.length := by
  unfold sumB
  induction ts with
  | nil => rfl
  | cons t r ih => simp only [List.map_cons, List.sum_cons, List.length_cons, ih]; omega
theorem wts_eq (l : List Fm) : (l.map Fm.wt).sum = Fm.wts l := by
  induction l with
  | nil => rfl
  | cons t r ih => simp only [List.map_cons, List.sum_cons, Fm.wts, ih]

/-- A formula that reads. -/
theorem trodFm : ∀ (fuel : Nat) (cs : List Value) (x : DataW H × List MemPlace), DataW.trod enc Tryd.prog W 0 (fun _ => true) held fuel 26 cs = some x →
    ∃ f : Fm, All2 (R1 (cW W).I (cW W).J W) cs f.d.cells ∧ f.wt ≤ Rows.uptoBulk x.1 := by
  intro fuel
  induction fuel using Nat.strongRecOn with
  | _ fuel ih =>
  intro cs x h
  obtain ⟨xs, n, rfl, rfl, hl, hx, hf⟩ := DataW.trod_struct Tryd.underlying26 h
  have hc : Tryd.prog.cellsOf 26 = 6 := by kernel_rfl
  have hc3 : Tryd.prog.cellsOf 3 = 1 := by kernel_rfl
  have hc9 : Tryd.prog.cellsOf 9 = 1 := by kernel_rfl
  have hc22 : Tryd.prog.cellsOf 22 = 1 := by kernel_rfl
  have hc23 : Tryd.prog.cellsOf 23 = 1 := by kernel_rfl
  have hc24 : Tryd.prog.cellsOf 24 = 1 := by kernel_rfl
  have hc43 : Tryd.prog.cellsOf 43 = 3 := by kernel_rfl
  have hc40 : Tryd.prog.cellsOf 40 = 2 := by kernel_rfl
  rw [hc] at hl
  match cs, hl with
  | [v0, v1, v2, v3, v4, v5], _ =>
  match xs, hx with
  | [x0, x1, x2, x3, x4, x5], _ =>
  have h0 : DataW.trod enc Tryd.prog W 0 (fun _ => true) held n 3 (List.take (Tryd.prog.cellsOf 3) [v0, v1, v2, v3, v4, v5]) = some x0 := hf 0 _ rfl
  have h1 : DataW.trod enc Tryd.prog W 0 (fun _ => true) held n 9 (List.take (Tryd.prog.cellsOf 9) [v1, v2, v3, v4, v5]) = some x1 := hf 1 _ rfl
  have h2 : DataW.trod enc Tryd.prog W 0 (fun _ => true) held n 3 (List.take (Tryd.prog.cellsOf 3) [v2, v3, v4, v5]) = some x2 := hf 2 _ rfl
  have h3 : DataW.trod enc Tryd.prog W 0 (fun _ => true) held n 22 (List.take (Tryd.prog.cellsOf 22) [v3, v4, v5]) = some x3 := hf 3 _ rfl
  have h4 : DataW.trod enc Tryd.prog W 0 (fun _ => true) held n 23 (List.take (Tryd.prog.cellsOf 23) [v4, v5]) = some x4 := hf 4 _ rfl
  have h5 : DataW.trod enc Tryd.prog W 0 (fun _ => true) held n 24 (List.take (Tryd.prog.cellsOf 24) [v5]) = some x5 := hf 5 _ rfl
  simp only [hc3, hc9, hc22, hc23, hc24, List.take_succ_cons, List.take_zero] at h0 h1 h2 h3 h4 h5
  obtain ⟨a, e0, f0, _⟩ := DataW.trod_int (k := .i64) Tryd.underlying3 h0
  obtain ⟨b, e1, f1, _⟩ := DataW.trod_string Tryd.underlying9 h1
  obtain ⟨c, e2, f2, _⟩ := DataW.trod_int (k := .i64) Tryd.underlying3 h2
  obtain ⟨ts, w3, e3, r3, b3⟩ := trodSlice Tm.d (fun t => t.name.length + 1) (by decide) (fun _ => rfl) Tryd.underlying22 hc43 (fun _ _ _ _ h => trodTm h) h3
  obtain ⟨bs, w4, e4, r4, b4⟩ := trodSlice Bd.d (fun t => t.name.length + 1) (by decide) (fun _ => rfl) Tryd.underlying23 hc40 (fun _ _ _ _ h => trodBd h) h4
  obtain ⟨l, w5, e5, r5, b5⟩ := trodSlice Fm.d Fm.wt (by decide : 0 < 6) (fun f => by rw [f.d_eq]; rfl) Tryd.underlying24 hc (fun m cs' y hm h => ih m (by omega) cs' y h) h5
  simp only [List.cons.injEq, and_true] at e0 e1 e2 e3 e4 e5
  subst e0 e1 e2 e3 e4 e5 f0 f1 f2
  refine ⟨.mk a b.data.toList c ts bs l, ?_, ?_⟩
  · rw [byte_str, Fm.d_mk]
    exact All2.cons (.int _ _) (All2.cons (.str _) (All2.cons (.int _ _) (All2.cons r3 (All2.cons r4 (All2.cons r5 All2.nil)))))
  · rw [sumT_eq] at b3
    rw [sumB_eq] at b4
    rw [wts_eq] at b5
    rw [Fm.wt_eq]
    simp only [Fm.name, Fm.ts, Fm.bs, Fm.l, List.map_cons, List.map_nil, Rows.uptoBulk, Rows.uptoBulkAll]
    omega
end
end Go.Fo
/- The package's maps, out of what the row lists. -/
namespace Go.Fo
open Go Go.Sx Go.Proofs
open Go.WideElems
open Go.ChangeMaps (mem_insert_iff)
set_option maxRecDepth 100000

def litD : Lit → D
  | .int k n => .int k n
  | .string s => .str s
  | .bool b => .bool b
  | _ => .bool false
def litOf {H : Type} : DataW H → Lit
  | .lit l => l
  | _ => .bool false
def conv {H : Type} (p : Lit × DataW H) : D × D := (litD p.1, litD (litOf p.2))

theorem mem_foldr {H : Type} {y : Lit × DataW H} : ∀ {l : List (Lit × DataW H)}, y ∈ l.foldr DataW.insert [] ↔ y ∈ l
  | [] => by simp
  | a :: l => by rw [List.foldr_cons, mem_insert_iff, mem_foldr]; simp

section
variable {H : Type} {enc : TypeId × Value → H} {P : Program} {W : World} {held : Bool}

theorem trodMap {t k e : TypeId} (ht : P.underlying t = some (.map k e)) (hkey : ∀ v l, keyOf P k v = some l → R1 (cW W).I (cW W).J W v (litD l))
    (hel : ∀ n v y, elemAt enc P W 0 (fun _ => true) held n e v = some y → R1 (cW W).I (cW W).J W v (litD (litOf y.1)))
    {fuel : Nat} {cs : List Value} {L : List (Lit × DataW H)} {p : List MemPlace} (h : DataW.trod enc P W 0 (fun _ => true) held fuel t cs = some (.map L, p)) :
    ∃ (es : List (D × D)) (v : Value), cs = [v] ∧ R1 (cW W).I (cW W).J W v (.gmap es) ∧ ∀ kv, kv ∈ es ↔ kv ∈ L.map conv := by
  rcases open_map ht h with ⟨_, hx⟩ | ⟨b, ents, clk, n, _, rfl, hb, _, F, hx⟩
  · cases hx
  simp only [Prod.mk.injEq, DataW.map.injEq] at hx
  refine ⟨ents.toList.map fun x => conv (rg P k (elemAt enc P W 0 (fun _ => true) held n e) x), _, rfl, ?_, fun kv => ?_⟩
  · have key : ∀ (i : Nat) kv, (ents.toList.map fun x => conv (rg P k (elemAt enc P W 0 (fun _ => true) held n e) x))[i]? = some kv → R1 (cW W).I (cW W).J W (ents.getD i default).key kv.1 ∧ R1 (cW W).I (cW W).J W (ents.getD i default).val kv.2 := by
      intro i kv hi
      rw [List.getElem?_map, Option.map_eq_some_iff] at hi
      obtain ⟨x, hx1, rfl⟩ := hi
      have hg : ents.getD i default = x := by
        rw [Array.getElem?_toList] at hx1
        simp [Array.getD_eq_getD_getElem?, hx1]
      obtain ⟨y, hy⟩ := F.reads x (List.mem_of_getElem? hx1)
      rw [hg, rg_of hy]
      obtain ⟨z, hz, hz2⟩ := rd_val hy
      refine ⟨hkey _ _ (rd_key hy), ?_⟩
      show R1 _ _ W x.val (litD (litOf y.2))
      rw [hz2]
      exact hel n _ _ hz
    exact .gmap b ents clk _ ⟨ents, clk, hb⟩ hb (by simp) (fun i kv h => (key i kv h).1) (fun i kv h => (key i kv h).2)
  · rw [hx.1]
    simp only [List.mem_map, mem_foldr]
    constructor
    · rintro ⟨x, hx, rfl⟩; exact ⟨_, ⟨x, hx, rfl⟩, rfl⟩
    · rintro ⟨_, ⟨x, hx, rfl⟩, rfl⟩; exact ⟨x, hx, rfl⟩

theorem key_int {k : TypeId} {q : IntKind} (hk : P.underlying k = some (.int q)) (v : Value) (l : Lit) (h : keyOf P k v = some l) : R1 (cW W).I (cW W).J W v (litD l) := by
  rw [keyOf_int hk] at h
  unfold mapKey at h
  rw [hk] at h
  split at h <;> simp_all
  obtain ⟨⟨rfl, _⟩, rfl⟩ := h
  exact .int _ _
theorem key_str {k : TypeId} (hk : P.underlying k = some .string) (v : Value) (l : Lit) (h : keyOf P k v = some l) : R1 (cW W).I (cW W).J W v (litD l) := by
  rw [keyOf_string hk] at h
  unfold mapKey at h
  rw [hk] at h
  split at h <;> simp_all
  obtain ⟨_, rfl⟩ := h
  rw [byte_str]
  exact .str _
theorem el_int {e : TypeId} {q : IntKind} (he : P.underlying e = some (.int q)) (n : Nat) (v : Value) (y : DataW H × List MemPlace) (h : elemAt enc P W 0 (fun _ => true) held n e v = some y) : R1 (cW W).I (cW W).J W v (litD (litOf y.1)) := by
  obtain ⟨a, rfl, rfl, _⟩ := elemAt_int he h
  exact .int _ _
theorem el_bool {e : TypeId} (he : P.underlying e = some .bool) (n : Nat) (v : Value) (y : DataW H × List MemPlace) (h : elemAt enc P W 0 (fun _ => true) held n e v = some y) : R1 (cW W).I (cW W).J W v (litD (litOf y.1)) := by
  obtain ⟨a, rfl, rfl⟩ := elemAt_bool he h
  exact .bool _
theorem el_str {e : TypeId} (he : P.underlying e = some .string) (n : Nat) (v : Value) (y : DataW H × List MemPlace) (h : elemAt enc P W 0 (fun _ => true) held n e v = some y) : R1 (cW W).I (cW W).J W v (litD (litOf y.1)) := by
  unfold elemAt at h
  split at h
  · rename_i hf
    obtain ⟨s, hc, hz, _⟩ := DataW.trod_string he h
    cases v <;> simp [Value.formed, he, Value.cells] at hf hc
    subst hc
    rw [hz, byte_str]
    exact .str _
  · cases h

/-- One listed variable. -/
theorem laid_mem {laid : List (String × DataW Unit)} : ∀ {ps : List MemPlace}, DataW.LaidVars P W laid ps → ∀ {n d}, (n, d) ∈ laid →
    ∃ g t cs fuel p, P.globalNamed n = some g ∧ (P.globals[g]?).map (·.type) = some t ∧ W.var? P n = some cs ∧ DataW.trod (fun _ => ()) P W 0 (fun _ => true) false fuel t cs.toList = some (d, p) := by
  induction laid with
  | nil => intro ps _ n d h; cases h
  | cons x r ih =>
    obtain ⟨n0, d0⟩ := x
    rintro ps ⟨g, t, cs, fuel, p, q, h1, h2, h3, h4, h5, _⟩ n d hm
    rcases List.mem_cons.1 hm with h | h
    · cases h; exact ⟨g, t, cs, fuel, p, h1, h2, h3, h4⟩
    · exact ih h5 h
end

/-- The same entries give the same answers. -/
theorem lookD_same {es L : List (D × D)} (k : D) (h : ∀ kv, kv ∈ es ↔ kv ∈ L) (hb : ∀ kv ∈ L, ∀ kv' ∈ L, beqD k kv.1 = true → beqD k kv'.1 = true → kv = kv') : lookD es k = lookD L k := by
  unfold lookD
  cases h1 : es.find? fun kv => beqD k kv.1 with
  | none =>
    rw [List.find?_eq_none] at h1
    have : L.find? (fun kv => beqD k kv.1) = none := by
      rw [List.find?_eq_none]
      exact fun x hx => h1 x ((h x).2 hx)
    rw [this]
  | some kv =>
    have hm := List.mem_of_find?_eq_some h1
    have hp := List.find?_some h1
    cases h2 : L.find? fun kv => beqD k kv.1 with
    | none =>
      rw [List.find?_eq_none] at h2
      exact absurd hp (h2 kv ((h kv).1 hm))
    | some kv' =>
      have hp' := List.find?_some h2
      rw [hb kv ((h kv).1 hm) kv' (List.mem_of_find?_eq_some h2) hp hp']

theorem beq_int {a : Int} {p : D × D} (k : Int) (h1 : p.1 = .int .i64 a) : beqD (.int .i64 k) p.1 = true ↔ k = a := by rw [h1]; simp [beqD]

theorem lookI (L : List (Int × Int)) (hL : (L.map Prod.fst).Nodup) {es : List (D × D)} (h : ∀ kv, kv ∈ es ↔ kv ∈ L.map fun p => (D.int .i64 p.1, D.int .i64 p.2)) (k : Int) : lookD es (.int .i64 k) = (L.lookup k).map (.int .i64) := by
  rw [lookD_same _ h ?_]
  · clear h hL
    induction L with
    | nil => rfl
    | cons p r ih =>
      obtain ⟨a, b⟩ := p
      unfold lookD at ih ⊢
      rw [List.map_cons, List.find?_cons, List.lookup_cons]
      simp only [beqD]
      cases hk : k == a with
      | true => rfl
      | false => exact ih
  · intro kv h1 kv' h2 e1 e2
    obtain ⟨p, hp, rfl⟩ := List.mem_map.1 h1
    obtain ⟨q, hq, rfl⟩ := List.mem_map.1 h2
    simp only [beqD, beq_iff_eq] at e1 e2
    have : p = q := inj_fst hL hp hq (e1.symm.trans e2)
    rw [this]
 where
  inj_fst {α β : Type} : ∀ {L : List (α × β)}, (L.map Prod.fst).Nodup → ∀ {p q}, p ∈ L → q ∈ L → p.1 = q.1 → p = q
    | [], _, _, _, h, _, _ => by cases h
    | a :: L, hn, p, q, hp, hq, he => by
      rw [List.map_cons, List.nodup_cons] at hn
      rcases List.mem_cons.1 hp with rfl | hp' <;> rcases List.mem_cons.1 hq with rfl | hq'
      · rfl
      · exact absurd (he ▸ List.mem_map_of_mem hq') hn.1
      · exact absurd (he ▸ List.mem_map_of_mem hp') hn.1
      · exact inj_fst hn.2 hp' hq' he

theorem lookS (L : List (List UInt8 × List UInt8)) (hL : (L.map Prod.fst).Nodup) {es : List (D × D)} (h : ∀ kv, kv ∈ es ↔ kv ∈ L.map fun p => (D.str p.1, D.str p.2)) (k : List UInt8) : lookD es (.str k) = (L.lookup k).map .str := by
  rw [lookD_same _ h ?_]
  · clear h hL
    induction L with
    | nil => rfl
    | cons p r ih =>
      obtain ⟨a, b⟩ := p
      unfold lookD at ih ⊢
      rw [List.map_cons, List.find?_cons, List.lookup_cons]
      simp only [beqD]
      cases hk : k == a with
      | true => rfl
      | false => exact ih
  · intro kv h1 kv' h2 e1 e2
    obtain ⟨p, hp, rfl⟩ := List.mem_map.1 h1
    obtain ⟨q, hq, rfl⟩ := List.mem_map.1 h2
    simp only [beqD, beq_iff_eq] at e1 e2
    have : p = q := lookI.inj_fst hL hp hq (e1.symm.trans e2)
    rw [this]

theorem lookB (L : List (List UInt8)) {es : List (D × D)} (h : ∀ kv, kv ∈ es ↔ kv ∈ L.map fun p => (D.str p, D.bool true)) (k : List UInt8) : lookD es (.str k) = if L.contains k then some (.bool true) else none := by
  rw [lookD_same _ h ?_]
  · clear h
    induction L with
    | nil => rfl
    | cons a r ih =>
      unfold lookD at ih ⊢
      rw [List.map_cons, List.find?_cons, List.contains_cons]
      simp only [beqD]
      cases hk : k == a with
      | true => rfl
      | false => exact ih
  · intro kv h1 kv' h2 e1 e2
    obtain ⟨p, hp, rfl⟩ := List.mem_map.1 h1
    obtain ⟨q, hq, rfl⟩ := List.mem_map.1 h2
    simp only [beqD, beq_iff_eq] at e1 e2
    rw [← e1, ← e2]

open Go.Proofs.YtkaadmkjjfcakaaDoor (Rows.laid_chalkline_formula_arity Rows.laid_chalkline_formula_signs Rows.laid_chalkline_formula_duals Rows.laid_chalkline_formula_reserved)

theorem u58 : Tryd.prog.underlying 58 = some (.map 3 3) := by kernel_rfl
theorem u60 : Tryd.prog.underlying 60 = some (.map 9 9) := by kernel_rfl
theorem u74 : Tryd.prog.underlying 74 = some (.map 9 4) := by kernel_rfl
theorem u4 : Tryd.prog.underlying 4 = some .bool := by kernel_rfl

theorem arr_one {cs : Array Value} {v : Value} (h : cs.toList = [v]) : cs[0]? = some v := by
  rw [← Array.getElem?_toList, h]; rfl

def keysOf : DataW Unit → List (List UInt8)
  | .map L => L.map fun p => match p.1 with | .string s => s | _ => []
  | _ => []
def resK : List (List UInt8) := keysOf Rows.laid_chalkline_formula_reserved
theorem resK_iff (s : List UInt8) : s ∈ resK ↔ s ∈ words :=
  ⟨(by decide +kernel : ∀ s ∈ resK, s ∈ words) s, (by decide +kernel : ∀ s ∈ words, s ∈ resK) s⟩

/-- The maps of the world that the row lists. -/
theorem maps_of {W : World} {laid : List (String × DataW Unit)} {ps : List MemPlace} (h : DataW.LaidVars Tryd.prog W laid ps)
    (h0 : ("chalkline/formula.arity", Rows.laid_chalkline_formula_arity) ∈ laid) (h1 : ("chalkline/formula.signs", Rows.laid_chalkline_formula_signs) ∈ laid)
    (h2 : ("chalkline/formula.duals", Rows.laid_chalkline_formula_duals) ∈ laid) (h3 : ("chalkline/formula.reserved", Rows.laid_chalkline_formula_reserved) ∈ laid) :
    ∃ M : Maps, M.Ok ∧ GR (GG M) (cW W) W := by
  obtain ⟨g, t, cs, fuel, p, a1, a2, a3, a4⟩ := laid_mem h h0
  obtain rfl := Option.some.inj ((show Tryd.prog.globalNamed "chalkline/formula.arity" = some 0 by kernel_rfl).symm.trans a1)
  obtain rfl := Option.some.inj ((show (Tryd.prog.globals[0]?).map (·.type) = some 58 by kernel_rfl).symm.trans a2)
  obtain ⟨ar, v0, e0, r0, m0⟩ := trodMap u58 (key_int Tryd.underlying3) (el_int Tryd.underlying3) a4
  have c0 := (World.var?_cell a1 a3 0).trans (arr_one e0)
  clear a1 a2 a3 a4
  obtain ⟨g, t, cs, fuel, p, a1, a2, a3, a4⟩ := laid_mem h h1
  obtain rfl := Option.some.inj ((show Tryd.prog.globalNamed "chalkline/formula.signs" = some 1 by kernel_rfl).symm.trans a1)
  obtain rfl := Option.some.inj ((show (Tryd.prog.globals[1]?).map (·.type) = some 60 by kernel_rfl).symm.trans a2)
  obtain ⟨si, v1, e1, r1, m1⟩ := trodMap u60 (key_str Tryd.underlying9) (el_str Tryd.underlying9) a4
  have c1 := (World.var?_cell a1 a3 0).trans (arr_one e1)
  clear a1 a2 a3 a4
  obtain ⟨g, t, cs, fuel, p, a1, a2, a3, a4⟩ := laid_mem h h2
  obtain rfl := Option.some.inj ((show Tryd.prog.globalNamed "chalkline/formula.duals" = some 2 by kernel_rfl).symm.trans a1)
  obtain rfl := Option.some.inj ((show (Tryd.prog.globals[2]?).map (·.type) = some 58 by kernel_rfl).symm.trans a2)
  obtain ⟨du, v2, e2, r2, m2⟩ := trodMap u58 (key_int Tryd.underlying3) (el_int Tryd.underlying3) a4
  have c2 := (World.var?_cell a1 a3 0).trans (arr_one e2)
  clear a1 a2 a3 a4
  obtain ⟨g, t, cs, fuel, p, a1, a2, a3, a4⟩ := laid_mem h h3
  obtain rfl := Option.some.inj ((show Tryd.prog.globalNamed "chalkline/formula.reserved" = some 3 by kernel_rfl).symm.trans a1)
  obtain rfl := Option.some.inj ((show (Tryd.prog.globals[3]?).map (·.type) = some 74 by kernel_rfl).symm.trans a2)
  obtain ⟨re, v3, e3, r3, m3⟩ := trodMap u74 (key_str Tryd.underlying9) (el_bool u4) a4
  have c3 := (World.var?_cell a1 a3 0).trans (arr_one e3)
  clear a1 a2 a3 a4
  have all : ∀ {es L : List (D × D)} (q : D × D → Bool), (∀ kv, kv ∈ es ↔ kv ∈ L) → L.all q = true → es.all q = true := by
    intro es L q h hq
    rw [List.all_eq_true] at hq ⊢
    exact fun x hx => hq x ((h x).1 hx)
  have n3 : ∀ kv, kv ∈ re ↔ kv ∈ words.map fun p => (D.str p, D.bool true) := by
    have m3' : ∀ kv, kv ∈ re ↔ kv ∈ resK.map fun p => (D.str p, D.bool true) := m3
    intro kv
    rw [m3']
    simp only [List.mem_map, resK_iff]
  refine ⟨⟨ar, si, du, re⟩, ⟨all _ m0 (by kernel_rfl), all _ m1 (by kernel_rfl), all _ m2 (by kernel_rfl), all _ m3 (by kernel_rfl), lookI arL (by decide) m0, lookS siL (by decide) m1, lookI duL (by decide) m2, lookB words n3⟩, ?_⟩
  intro g cs hg j x hx
  have one : ∀ {d : D} {v : Value} {g : Nat}, cs = [d] → W.cell? ⟨g, 0, none⟩ = some v → R1 (cW W).I (cW W).J W v d → (cW W).I g j ∧ ∃ v, W.cell? ⟨g, j, none⟩ = some v ∧ R1 (cW W).I (cW W).J W v x := by
    intro d v g hc hv hr
    subst hc
    match j, hx with
    | 0, hx =>
      simp only [List.getElem?_cons_zero, Option.some.injEq] at hx
      subst hx
      exact ⟨⟨v, hv⟩, v, hv, hr⟩
  match g, hg with
  | 0, hg => exact one (Option.some.inj hg).symm c0 r0
  | 1, hg => exact one (Option.some.inj hg).symm c1 r1
  | 2, hg => exact one (Option.some.inj hg).symm c2 r2
  | 3, hg => exact one (Option.some.inj hg).symm c3 r3
  | _ + 4, hg => cases hg
end Go.Fo
/- The contract in the claim's form. -/
namespace Go.Fo
open Go Go.Sx Go.Proofs
open Go.ChangeShapes Go.WideShapes Go.RowKit
open Go.Proofs.YtkaadmkjjfcakaaDoor (Rows.uptoBulk Rows.uptoBulkAll Rows.uptoSmall Rows.laid_chalkline_formula_arity Rows.laid_chalkline_formula_signs Rows.laid_chalkline_formula_duals Rows.laid_chalkline_formula_reserved)
set_option maxRecDepth 100000

theorem laidOut : laidOutB Tryd.prog = true := by kernel_rfl

section
variable {H : Type} {enc : TypeId × Value → H} {W : World}

theorem trodAll_below {W' : World} (hb : Below W.heap.size W W') : ∀ {ts : List TypeId} {vs : List Value} {ds : List (DataW H)} {ps : List MemPlace}, (∀ t ∈ ts, Tryd.prog.readableRec t = true ∧ t < Tryd.prog.types.size) →
    DataW.TrodAll enc Tryd.prog W 0 (fun _ => true) true ts vs ds ps → (∀ x ∈ ps, x.block < W.heap.size) → DataW.TrodAll enc Tryd.prog W' 0 (fun b => decide (b < W.heap.size)) true ts vs ds ps := by
  intro ts
  induction ts with
  | nil =>
    intro vs ds ps _ h _
    cases vs <;> cases ds <;> simp [DataW.TrodAll] at h ⊢
    exact h
  | cons t ts ih =>
    intro vs ds ps ht h hlt
    obtain ⟨v, vs', d, ds', p, q, rfl, rfl, rfl, h1, h2⟩ := trodAll_cons h
    exact trodAll_cons_mk (Below.trod laidOut (ht t (by simp)).1 (ht t (by simp)).2 h1 hb fun x hx => hlt x (by simp [hx])) (ih (fun t' h' => ht t' (by simp [h'])) h2 fun x hx => hlt x (by simp [hx]))

/-- What a walk gives the claim's form. -/
theorem contractG {f : FuncId} {fn : Func} {s : ChangeSpec} {args : Array Value} {ds gs : List (DataW H)} {before : List MemPlace} {laid : List (String × DataW Unit)} {xs : List D} (hr : fn.resultTypes = #[4]) (hv : s.vars = [])
    (hfn : ∀ H (ds' : List (DataW H)), ds'.length = ds.length → (s.fn H ds').results = [.lit (.bool true)] ∧ (s.fn H ds').args = ds' ∧ (s.fn H ds').vars = []) (hts : ∀ t ∈ fn.params.toList, Tryd.prog.readableRec t = true ∧ t < Tryd.prog.types.size)
    (hW : DataW.Whole enc Tryd.prog fn.params.toList s.vars false W args.toList ds gs before)
    (hh : (laid.all fun x => x.2.handleName?.isNone) = true) (hL : laidMetH Tryd.prog laid W)
    (m0 : ("chalkline/formula.arity", Rows.laid_chalkline_formula_arity) ∈ laid) (m1 : ("chalkline/formula.signs", Rows.laid_chalkline_formula_signs) ∈ laid)
    (m2 : ("chalkline/formula.duals", Rows.laid_chalkline_formula_duals) ∈ laid) (m3 : ("chalkline/formula.reserved", Rows.laid_chalkline_formula_reserved) ∈ laid)
    (hx : All2 (RV (cW W).I (cW W).J W) args.toList xs) (h : ∀ M : Maps, M.Ok → PFn Tryd.prog (GG M) f xs (· = [.bool true])) :
    Calls Tryd.prog f args W fun e W' => ∃ v, e = .returned v ∧ s.post enc Tryd.prog fn false true false false W args v W' := by
  rw [MakeChecks.laidMetH_plain _ _ _ hh] at hL
  obtain ⟨ps, hL, _⟩ := hL
  obtain ⟨M, hM, hG⟩ := maps_of hL m0 m1 m2 m3
  have hc := (h M hM).run (cW W) W args.toList rfl (hrW W) hG hx
  rw [Array.toArray_toList] at hc
  refine hc.mono fun e W' hq => ?_
  obtain ⟨v, rs, c', rfl, rfl, hρ, he, hR, hres⟩ := hq
  have hvb : v = .bool true := by
    have h1 : RV c'.I c'.J W' v (.bool true) := hres
    simp only [RV] at h1
    cases h1; rfl
  subst hvb
  have hb : Below W.heap.size W W' := ⟨he.os, he.tape, he.output, he.size, fun k hk => he.frame k hk fun l k' hh => by simp [cW] at hh⟩
  have hlt := hW.lt
  have hW' := hW
  obtain ⟨p, q, hA, hV, rfl, hfz, hnd⟩ := hW
  rw [hv] at hV
  obtain ⟨rfl, rfl⟩ := trodVars_none hV
  obtain ⟨e1, e2, e3⟩ := hfn H (ds ++ []) (by simp)
  refine ⟨_, rfl, ds, [], p ++ [], [], p, [], hW', ?_, ?_, ?_, hb.frame _, fun h => by cases h⟩
  · rw [e1, hr]
    exact trodAll_mk1 (shut_bool u4 _)
  · rw [e2, List.append_nil]
    exact trodAll_below hb hts hA fun x hx => hlt x (by simp [hx])
  · rw [e3, hv]; rfl

theorem small_of {ds : List (DataW H)} (h : Rows.uptoSmall H ds = true) : Rows.uptoBulkAll ds ≤ 1048576 := of_decide_eq_true h

/-- An argument that is a formula. -/
theorem arg26 {base : Nat} {v : Value} {d : DataW H} {p : List MemPlace} (hok : Value.okWide Tryd.prog W .any base 26 v) (h : DataW.Trod enc Tryd.prog W 0 (fun _ => true) true 26 v d p) :
    ∃ f : Fm, RV (cW W).I (cW W).J W v f.d ∧ f.wt ≤ Rows.uptoBulk d := by
  obtain ⟨cs, rfl, _⟩ := okWide_struct Tryd.underlying26 hok
  obtain ⟨fuel, hf⟩ := h
  obtain ⟨f, h1, h2⟩ := trodFm _ _ _ hf
  refine ⟨f, ?_, h2⟩
  rw [f.d_eq] at h1 ⊢
  exact ⟨cs.toList, by simp, by simpa [Value.cells, D.cells] using h1⟩
end
end Go.Fo
/- The witness world. -/
namespace Go.Fo
open Go Go.Sx Go.Proofs
open Go.ChangeShapes Go.WideShapes Go.ChangeAt Go.RowKit
open Go.Proofs.YtkaadmkjjfcakaaDoor
set_option maxRecDepth 100000

def zeroFm : Value := .agg #[.int .i64 0, .string ⟨#[]⟩, .int .i64 0, .slice none 0 0, .slice none 0 0, .slice none 0 0]

def litV : DataW Unit → Value
  | .lit (.int k n) => .int k n
  | _ => .bool false
def partsV : DataW Unit → Array Value
  | .agg l => (l.map litV).toArray
  | _ => #[]
/-- The world that the program's own start lays, and Go's pinned table. -/
noncomputable def laidWorld (os : Os) : World :=
  { World.doorLaid Tryd.prog 400 os with heap := (World.doorLaid Tryd.prog 400 os).heap.modify 4 fun
      | .cells _ t frozen => .cells (partsV Rows.laid_unicode_utf8_first) t frozen
      | o => o }

theorem laid_met (os : Os) (args : Array Value) : laidMet Tryd.prog Rows.formCheckSpecUptoRow.laid ((laidWorld os).forCall (fun _ _ => 0) ⟨#[], args, []⟩).memory :=
  laidMet_of_run' 8 (by kernel_rfl) (by kernel_rfl)
end Go.Fo
/- The witness world's shape. -/
namespace Go.Fo
open Go Go.Sx Go.Proofs
open Go.ChangeShapes Go.WideShapes Go.ChangeAt Go.RowKit
open Go.Proofs.YtkaadmkjjfcakaaDoor
set_option maxRecDepth 100000

theorem own : ownKnob Tryd.prog.godebug = none := by kernel_rfl
theorem laid_vars (os : Os) (args : Array Value) : ((laidWorld os).forCall (fun _ _ => 0) ⟨#[], args, []⟩).variablesRefB Tryd.prog = true := by kernel_rfl
theorem laid_rest (os : Os) (args : Array Value) : (((laidWorld os).forCall (fun _ _ => 0) ⟨#[], args, []⟩).heap.toList.drop Tryd.prog.globals.size).take ((begin Tryd.prog (fun _ _ => 0) default).world.heap.size - Tryd.prog.globals.size) =
      (begin Tryd.prog (fun _ _ => 0) default).world.heap.toList.drop Tryd.prog.globals.size := by kernel_rfl
def zeroD {H : Type} : DataW H := .agg [.lit (.int .i64 0), .lit (.string []), .lit (.int .i64 0), .nil, .nil, .nil]
end Go.Fo
