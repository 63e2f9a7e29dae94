/- Joined texts: the walk by computed conditions, the contracts of the functions, the plain laws. -/
import Derived.Test.YtkaadmkjjfcakaaDoorP3
/- The program's own normal form. -/
namespace Go.Fo
open Go Go.Sx Go.Proofs
set_option maxRecDepth 100000
set_option maxHeartbeats 0

def put5 : Box → AV → Box
  | .cells T cs, a => .cells T (cs.set 5 a)
  | x, _ => x

theorem right_eq (f : Fm) (t : Bool) : f.right t =
    if (alwaysB f && t || f.kind == 2 && !t) = true then .mk 2 [] 0 [] [] []
    else if (alwaysB f || f.kind == 2) = true then .mk 1 [] 0 [] [] []
    else if f.kind = 10 then ((f.l.map (·.right (!t)))).getD 0 nil0
    else if f.kind = 13 then .mk (if t then 11 else 12) [] 0 [] [] [(f.l.map (·.right (!t))).getD 0 nil0, (f.l.map (·.right t)).getD 1 nil0]
    else if (atomB f.kind && t && f.kind != 9) = true then .mk 10 [] 0 [] [] [f]
    else .mk (if t && f.kind != 9 then dualI f.kind else f.kind) (if t && f.kind == 9 then turnS f.name else f.name) (if t && f.kind == 16 then f.n - 1 else if t && f.kind == 17 then f.n + 1 else f.n) f.ts f.bs (f.l.map (·.right (t && !countB f.kind))) := by
  cases f
  rw [Fm.right]
  simp only [rights_eq]
  rfl

theorem dual_look (k : Int) : (duL.lookup k).getD 0 = dualI k := by
  unfold duL dualI
  simp only [List.lookup]
  by_cases h1 : k = 1
  · subst h1; rfl
  by_cases h2 : k = 2
  · subst h2; rfl
  by_cases h3 : k = 11
  · subst h3; rfl
  by_cases h4 : k = 12
  · subst h4; rfl
  by_cases h5 : k = 14
  · subst h5; rfl
  by_cases h6 : k = 15
  · subst h6; rfl
  by_cases h7 : k = 16
  · subst h7; rfl
  by_cases h8 : k = 17
  · subst h8; rfl
  simp only [beq_eq_false_iff_ne.2 h1, beq_eq_false_iff_ne.2 h2, beq_eq_false_iff_ne.2 h3, beq_eq_false_iff_ne.2 h4, beq_eq_false_iff_ne.2 h5, beq_eq_false_iff_ne.2 h6, beq_eq_false_iff_ne.2 h7, beq_eq_false_iff_ne.2 h8, if_neg h1, if_neg h2, if_neg h3, if_neg h4, if_neg h5, if_neg h6, if_neg h7, if_neg h8]
  rfl

theorem sign_turn (s : List UInt8) (h : signB s = true) : (siL.lookup s).getD [] = turnS s := by
  unfold signB at h
  simp only [Bool.or_eq_true, beq_iff_eq] at h
  rcases h with ((((h | h) | h) | h) | h) | h <;> subst h <;> rfl

section
variable {M : Maps}
theorem fn38 (hM : M.Ok) (f : Fm) (hb : f.formB = true) (t : Bool) : PFn Tryd.prog (GG M) 38 [f.d, .bool t] (· = [(f.right t).d]) := by
  induction f using Fm.induct generalizing t with
  | h f ih =>
  have hnode : nodeB f = true ∧ f.l.all Fm.formB = true := by
    rw [f.formB_eq, formsB_all] at hb
    simpa using hb
  have hall : ∀ x ∈ f.l, x.formB = true := List.all_eq_true.1 hnode.2
  have hsh := formB_shape hb
  have hlen : f.l.length ≤ 2 := by cases hsh <;> simp [Fm.l]
  have htl : f.ts.length ≤ 2 := by cases hsh <;> simp [Fm.ts]
  have hbl : f.bs.length ≤ 6 := by cases hsh <;> simp [Fm.bs] <;> assumption
  have hl10 : f.kind = 10 → ∃ x, f.l = [x] := by
    intro hk
    cases hsh <;> simp [Fm.kind, Fm.l] at hk ⊢ <;> omega
  have hl13 : f.kind = 13 → ∃ x y, f.l = [x, y] := by
    intro hk
    cases hsh <;> simp [Fm.kind, Fm.l] at hk ⊢ <;> omega
  have hsg : f.kind = 9 → signB f.name = true := by
    intro hk
    cases hsh <;> simp [Fm.kind, Fm.name] at hk ⊢ <;> first | omega | assumption
  have hn0 : (f.kind = 16 ∨ f.kind = 17) → 0 ≤ f.n ∧ f.n ≤ 1099511627776 := by
    intro hk
    cases hsh <;> simp [Fm.kind, Fm.n] at hk ⊢ <;> first | omega | (constructor <;> assumption)
  have h56 := fn56 (G := GG M) f
  generalize hr : (f.right t).d = r
  rw [d_cells] at h56 ⊢
  refine PFn.walk (fn := Tryd.f38) (code := bodyOf Tryd.f38) mixed
    (LL [(26, loopW (α := Nat) Tryd.prog (GG M) L0 0 (loopN (bodyOf Tryd.f38) 0) [1, 2, 4, 6, 126, 127] (fun i => i ≤ f.l.length) (fun i => f.l.length - i)
      (fun i => [(128, .d (.int .i64 i))]) (fun H i => [H.getD 0 .dead, H.getD 1 .dead, put5 (H.getD 2 .dead) (.vec 3 (((f.l.take i).map (·.right (t && !countB f.kind))).map Fm.d)), .vec i 6]))])
    Tryd.func38 (by kernel_rfl) ⟨_, rfl⟩ (LoopsOk.one (b1 := loopN (bodyOf Tryd.f38) 0) (by kernel_rfl) (by kernel_rfl) (loopW_sound mixed (ok0 (by kernel_rfl)))) ?_
  apply @of_vc _ (
    PFn Tryd.prog (GG M) (56 : Nat)
     [D.agg [D.int IntKind.i64 (Fm.kind f), D.str (Fm.name f), D.int IntKind.i64 (Fm.n f), D.sl (List.map Tm.d (Fm.ts f)), D.sl (List.map Bd.d (Fm.bs f)), D.sl (List.map Fm.d (Fm.l f))]]
     fun (rs : List D) =>
     ∃ (b : Bool),
      rs = [D.bool b] ∧
       ((bif bif b then t else false then true else bif Fm.kind f == (2 : Int) then !t else false) = true →
         [D.agg [D.int IntKind.i64 (2 : Int), D.str (Array.toList (ByteArray.data { data := #[] })), D.int IntKind.i64 (0 : Int), D.sl [], D.sl [], D.sl []]] = [r]) ∧
        ((bif bif b then t else false then true else bif Fm.kind f == (2 : Int) then !t else false) = false →
         PFn Tryd.prog (GG M) (56 : Nat)
          [D.agg [D.int IntKind.i64 (Fm.kind f), D.str (Fm.name f), D.int IntKind.i64 (Fm.n f), D.sl (List.map Tm.d (Fm.ts f)), D.sl (List.map Bd.d (Fm.bs f)), D.sl (List.map Fm.d (Fm.l f))]]
          fun (rs : List D) =>
          ∃ (b : Bool),
           rs = [D.bool b] ∧
            ((bif b then true else Fm.kind f == (2 : Int)) = true →
              [D.agg [D.int IntKind.i64 (1 : Int), D.str (Array.toList (ByteArray.data { data := #[] })), D.int IntKind.i64 (0 : Int), D.sl [], D.sl [], D.sl []]] = [r]) ∧
             ((bif b then true else Fm.kind f == (2 : Int)) = false →
              ((Fm.kind f == (10 : Int)) = true →
                ((0 : Int) ≤ (0 : Int) ∧
                  (List.map Fm.d (Fm.l f))[Int.toNat (0 : Int)]? =
                   some (aggAt [Sh.int IntKind.i64, Sh.str, Sh.int IntKind.i64, Sh.sl, Sh.sl, Sh.sl] (List.map Fm.d (Fm.l f)) (Int.toNat (0 : Int)))) ∧
                 PFn Tryd.prog (GG M) (38 : Nat) [aggAt [Sh.int IntKind.i64, Sh.str, Sh.int IntKind.i64, Sh.sl, Sh.sl, Sh.sl] (List.map Fm.d (Fm.l f)) (Int.toNat (0 : Int)), D.bool !t]
                  fun (rs : List D) =>
                  ∃ (n : Int),
                   ∃ (s : List UInt8),
                    ∃ (n_1 : Int),
                     ∃ (l : List D),
                      ∃ (l_1 : List D),
                       ∃ (l_2 : List D),
                        rs = [D.agg [D.int IntKind.i64 n, D.str s, D.int IntKind.i64 n_1, D.sl l, D.sl l_1, D.sl l_2]] ∧
                         [D.agg [D.int IntKind.i64 n, D.str s, D.int IntKind.i64 n_1, D.sl l, D.sl l_1, D.sl l_2]] = [r]) ∧
               ((Fm.kind f == (10 : Int)) = false →
                ((Fm.kind f == (13 : Int)) = true →
                  ((0 : Int) ≤ (0 : Int) ∧
                    (List.map Fm.d (Fm.l f))[Int.toNat (0 : Int)]? =
                     some (aggAt [Sh.int IntKind.i64, Sh.str, Sh.int IntKind.i64, Sh.sl, Sh.sl, Sh.sl] (List.map Fm.d (Fm.l f)) (Int.toNat (0 : Int)))) ∧
                   ((0 : Int) ≤ (1 : Int) ∧
                     (List.map Fm.d (Fm.l f))[Int.toNat (1 : Int)]? =
                      some (aggAt [Sh.int IntKind.i64, Sh.str, Sh.int IntKind.i64, Sh.sl, Sh.sl, Sh.sl] (List.map Fm.d (Fm.l f)) (Int.toNat (1 : Int)))) ∧
                    PFn Tryd.prog (GG M) (38 : Nat) [aggAt [Sh.int IntKind.i64, Sh.str, Sh.int IntKind.i64, Sh.sl, Sh.sl, Sh.sl] (List.map Fm.d (Fm.l f)) (Int.toNat (0 : Int)), D.bool !t]
                     fun (rs : List D) =>
                     ∃ (n : Int),
                      ∃ (s : List UInt8),
                       ∃ (n_1 : Int),
                        ∃ (l : List D),
                         ∃ (l_1 : List D),
                          ∃ (l_2 : List D),
                           rs = [D.agg [D.int IntKind.i64 n, D.str s, D.int IntKind.i64 n_1, D.sl l, D.sl l_1, D.sl l_2]] ∧
                            PFn Tryd.prog (GG M) (38 : Nat)
                             [aggAt [Sh.int IntKind.i64, Sh.str, Sh.int IntKind.i64, Sh.sl, Sh.sl, Sh.sl] (List.map Fm.d (Fm.l f)) (Int.toNat (1 : Int)), D.bool t]
                             fun (rs : List D) =>
                             ∃ (n_2 : Int),
                              ∃ (s_1 : List UInt8),
                               ∃ (n_3 : Int),
                                ∃ (l_3 : List D),
                                 ∃ (l_4 : List D),
                                  ∃ (l_5 : List D),
                                   rs = [D.agg [D.int IntKind.i64 n_2, D.str s_1, D.int IntKind.i64 n_3, D.sl l_3, D.sl l_4, D.sl l_5]] ∧
                                    (t = true →
                                      [D.agg
                                         [D.int IntKind.i64 (11 : Int), D.str (Array.toList (ByteArray.data { data := #[] })), D.int IntKind.i64 (0 : Int), D.sl [],
                                          D.sl [],
                                          D.sl
                                           [D.agg [D.int IntKind.i64 n, D.str s, D.int IntKind.i64 n_1, D.sl l, D.sl l_1, D.sl l_2],
                                            D.agg [D.int IntKind.i64 n_2, D.str s_1, D.int IntKind.i64 n_3, D.sl l_3, D.sl l_4, D.sl l_5]]]] =
                                       [r]) ∧
                                     (t = false →
                                      [D.agg
                                         [D.int IntKind.i64 (12 : Int), D.str (Array.toList (ByteArray.data { data := #[] })), D.int IntKind.i64 (0 : Int), D.sl [],
                                          D.sl [],
                                          D.sl
                                           [D.agg [D.int IntKind.i64 n, D.str s, D.int IntKind.i64 n_1, D.sl l, D.sl l_1, D.sl l_2],
                                            D.agg [D.int IntKind.i64 n_2, D.str s_1, D.int IntKind.i64 n_3, D.sl l_3, D.sl l_4, D.sl l_5]]]] =
                                       [r])) ∧
                 ((Fm.kind f == (13 : Int)) = false →
                  PFn Tryd.prog (GG M) (42 : Nat) [D.int IntKind.i64 (Fm.kind f)] fun (rs : List D) =>
                   ∃ (b : Bool),
                    rs = [D.bool b] ∧
                     ((bif bif b then t else false then Fm.kind f != (9 : Int) else false) = true →
                       [D.agg
                          [D.int IntKind.i64 (10 : Int), D.str (Array.toList (ByteArray.data { data := #[] })), D.int IntKind.i64 (0 : Int), D.sl [], D.sl [],
                           D.sl
                            [D.agg
                              [D.int IntKind.i64 (Fm.kind f), D.str (Fm.name f), D.int IntKind.i64 (Fm.n f), D.sl (List.map Tm.d (Fm.ts f)), D.sl (List.map Bd.d (Fm.bs f)),
                               D.sl (List.map Fm.d (Fm.l f))]]]] =
                        [r]) ∧
                      ((bif bif b then t else false then Fm.kind f != (9 : Int) else false) = false →
                       PFn Tryd.prog (GG M) (57 : Nat) [D.sl (List.map Tm.d (Fm.ts f))] fun (rs : List D) =>
                        ∃ (l : List D),
                         rs = [D.sl l] ∧
                          PFn Tryd.prog (GG M) (58 : Nat) [D.sl (List.map Bd.d (Fm.bs f))] fun (rs : List D) =>
                           ∃ (l_1 : List D),
                            rs = [D.sl l_1] ∧
                             (t = true →
                               ((Fm.kind f == (9 : Int)) = true →
                                 (List.all (Maps.si M) fun (kv : D × D) => sameKind (D.str (Fm.name f)) (Prod.fst kv) && Sh.ok Sh.str (Prod.snd kv)) = true ∧
                                  ((Fm.kind f != (9 : Int)) = true →
                                    (List.all (Maps.du M) fun (kv : D × D) =>
                                       sameKind (D.int IntKind.i64 (Fm.kind f)) (Prod.fst kv) && Sh.ok (Sh.int IntKind.i64) (Prod.snd kv)) =
                                      true ∧
                                     ∃ (x0 : Nat),
                                      x0 ≤ List.length (Fm.l f) ∧
                                       ((t = t ∧
                                          AV.ptr (0 : Nat) (0 : Nat) = AV.ptr (0 : Nat) (0 : Nat) ∧
                                           AV.ptr (1 : Nat) (0 : Nat) = AV.ptr (1 : Nat) (0 : Nat) ∧
                                            AV.ptr (2 : Nat) (0 : Nat) = AV.ptr (2 : Nat) (0 : Nat) ∧
                                             List.map Fm.d (Fm.l f) = List.map Fm.d (Fm.l f) ∧
                                              (↑(List.length (List.map Fm.d (Fm.l f))) : Int) = (↑(List.length (List.map Fm.d (Fm.l f))) : Int) ∧
                                               (0 : Int) = (↑x0 : Int) ∧ True) ∧
                                         (Fm.kind f = Fm.kind f ∧
                                           Fm.name f = Fm.name f ∧
                                            Fm.n f = Fm.n f ∧
                                             List.map Tm.d (Fm.ts f) = List.map Tm.d (Fm.ts f) ∧
                                              List.map Bd.d (Fm.bs f) = List.map Bd.d (Fm.bs f) ∧ List.map Fm.d (Fm.l f) = List.map Fm.d (Fm.l f) ∧ True) ∧
                                          ((0 : Int) = (0 : Int) ∧
                                            Array.toList (ByteArray.data { data := #[] }) = Array.toList (ByteArray.data { data := #[] }) ∧
                                             (0 : Int) = (0 : Int) ∧ ([] : List D) = [] ∧ ([] : List D) = [] ∧ ([] : List D) = [] ∧ True) ∧
                                           (D.toInt (Option.getD (lookD (Maps.du M) (D.int IntKind.i64 (Fm.kind f))) (D.int IntKind.i64 (0 : Int))) =
                                              D.toInt (Option.getD (lookD (Maps.du M) (D.int IntKind.i64 (Fm.kind f))) (D.int IntKind.i64 (0 : Int))) ∧
                                             D.toStr
                                                (Option.getD (lookD (Maps.si M) (D.str (Fm.name f))) (D.str (Array.toList (ByteArray.data { data := #[] })))) =
                                               D.toStr
                                                (Option.getD (lookD (Maps.si M) (D.str (Fm.name f))) (D.str (Array.toList (ByteArray.data { data := #[] })))) ∧
                                              Fm.n f = Fm.n f ∧
                                               l = l ∧
                                                l_1 = l_1 ∧
                                                 ([] =
                                                    List.map Fm.d
                                                     (List.map (fun (x : Fm) => Fm.right x (t && !countB (Fm.kind f))) (List.take x0 (Fm.l f))) ∧
                                                   List.length ([] : List D) ≤ x0) ∧
                                                  True) ∧
                                            True) ∧
                                        ∀ (x : Nat),
                                         x ≤ List.length (Fm.l f) →
                                          (decide ((↑x : Int) < (↑(List.length (List.map Fm.d (Fm.l f))) : Int)) = true →
                                            ((0 : Int) ≤ (↑x : Int) ∧
                                              (List.map Fm.d (Fm.l f))[Int.toNat (↑x : Int)]? =
                                               some
                                                (aggAt [Sh.int IntKind.i64, Sh.str, Sh.int IntKind.i64, Sh.sl, Sh.sl, Sh.sl] (List.map Fm.d (Fm.l f))
                                                 (Int.toNat (↑x : Int)))) ∧
                                             PFn Tryd.prog (GG M) (44 : Nat) [D.int IntKind.i64 (Fm.kind f)] fun (rs : List D) =>
                                              ∃ (b : Bool),
                                               rs = [D.bool b] ∧
                                                PFn Tryd.prog (GG M) (38 : Nat)
                                                 [aggAt [Sh.int IntKind.i64, Sh.str, Sh.int IntKind.i64, Sh.sl, Sh.sl, Sh.sl] (List.map Fm.d (Fm.l f))
                                                   (Int.toNat (↑x : Int)),
                                                  D.bool (bif t then !b else false)]
                                                 fun (rs : List D) =>
                                                 ∃ (n : Int),
                                                  ∃ (s : List UInt8),
                                                   ∃ (n_1 : Int),
                                                    ∃ (l_2 : List D),
                                                     ∃ (l_3 : List D),
                                                      ∃ (l_4 : List D),
                                                       rs = [D.agg [D.int IntKind.i64 n, D.str s, D.int IntKind.i64 n_1, D.sl l_2, D.sl l_3, D.sl l_4]] ∧
                                                        (x =
                                                           List.length
                                                            (List.map Fm.d
                                                             (List.map (fun (x : Fm) => Fm.right x (t && !countB (Fm.kind f)))
                                                              (List.take x (Fm.l f)))) ∧
                                                          (6 : Nat) = (6 : Nat) ∧
                                                           FA
                                                            (List.map Fm.d
                                                             (List.map (fun (x : Fm) => Fm.right x (t && !countB (Fm.kind f)))
                                                              (List.take x (Fm.l f))))
                                                            [D.agg
                                                              [D.int IntKind.i64 n, D.str s, D.int IntKind.i64 n_1, D.sl l_2, D.sl l_3, D.sl l_4]]
                                                            (nat_lit 6) (nat_lit 104)) ∧
                                                         ∃ (y : Nat),
                                                          y ≤ List.length (Fm.l f) ∧
                                                           List.length (Fm.l f) - y < List.length (Fm.l f) - x ∧
                                                            (t = t ∧
                                                              AV.ptr (0 : Nat) (0 : Nat) = AV.ptr (0 : Nat) (0 : Nat) ∧
                                                               AV.ptr (1 : Nat) (0 : Nat) = AV.ptr (1 : Nat) (0 : Nat) ∧
                                                                AV.ptr (2 : Nat) (0 : Nat) = AV.ptr (2 : Nat) (0 : Nat) ∧
                                                                 List.map Fm.d (Fm.l f) = List.map Fm.d (Fm.l f) ∧
                                                                  (↑(List.length (List.map Fm.d (Fm.l f))) : Int) =
                                                                    (↑(List.length (List.map Fm.d (Fm.l f))) : Int) ∧
                                                                   IntKind.wrap IntKind.i64 ((↑x : Int) + (1 : Int)) = (↑y : Int) ∧ True) ∧
                                                             (Fm.kind f = Fm.kind f ∧
                                                               Fm.name f = Fm.name f ∧
                                                                Fm.n f = Fm.n f ∧
                                                                 List.map Tm.d (Fm.ts f) = List.map Tm.d (Fm.ts f) ∧
                                                                  List.map Bd.d (Fm.bs f) = List.map Bd.d (Fm.bs f) ∧
                                                                   List.map Fm.d (Fm.l f) = List.map Fm.d (Fm.l f) ∧ True) ∧
                                                              ((0 : Int) = (0 : Int) ∧
                                                                Array.toList (ByteArray.data { data := #[] }) =
                                                                  Array.toList (ByteArray.data { data := #[] }) ∧
                                                                 (0 : Int) = (0 : Int) ∧ ([] : List D) = [] ∧ ([] : List D) = [] ∧ ([] : List D) = [] ∧ True) ∧
                                                               (D.toInt
                                                                   (Option.getD (lookD (Maps.du M) (D.int IntKind.i64 (Fm.kind f)))
                                                                    (D.int IntKind.i64 (0 : Int))) =
                                                                  D.toInt
                                                                   (Option.getD (lookD (Maps.du M) (D.int IntKind.i64 (Fm.kind f)))
                                                                    (D.int IntKind.i64 (0 : Int))) ∧
                                                                 D.toStr
                                                                    (Option.getD (lookD (Maps.si M) (D.str (Fm.name f)))
                                                                     (D.str (Array.toList (ByteArray.data { data := #[] })))) =
                                                                   D.toStr
                                                                    (Option.getD (lookD (Maps.si M) (D.str (Fm.name f)))
                                                                     (D.str (Array.toList (ByteArray.data { data := #[] })))) ∧
                                                                  Fm.n f = Fm.n f ∧
                                                                   l = l ∧
                                                                    l_1 = l_1 ∧
                                                                     List.map Fm.d
                                                                         (List.map
                                                                          (fun (x : Fm) => Fm.right x (t && !countB (Fm.kind f)))
                                                                          (List.take x (Fm.l f))) ++
                                                                        List.reverse
                                                                         [mkD true
                                                                           [D.int IntKind.i64 n, D.str s, D.int IntKind.i64 n_1,
                                                                            D.sl l_2, D.sl l_3, D.sl l_4]] =
                                                                       List.map Fm.d
                                                                        (List.map
                                                                         (fun (x : Fm) => Fm.right x (t && !countB (Fm.kind f)))
                                                                         (List.take y (Fm.l f))) ∧
                                                                      True) ∧
                                                                List.length
                                                                    (List.map Fm.d
                                                                     (List.map (fun (x : Fm) => Fm.right x (t && !countB (Fm.kind f)))
                                                                      (List.take x (Fm.l f)))) +
                                                                   List.length
                                                                    (List.reverse
                                                                     [mkD true
                                                                       [D.int IntKind.i64 n, D.str s, D.int IntKind.i64 n_1, D.sl l_2,
                                                                        D.sl l_3, D.sl l_4]]) =
                                                                  y ∧
                                                                 True) ∧
                                           (decide ((↑x : Int) < (↑(List.length (List.map Fm.d (Fm.l f))) : Int)) = false →
                                            [D.agg
                                               [D.int IntKind.i64
                                                 (D.toInt (Option.getD (lookD (Maps.du M) (D.int IntKind.i64 (Fm.kind f))) (D.int IntKind.i64 (0 : Int)))),
                                                D.str
                                                 (D.toStr
                                                  (Option.getD (lookD (Maps.si M) (D.str (Fm.name f)))
                                                   (D.str (Array.toList (ByteArray.data { data := #[] }))))),
                                                D.int IntKind.i64 (Fm.n f), D.sl l, D.sl l_1,
                                                D.sl
                                                 (List.map Fm.d (List.map (fun (x : Fm) => Fm.right x (t && !countB (Fm.kind f))) (List.take x (Fm.l f))))]] =
                                             [r])) ∧
                                   ((Fm.kind f != (9 : Int)) = false →
                                    ∃ (x0 : Nat),
                                     x0 ≤ List.length (Fm.l f) ∧
                                      ((t = t ∧
                                         AV.ptr (0 : Nat) (0 : Nat) = AV.ptr (0 : Nat) (0 : Nat) ∧
                                          AV.ptr (1 : Nat) (0 : Nat) = AV.ptr (1 : Nat) (0 : Nat) ∧
                                           AV.ptr (2 : Nat) (0 : Nat) = AV.ptr (2 : Nat) (0 : Nat) ∧
                                            List.map Fm.d (Fm.l f) = List.map Fm.d (Fm.l f) ∧
                                             (↑(List.length (List.map Fm.d (Fm.l f))) : Int) = (↑(List.length (List.map Fm.d (Fm.l f))) : Int) ∧
                                              (0 : Int) = (↑x0 : Int) ∧ True) ∧
                                        (Fm.kind f = Fm.kind f ∧
                                          Fm.name f = Fm.name f ∧
                                           Fm.n f = Fm.n f ∧
                                            List.map Tm.d (Fm.ts f) = List.map Tm.d (Fm.ts f) ∧
                                             List.map Bd.d (Fm.bs f) = List.map Bd.d (Fm.bs f) ∧ List.map Fm.d (Fm.l f) = List.map Fm.d (Fm.l f) ∧ True) ∧
                                         ((0 : Int) = (0 : Int) ∧
                                           Array.toList (ByteArray.data { data := #[] }) = Array.toList (ByteArray.data { data := #[] }) ∧
                                            (0 : Int) = (0 : Int) ∧ ([] : List D) = [] ∧ ([] : List D) = [] ∧ ([] : List D) = [] ∧ True) ∧
                                          (Fm.kind f = Fm.kind f ∧
                                            D.toStr (Option.getD (lookD (Maps.si M) (D.str (Fm.name f))) (D.str (Array.toList (ByteArray.data { data := #[] })))) =
                                              D.toStr
                                               (Option.getD (lookD (Maps.si M) (D.str (Fm.name f))) (D.str (Array.toList (ByteArray.data { data := #[] })))) ∧
                                             Fm.n f = Fm.n f ∧
                                              l = l ∧
                                               l_1 = l_1 ∧
                                                ([] = List.map Fm.d (List.map (fun (x : Fm) => Fm.right x (t && !countB (Fm.kind f))) (List.take x0 (Fm.l f))) ∧
                                                  List.length ([] : List D) ≤ x0) ∧
                                                 True) ∧
                                           True) ∧
                                       ∀ (x : Nat),
                                        x ≤ List.length (Fm.l f) →
                                         (decide ((↑x : Int) < (↑(List.length (List.map Fm.d (Fm.l f))) : Int)) = true →
                                           ((0 : Int) ≤ (↑x : Int) ∧
                                             (List.map Fm.d (Fm.l f))[Int.toNat (↑x : Int)]? =
                                              some
                                               (aggAt [Sh.int IntKind.i64, Sh.str, Sh.int IntKind.i64, Sh.sl, Sh.sl, Sh.sl] (List.map Fm.d (Fm.l f))
                                                (Int.toNat (↑x : Int)))) ∧
                                            PFn Tryd.prog (GG M) (44 : Nat) [D.int IntKind.i64 (Fm.kind f)] fun (rs : List D) =>
                                             ∃ (b : Bool),
                                              rs = [D.bool b] ∧
                                               PFn Tryd.prog (GG M) (38 : Nat)
                                                [aggAt [Sh.int IntKind.i64, Sh.str, Sh.int IntKind.i64, Sh.sl, Sh.sl, Sh.sl] (List.map Fm.d (Fm.l f))
                                                  (Int.toNat (↑x : Int)),
                                                 D.bool (bif t then !b else false)]
                                                fun (rs : List D) =>
                                                ∃ (n : Int),
                                                 ∃ (s : List UInt8),
                                                  ∃ (n_1 : Int),
                                                   ∃ (l_2 : List D),
                                                    ∃ (l_3 : List D),
                                                     ∃ (l_4 : List D),
                                                      rs = [D.agg [D.int IntKind.i64 n, D.str s, D.int IntKind.i64 n_1, D.sl l_2, D.sl l_3, D.sl l_4]] ∧
                                                       (x =
                                                          List.length
                                                           (List.map Fm.d
                                                            (List.map (fun (x : Fm) => Fm.right x (t && !countB (Fm.kind f)))
                                                             (List.take x (Fm.l f)))) ∧
                                                         (6 : Nat) = (6 : Nat) ∧
                                                          FA
                                                           (List.map Fm.d
                                                            (List.map (fun (x : Fm) => Fm.right x (t && !countB (Fm.kind f)))
                                                             (List.take x (Fm.l f))))
                                                           [D.agg
                                                             [D.int IntKind.i64 n, D.str s, D.int IntKind.i64 n_1, D.sl l_2, D.sl l_3, D.sl l_4]]
                                                           (nat_lit 6) (nat_lit 104)) ∧
                                                        ∃ (y : Nat),
                                                         y ≤ List.length (Fm.l f) ∧
                                                          List.length (Fm.l f) - y < List.length (Fm.l f) - x ∧
                                                           (t = t ∧
                                                             AV.ptr (0 : Nat) (0 : Nat) = AV.ptr (0 : Nat) (0 : Nat) ∧
                                                              AV.ptr (1 : Nat) (0 : Nat) = AV.ptr (1 : Nat) (0 : Nat) ∧
                                                               AV.ptr (2 : Nat) (0 : Nat) = AV.ptr (2 : Nat) (0 : Nat) ∧
                                                                List.map Fm.d (Fm.l f) = List.map Fm.d (Fm.l f) ∧
                                                                 (↑(List.length (List.map Fm.d (Fm.l f))) : Int) =
                                                                   (↑(List.length (List.map Fm.d (Fm.l f))) : Int) ∧
                                                                  IntKind.wrap IntKind.i64 ((↑x : Int) + (1 : Int)) = (↑y : Int) ∧ True) ∧
                                                            (Fm.kind f = Fm.kind f ∧
                                                              Fm.name f = Fm.name f ∧
                                                               Fm.n f = Fm.n f ∧
                                                                List.map Tm.d (Fm.ts f) = List.map Tm.d (Fm.ts f) ∧
                                                                 List.map Bd.d (Fm.bs f) = List.map Bd.d (Fm.bs f) ∧
                                                                  List.map Fm.d (Fm.l f) = List.map Fm.d (Fm.l f) ∧ True) ∧
                                                             ((0 : Int) = (0 : Int) ∧
                                                               Array.toList (ByteArray.data { data := #[] }) =
                                                                 Array.toList (ByteArray.data { data := #[] }) ∧
                                                                (0 : Int) = (0 : Int) ∧ ([] : List D) = [] ∧ ([] : List D) = [] ∧ ([] : List D) = [] ∧ True) ∧
                                                              (Fm.kind f = Fm.kind f ∧
                                                                D.toStr
                                                                   (Option.getD (lookD (Maps.si M) (D.str (Fm.name f)))
                                                                    (D.str (Array.toList (ByteArray.data { data := #[] })))) =
                                                                  D.toStr
                                                                   (Option.getD (lookD (Maps.si M) (D.str (Fm.name f)))
                                                                    (D.str (Array.toList (ByteArray.data { data := #[] })))) ∧
                                                                 Fm.n f = Fm.n f ∧
                                                                  l = l ∧
                                                                   l_1 = l_1 ∧
                                                                    List.map Fm.d
                                                                        (List.map
                                                                         (fun (x : Fm) => Fm.right x (t && !countB (Fm.kind f)))
                                                                         (List.take x (Fm.l f))) ++
                                                                       List.reverse
                                                                        [mkD true
                                                                          [D.int IntKind.i64 n, D.str s, D.int IntKind.i64 n_1,
                                                                           D.sl l_2, D.sl l_3, D.sl l_4]] =
                                                                      List.map Fm.d
                                                                       (List.map (fun (x : Fm) => Fm.right x (t && !countB (Fm.kind f)))
                                                                        (List.take y (Fm.l f))) ∧
                                                                     True) ∧
                                                               List.length
                                                                   (List.map Fm.d
                                                                    (List.map (fun (x : Fm) => Fm.right x (t && !countB (Fm.kind f)))
                                                                     (List.take x (Fm.l f)))) +
                                                                  List.length
                                                                   (List.reverse
                                                                    [mkD true
                                                                      [D.int IntKind.i64 n, D.str s, D.int IntKind.i64 n_1, D.sl l_2,
                                                                       D.sl l_3, D.sl l_4]]) =
                                                                 y ∧
                                                                True) ∧
                                          (decide ((↑x : Int) < (↑(List.length (List.map Fm.d (Fm.l f))) : Int)) = false →
                                           [D.agg
                                              [D.int IntKind.i64 (Fm.kind f),
                                               D.str
                                                (D.toStr
                                                 (Option.getD (lookD (Maps.si M) (D.str (Fm.name f)))
                                                  (D.str (Array.toList (ByteArray.data { data := #[] }))))),
                                               D.int IntKind.i64 (Fm.n f), D.sl l, D.sl l_1,
                                               D.sl (List.map Fm.d (List.map (fun (x : Fm) => Fm.right x (t && !countB (Fm.kind f))) (List.take x (Fm.l f))))]] =
                                            [r]))) ∧
                                ((Fm.kind f == (9 : Int)) = false →
                                 ((Fm.kind f == (16 : Int)) = true →
                                   ((Fm.kind f != (9 : Int)) = true →
                                     (List.all (Maps.du M) fun (kv : D × D) =>
                                        sameKind (D.int IntKind.i64 (Fm.kind f)) (Prod.fst kv) && Sh.ok (Sh.int IntKind.i64) (Prod.snd kv)) =
                                       true ∧
                                      ∃ (x0 : Nat),
                                       x0 ≤ List.length (Fm.l f) ∧
                                        ((t = t ∧
                                           AV.ptr (0 : Nat) (0 : Nat) = AV.ptr (0 : Nat) (0 : Nat) ∧
                                            AV.ptr (1 : Nat) (0 : Nat) = AV.ptr (1 : Nat) (0 : Nat) ∧
                                             AV.ptr (2 : Nat) (0 : Nat) = AV.ptr (2 : Nat) (0 : Nat) ∧
                                              List.map Fm.d (Fm.l f) = List.map Fm.d (Fm.l f) ∧
                                               (↑(List.length (List.map Fm.d (Fm.l f))) : Int) = (↑(List.length (List.map Fm.d (Fm.l f))) : Int) ∧
                                                (0 : Int) = (↑x0 : Int) ∧ True) ∧
                                          (Fm.kind f = Fm.kind f ∧
                                            Fm.name f = Fm.name f ∧
                                             Fm.n f = Fm.n f ∧
                                              List.map Tm.d (Fm.ts f) = List.map Tm.d (Fm.ts f) ∧
                                               List.map Bd.d (Fm.bs f) = List.map Bd.d (Fm.bs f) ∧ List.map Fm.d (Fm.l f) = List.map Fm.d (Fm.l f) ∧ True) ∧
                                           ((0 : Int) = (0 : Int) ∧
                                             Array.toList (ByteArray.data { data := #[] }) = Array.toList (ByteArray.data { data := #[] }) ∧
                                              (0 : Int) = (0 : Int) ∧ ([] : List D) = [] ∧ ([] : List D) = [] ∧ ([] : List D) = [] ∧ True) ∧
                                            (D.toInt (Option.getD (lookD (Maps.du M) (D.int IntKind.i64 (Fm.kind f))) (D.int IntKind.i64 (0 : Int))) =
                                               D.toInt (Option.getD (lookD (Maps.du M) (D.int IntKind.i64 (Fm.kind f))) (D.int IntKind.i64 (0 : Int))) ∧
                                              Fm.name f = Fm.name f ∧
                                               IntKind.wrap IntKind.i64 (Fm.n f - (1 : Int)) = IntKind.wrap IntKind.i64 (Fm.n f - (1 : Int)) ∧
                                                l = l ∧
                                                 l_1 = l_1 ∧
                                                  ([] =
                                                     List.map Fm.d
                                                      (List.map (fun (x : Fm) => Fm.right x (t && !countB (Fm.kind f))) (List.take x0 (Fm.l f))) ∧
                                                    List.length ([] : List D) ≤ x0) ∧
                                                   True) ∧
                                             True) ∧
                                         ∀ (x : Nat),
                                          x ≤ List.length (Fm.l f) →
                                           (decide ((↑x : Int) < (↑(List.length (List.map Fm.d (Fm.l f))) : Int)) = true →
                                             ((0 : Int) ≤ (↑x : Int) ∧
                                               (List.map Fm.d (Fm.l f))[Int.toNat (↑x : Int)]? =
                                                some
                                                 (aggAt [Sh.int IntKind.i64, Sh.str, Sh.int IntKind.i64, Sh.sl, Sh.sl, Sh.sl] (List.map Fm.d (Fm.l f))
                                                  (Int.toNat (↑x : Int)))) ∧
                                              PFn Tryd.prog (GG M) (44 : Nat) [D.int IntKind.i64 (Fm.kind f)] fun (rs : List D) =>
                                               ∃ (b : Bool),
                                                rs = [D.bool b] ∧
                                                 PFn Tryd.prog (GG M) (38 : Nat)
                                                  [aggAt [Sh.int IntKind.i64, Sh.str, Sh.int IntKind.i64, Sh.sl, Sh.sl, Sh.sl] (List.map Fm.d (Fm.l f))
                                                    (Int.toNat (↑x : Int)),
                                                   D.bool (bif t then !b else false)]
                                                  fun (rs : List D) =>
                                                  ∃ (n : Int),
                                                   ∃ (s : List UInt8),
                                                    ∃ (n_1 : Int),
                                                     ∃ (l_2 : List D),
                                                      ∃ (l_3 : List D),
                                                       ∃ (l_4 : List D),
                                                        rs =
                                                          [D.agg
                                                            [D.int IntKind.i64 n, D.str s, D.int IntKind.i64 n_1, D.sl l_2, D.sl l_3, D.sl l_4]] ∧
                                                         (x =
                                                            List.length
                                                             (List.map Fm.d
                                                              (List.map (fun (x : Fm) => Fm.right x (t && !countB (Fm.kind f)))
                                                               (List.take x (Fm.l f)))) ∧
                                                           (6 : Nat) = (6 : Nat) ∧
                                                            FA
                                                             (List.map Fm.d
                                                              (List.map (fun (x : Fm) => Fm.right x (t && !countB (Fm.kind f)))
                                                               (List.take x (Fm.l f))))
                                                             [D.agg
                                                               [D.int IntKind.i64 n, D.str s, D.int IntKind.i64 n_1, D.sl l_2, D.sl l_3,
                                                                D.sl l_4]]
                                                             (nat_lit 6) (nat_lit 104)) ∧
                                                          ∃ (y : Nat),
                                                           y ≤ List.length (Fm.l f) ∧
                                                            List.length (Fm.l f) - y < List.length (Fm.l f) - x ∧
                                                             (t = t ∧
                                                               AV.ptr (0 : Nat) (0 : Nat) = AV.ptr (0 : Nat) (0 : Nat) ∧
                                                                AV.ptr (1 : Nat) (0 : Nat) = AV.ptr (1 : Nat) (0 : Nat) ∧
                                                                 AV.ptr (2 : Nat) (0 : Nat) = AV.ptr (2 : Nat) (0 : Nat) ∧
                                                                  List.map Fm.d (Fm.l f) = List.map Fm.d (Fm.l f) ∧
                                                                   (↑(List.length (List.map Fm.d (Fm.l f))) : Int) =
                                                                     (↑(List.length (List.map Fm.d (Fm.l f))) : Int) ∧
                                                                    IntKind.wrap IntKind.i64 ((↑x : Int) + (1 : Int)) = (↑y : Int) ∧ True) ∧
                                                              (Fm.kind f = Fm.kind f ∧
                                                                Fm.name f = Fm.name f ∧
                                                                 Fm.n f = Fm.n f ∧
                                                                  List.map Tm.d (Fm.ts f) = List.map Tm.d (Fm.ts f) ∧
                                                                   List.map Bd.d (Fm.bs f) = List.map Bd.d (Fm.bs f) ∧
                                                                    List.map Fm.d (Fm.l f) = List.map Fm.d (Fm.l f) ∧ True) ∧
                                                               ((0 : Int) = (0 : Int) ∧
                                                                 Array.toList (ByteArray.data { data := #[] }) =
                                                                   Array.toList (ByteArray.data { data := #[] }) ∧
                                                                  (0 : Int) = (0 : Int) ∧ ([] : List D) = [] ∧ ([] : List D) = [] ∧ ([] : List D) = [] ∧ True) ∧
                                                                (D.toInt
                                                                    (Option.getD (lookD (Maps.du M) (D.int IntKind.i64 (Fm.kind f)))
                                                                     (D.int IntKind.i64 (0 : Int))) =
                                                                   D.toInt
                                                                    (Option.getD (lookD (Maps.du M) (D.int IntKind.i64 (Fm.kind f)))
                                                                     (D.int IntKind.i64 (0 : Int))) ∧
                                                                  Fm.name f = Fm.name f ∧
                                                                   IntKind.wrap IntKind.i64 (Fm.n f - (1 : Int)) =
                                                                     IntKind.wrap IntKind.i64 (Fm.n f - (1 : Int)) ∧
                                                                    l = l ∧
                                                                     l_1 = l_1 ∧
                                                                      List.map Fm.d
                                                                          (List.map
                                                                           (fun (x : Fm) => Fm.right x (t && !countB (Fm.kind f)))
                                                                           (List.take x (Fm.l f))) ++
                                                                         List.reverse
                                                                          [mkD true
                                                                            [D.int IntKind.i64 n, D.str s, D.int IntKind.i64 n_1,
                                                                             D.sl l_2, D.sl l_3, D.sl l_4]] =
                                                                        List.map Fm.d
                                                                         (List.map
                                                                          (fun (x : Fm) => Fm.right x (t && !countB (Fm.kind f)))
                                                                          (List.take y (Fm.l f))) ∧
                                                                       True) ∧
                                                                 List.length
                                                                     (List.map Fm.d
                                                                      (List.map (fun (x : Fm) => Fm.right x (t && !countB (Fm.kind f)))
                                                                       (List.take x (Fm.l f)))) +
                                                                    List.length
                                                                     (List.reverse
                                                                      [mkD true
                                                                        [D.int IntKind.i64 n, D.str s, D.int IntKind.i64 n_1, D.sl l_2,
                                                                         D.sl l_3, D.sl l_4]]) =
                                                                   y ∧
                                                                  True) ∧
                                            (decide ((↑x : Int) < (↑(List.length (List.map Fm.d (Fm.l f))) : Int)) = false →
                                             [D.agg
                                                [D.int IntKind.i64
                                                  (D.toInt (Option.getD (lookD (Maps.du M) (D.int IntKind.i64 (Fm.kind f))) (D.int IntKind.i64 (0 : Int)))),
                                                 D.str (Fm.name f), D.int IntKind.i64 (IntKind.wrap IntKind.i64 (Fm.n f - (1 : Int))), D.sl l, D.sl l_1,
                                                 D.sl
                                                  (List.map Fm.d
                                                   (List.map (fun (x : Fm) => Fm.right x (t && !countB (Fm.kind f))) (List.take x (Fm.l f))))]] =
                                              [r])) ∧
                                    ((Fm.kind f != (9 : Int)) = false →
                                     ∃ (x0 : Nat),
                                      x0 ≤ List.length (Fm.l f) ∧
                                       ((t = t ∧
                                          AV.ptr (0 : Nat) (0 : Nat) = AV.ptr (0 : Nat) (0 : Nat) ∧
                                           AV.ptr (1 : Nat) (0 : Nat) = AV.ptr (1 : Nat) (0 : Nat) ∧
                                            AV.ptr (2 : Nat) (0 : Nat) = AV.ptr (2 : Nat) (0 : Nat) ∧
                                             List.map Fm.d (Fm.l f) = List.map Fm.d (Fm.l f) ∧
                                              (↑(List.length (List.map Fm.d (Fm.l f))) : Int) = (↑(List.length (List.map Fm.d (Fm.l f))) : Int) ∧
                                               (0 : Int) = (↑x0 : Int) ∧ True) ∧
                                         (Fm.kind f = Fm.kind f ∧
                                           Fm.name f = Fm.name f ∧
                                            Fm.n f = Fm.n f ∧
                                             List.map Tm.d (Fm.ts f) = List.map Tm.d (Fm.ts f) ∧
                                              List.map Bd.d (Fm.bs f) = List.map Bd.d (Fm.bs f) ∧ List.map Fm.d (Fm.l f) = List.map Fm.d (Fm.l f) ∧ True) ∧
                                          ((0 : Int) = (0 : Int) ∧
                                            Array.toList (ByteArray.data { data := #[] }) = Array.toList (ByteArray.data { data := #[] }) ∧
                                             (0 : Int) = (0 : Int) ∧ ([] : List D) = [] ∧ ([] : List D) = [] ∧ ([] : List D) = [] ∧ True) ∧
                                           (Fm.kind f = Fm.kind f ∧
                                             Fm.name f = Fm.name f ∧
                                              IntKind.wrap IntKind.i64 (Fm.n f - (1 : Int)) = IntKind.wrap IntKind.i64 (Fm.n f - (1 : Int)) ∧
                                               l = l ∧
                                                l_1 = l_1 ∧
                                                 ([] =
                                                    List.map Fm.d
                                                     (List.map (fun (x : Fm) => Fm.right x (t && !countB (Fm.kind f))) (List.take x0 (Fm.l f))) ∧
                                                   List.length ([] : List D) ≤ x0) ∧
                                                  True) ∧
                                            True) ∧
                                        ∀ (x : Nat),
                                         x ≤ List.length (Fm.l f) →
                                          (decide ((↑x : Int) < (↑(List.length (List.map Fm.d (Fm.l f))) : Int)) = true →
                                            ((0 : Int) ≤ (↑x : Int) ∧
                                              (List.map Fm.d (Fm.l f))[Int.toNat (↑x : Int)]? =
                                               some
                                                (aggAt [Sh.int IntKind.i64, Sh.str, Sh.int IntKind.i64, Sh.sl, Sh.sl, Sh.sl] (List.map Fm.d (Fm.l f))
                                                 (Int.toNat (↑x : Int)))) ∧
                                             PFn Tryd.prog (GG M) (44 : Nat) [D.int IntKind.i64 (Fm.kind f)] fun (rs : List D) =>
                                              ∃ (b : Bool),
                                               rs = [D.bool b] ∧
                                                PFn Tryd.prog (GG M) (38 : Nat)
                                                 [aggAt [Sh.int IntKind.i64, Sh.str, Sh.int IntKind.i64, Sh.sl, Sh.sl, Sh.sl] (List.map Fm.d (Fm.l f))
                                                   (Int.toNat (↑x : Int)),
                                                  D.bool (bif t then !b else false)]
                                                 fun (rs : List D) =>
                                                 ∃ (n : Int),
                                                  ∃ (s : List UInt8),
                                                   ∃ (n_1 : Int),
                                                    ∃ (l_2 : List D),
                                                     ∃ (l_3 : List D),
                                                      ∃ (l_4 : List D),
                                                       rs = [D.agg [D.int IntKind.i64 n, D.str s, D.int IntKind.i64 n_1, D.sl l_2, D.sl l_3, D.sl l_4]] ∧
                                                        (x =
                                                           List.length
                                                            (List.map Fm.d
                                                             (List.map (fun (x : Fm) => Fm.right x (t && !countB (Fm.kind f)))
                                                              (List.take x (Fm.l f)))) ∧
                                                          (6 : Nat) = (6 : Nat) ∧
                                                           FA
                                                            (List.map Fm.d
                                                             (List.map (fun (x : Fm) => Fm.right x (t && !countB (Fm.kind f)))
                                                              (List.take x (Fm.l f))))
                                                            [D.agg
                                                              [D.int IntKind.i64 n, D.str s, D.int IntKind.i64 n_1, D.sl l_2, D.sl l_3, D.sl l_4]]
                                                            (nat_lit 6) (nat_lit 104)) ∧
                                                         ∃ (y : Nat),
                                                          y ≤ List.length (Fm.l f) ∧
                                                           List.length (Fm.l f) - y < List.length (Fm.l f) - x ∧
                                                            (t = t ∧
                                                              AV.ptr (0 : Nat) (0 : Nat) = AV.ptr (0 : Nat) (0 : Nat) ∧
                                                               AV.ptr (1 : Nat) (0 : Nat) = AV.ptr (1 : Nat) (0 : Nat) ∧
                                                                AV.ptr (2 : Nat) (0 : Nat) = AV.ptr (2 : Nat) (0 : Nat) ∧
                                                                 List.map Fm.d (Fm.l f) = List.map Fm.d (Fm.l f) ∧
                                                                  (↑(List.length (List.map Fm.d (Fm.l f))) : Int) =
                                                                    (↑(List.length (List.map Fm.d (Fm.l f))) : Int) ∧
                                                                   IntKind.wrap IntKind.i64 ((↑x : Int) + (1 : Int)) = (↑y : Int) ∧ True) ∧
                                                             (Fm.kind f = Fm.kind f ∧
                                                               Fm.name f = Fm.name f ∧
                                                                Fm.n f = Fm.n f ∧
                                                                 List.map Tm.d (Fm.ts f) = List.map Tm.d (Fm.ts f) ∧
                                                                  List.map Bd.d (Fm.bs f) = List.map Bd.d (Fm.bs f) ∧
                                                                   List.map Fm.d (Fm.l f) = List.map Fm.d (Fm.l f) ∧ True) ∧
                                                              ((0 : Int) = (0 : Int) ∧
                                                                Array.toList (ByteArray.data { data := #[] }) =
                                                                  Array.toList (ByteArray.data { data := #[] }) ∧
                                                                 (0 : Int) = (0 : Int) ∧ ([] : List D) = [] ∧ ([] : List D) = [] ∧ ([] : List D) = [] ∧ True) ∧
                                                               (Fm.kind f = Fm.kind f ∧
                                                                 Fm.name f = Fm.name f ∧
                                                                  IntKind.wrap IntKind.i64 (Fm.n f - (1 : Int)) =
                                                                    IntKind.wrap IntKind.i64 (Fm.n f - (1 : Int)) ∧
                                                                   l = l ∧
                                                                    l_1 = l_1 ∧
                                                                     List.map Fm.d
                                                                         (List.map
                                                                          (fun (x : Fm) => Fm.right x (t && !countB (Fm.kind f)))
                                                                          (List.take x (Fm.l f))) ++
                                                                        List.reverse
                                                                         [mkD true
                                                                           [D.int IntKind.i64 n, D.str s, D.int IntKind.i64 n_1,
                                                                            D.sl l_2, D.sl l_3, D.sl l_4]] =
                                                                       List.map Fm.d
                                                                        (List.map
                                                                         (fun (x : Fm) => Fm.right x (t && !countB (Fm.kind f)))
                                                                         (List.take y (Fm.l f))) ∧
                                                                      True) ∧
                                                                List.length
                                                                    (List.map Fm.d
                                                                     (List.map (fun (x : Fm) => Fm.right x (t && !countB (Fm.kind f)))
                                                                      (List.take x (Fm.l f)))) +
                                                                   List.length
                                                                    (List.reverse
                                                                     [mkD true
                                                                       [D.int IntKind.i64 n, D.str s, D.int IntKind.i64 n_1, D.sl l_2,
                                                                        D.sl l_3, D.sl l_4]]) =
                                                                  y ∧
                                                                 True) ∧
                                           (decide ((↑x : Int) < (↑(List.length (List.map Fm.d (Fm.l f))) : Int)) = false →
                                            [D.agg
                                               [D.int IntKind.i64 (Fm.kind f), D.str (Fm.name f),
                                                D.int IntKind.i64 (IntKind.wrap IntKind.i64 (Fm.n f - (1 : Int))), D.sl l, D.sl l_1,
                                                D.sl
                                                 (List.map Fm.d (List.map (fun (x : Fm) => Fm.right x (t && !countB (Fm.kind f))) (List.take x (Fm.l f))))]] =
                                             [r]))) ∧
                                  ((Fm.kind f == (16 : Int)) = false →
                                   ((Fm.kind f == (17 : Int)) = true →
                                     ((Fm.kind f != (9 : Int)) = true →
                                       (List.all (Maps.du M) fun (kv : D × D) =>
                                          sameKind (D.int IntKind.i64 (Fm.kind f)) (Prod.fst kv) && Sh.ok (Sh.int IntKind.i64) (Prod.snd kv)) =
                                         true ∧
                                        ∃ (x0 : Nat),
                                         x0 ≤ List.length (Fm.l f) ∧
                                          ((t = t ∧
                                             AV.ptr (0 : Nat) (0 : Nat) = AV.ptr (0 : Nat) (0 : Nat) ∧
                                              AV.ptr (1 : Nat) (0 : Nat) = AV.ptr (1 : Nat) (0 : Nat) ∧
                                               AV.ptr (2 : Nat) (0 : Nat) = AV.ptr (2 : Nat) (0 : Nat) ∧
                                                List.map Fm.d (Fm.l f) = List.map Fm.d (Fm.l f) ∧
                                                 (↑(List.length (List.map Fm.d (Fm.l f))) : Int) = (↑(List.length (List.map Fm.d (Fm.l f))) : Int) ∧
                                                  (0 : Int) = (↑x0 : Int) ∧ True) ∧
                                            (Fm.kind f = Fm.kind f ∧
                                              Fm.name f = Fm.name f ∧
                                               Fm.n f = Fm.n f ∧
                                                List.map Tm.d (Fm.ts f) = List.map Tm.d (Fm.ts f) ∧
                                                 List.map Bd.d (Fm.bs f) = List.map Bd.d (Fm.bs f) ∧ List.map Fm.d (Fm.l f) = List.map Fm.d (Fm.l f) ∧ True) ∧
                                             ((0 : Int) = (0 : Int) ∧
                                               Array.toList (ByteArray.data { data := #[] }) = Array.toList (ByteArray.data { data := #[] }) ∧
                                                (0 : Int) = (0 : Int) ∧ ([] : List D) = [] ∧ ([] : List D) = [] ∧ ([] : List D) = [] ∧ True) ∧
                                              (D.toInt (Option.getD (lookD (Maps.du M) (D.int IntKind.i64 (Fm.kind f))) (D.int IntKind.i64 (0 : Int))) =
                                                 D.toInt (Option.getD (lookD (Maps.du M) (D.int IntKind.i64 (Fm.kind f))) (D.int IntKind.i64 (0 : Int))) ∧
                                                Fm.name f = Fm.name f ∧
                                                 IntKind.wrap IntKind.i64 (Fm.n f + (1 : Int)) = IntKind.wrap IntKind.i64 (Fm.n f + (1 : Int)) ∧
                                                  l = l ∧
                                                   l_1 = l_1 ∧
                                                    ([] =
                                                       List.map Fm.d
                                                        (List.map (fun (x : Fm) => Fm.right x (t && !countB (Fm.kind f))) (List.take x0 (Fm.l f))) ∧
                                                      List.length ([] : List D) ≤ x0) ∧
                                                     True) ∧
                                               True) ∧
                                           ∀ (x : Nat),
                                            x ≤ List.length (Fm.l f) →
                                             (decide ((↑x : Int) < (↑(List.length (List.map Fm.d (Fm.l f))) : Int)) = true →
                                               ((0 : Int) ≤ (↑x : Int) ∧
                                                 (List.map Fm.d (Fm.l f))[Int.toNat (↑x : Int)]? =
                                                  some
                                                   (aggAt [Sh.int IntKind.i64, Sh.str, Sh.int IntKind.i64, Sh.sl, Sh.sl, Sh.sl] (List.map Fm.d (Fm.l f))
                                                    (Int.toNat (↑x : Int)))) ∧
                                                PFn Tryd.prog (GG M) (44 : Nat) [D.int IntKind.i64 (Fm.kind f)] fun (rs : List D) =>
                                                 ∃ (b : Bool),
                                                  rs = [D.bool b] ∧
                                                   PFn Tryd.prog (GG M) (38 : Nat)
                                                    [aggAt [Sh.int IntKind.i64, Sh.str, Sh.int IntKind.i64, Sh.sl, Sh.sl, Sh.sl] (List.map Fm.d (Fm.l f))
                                                      (Int.toNat (↑x : Int)),
                                                     D.bool (bif t then !b else false)]
                                                    fun (rs : List D) =>
                                                    ∃ (n : Int),
                                                     ∃ (s : List UInt8),
                                                      ∃ (n_1 : Int),
                                                       ∃ (l_2 : List D),
                                                        ∃ (l_3 : List D),
                                                         ∃ (l_4 : List D),
                                                          rs =
                                                            [D.agg
                                                              [D.int IntKind.i64 n, D.str s, D.int IntKind.i64 n_1, D.sl l_2, D.sl l_3,
                                                               D.sl l_4]] ∧
                                                           (x =
                                                              List.length
                                                               (List.map Fm.d
                                                                (List.map (fun (x : Fm) => Fm.right x (t && !countB (Fm.kind f)))
                                                                 (List.take x (Fm.l f)))) ∧
                                                             (6 : Nat) = (6 : Nat) ∧
                                                              FA
                                                               (List.map Fm.d
                                                                (List.map (fun (x : Fm) => Fm.right x (t && !countB (Fm.kind f)))
                                                                 (List.take x (Fm.l f))))
                                                               [D.agg
                                                                 [D.int IntKind.i64 n, D.str s, D.int IntKind.i64 n_1, D.sl l_2, D.sl l_3,
                                                                  D.sl l_4]]
                                                               (nat_lit 6) (nat_lit 104)) ∧
                                                            ∃ (y : Nat),
                                                             y ≤ List.length (Fm.l f) ∧
                                                              List.length (Fm.l f) - y < List.length (Fm.l f) - x ∧
                                                               (t = t ∧
                                                                 AV.ptr (0 : Nat) (0 : Nat) = AV.ptr (0 : Nat) (0 : Nat) ∧
                                                                  AV.ptr (1 : Nat) (0 : Nat) = AV.ptr (1 : Nat) (0 : Nat) ∧
                                                                   AV.ptr (2 : Nat) (0 : Nat) = AV.ptr (2 : Nat) (0 : Nat) ∧
                                                                    List.map Fm.d (Fm.l f) = List.map Fm.d (Fm.l f) ∧
                                                                     (↑(List.length (List.map Fm.d (Fm.l f))) : Int) =
                                                                       (↑(List.length (List.map Fm.d (Fm.l f))) : Int) ∧
                                                                      IntKind.wrap IntKind.i64 ((↑x : Int) + (1 : Int)) = (↑y : Int) ∧
                                                                       True) ∧
                                                                (Fm.kind f = Fm.kind f ∧
                                                                  Fm.name f = Fm.name f ∧
                                                                   Fm.n f = Fm.n f ∧
                                                                    List.map Tm.d (Fm.ts f) = List.map Tm.d (Fm.ts f) ∧
                                                                     List.map Bd.d (Fm.bs f) = List.map Bd.d (Fm.bs f) ∧
                                                                      List.map Fm.d (Fm.l f) = List.map Fm.d (Fm.l f) ∧ True) ∧
                                                                 ((0 : Int) = (0 : Int) ∧
                                                                   Array.toList (ByteArray.data { data := #[] }) =
                                                                     Array.toList (ByteArray.data { data := #[] }) ∧
                                                                    (0 : Int) = (0 : Int) ∧ ([] : List D) = [] ∧ ([] : List D) = [] ∧ ([] : List D) = [] ∧ True) ∧
                                                                  (D.toInt
                                                                      (Option.getD (lookD (Maps.du M) (D.int IntKind.i64 (Fm.kind f)))
                                                                       (D.int IntKind.i64 (0 : Int))) =
                                                                     D.toInt
                                                                      (Option.getD (lookD (Maps.du M) (D.int IntKind.i64 (Fm.kind f)))
                                                                       (D.int IntKind.i64 (0 : Int))) ∧
                                                                    Fm.name f = Fm.name f ∧
                                                                     IntKind.wrap IntKind.i64 (Fm.n f + (1 : Int)) =
                                                                       IntKind.wrap IntKind.i64 (Fm.n f + (1 : Int)) ∧
                                                                      l = l ∧
                                                                       l_1 = l_1 ∧
                                                                        List.map Fm.d
                                                                            (List.map
                                                                             (fun (x : Fm) =>
                                                                              Fm.right x (t && !countB (Fm.kind f)))
                                                                             (List.take x (Fm.l f))) ++
                                                                           List.reverse
                                                                            [mkD true
                                                                              [D.int IntKind.i64 n, D.str s,
                                                                               D.int IntKind.i64 n_1, D.sl l_2, D.sl l_3,
                                                                               D.sl l_4]] =
                                                                          List.map Fm.d
                                                                           (List.map
                                                                            (fun (x : Fm) => Fm.right x (t && !countB (Fm.kind f)))
                                                                            (List.take y (Fm.l f))) ∧
                                                                         True) ∧
                                                                   List.length
                                                                       (List.map Fm.d
                                                                        (List.map
                                                                         (fun (x : Fm) => Fm.right x (t && !countB (Fm.kind f)))
                                                                         (List.take x (Fm.l f)))) +
                                                                      List.length
                                                                       (List.reverse
                                                                        [mkD true
                                                                          [D.int IntKind.i64 n, D.str s, D.int IntKind.i64 n_1,
                                                                           D.sl l_2, D.sl l_3, D.sl l_4]]) =
                                                                     y ∧
                                                                    True) ∧
                                              (decide ((↑x : Int) < (↑(List.length (List.map Fm.d (Fm.l f))) : Int)) = false →
                                               [D.agg
                                                  [D.int IntKind.i64
                                                    (D.toInt
                                                     (Option.getD (lookD (Maps.du M) (D.int IntKind.i64 (Fm.kind f))) (D.int IntKind.i64 (0 : Int)))),
                                                   D.str (Fm.name f), D.int IntKind.i64 (IntKind.wrap IntKind.i64 (Fm.n f + (1 : Int))), D.sl l, D.sl l_1,
                                                   D.sl
                                                    (List.map Fm.d
                                                     (List.map (fun (x : Fm) => Fm.right x (t && !countB (Fm.kind f))) (List.take x (Fm.l f))))]] =
                                                [r])) ∧
                                      ((Fm.kind f != (9 : Int)) = false →
                                       ∃ (x0 : Nat),
                                        x0 ≤ List.length (Fm.l f) ∧
                                         ((t = t ∧
                                            AV.ptr (0 : Nat) (0 : Nat) = AV.ptr (0 : Nat) (0 : Nat) ∧
                                             AV.ptr (1 : Nat) (0 : Nat) = AV.ptr (1 : Nat) (0 : Nat) ∧
                                              AV.ptr (2 : Nat) (0 : Nat) = AV.ptr (2 : Nat) (0 : Nat) ∧
                                               List.map Fm.d (Fm.l f) = List.map Fm.d (Fm.l f) ∧
                                                (↑(List.length (List.map Fm.d (Fm.l f))) : Int) = (↑(List.length (List.map Fm.d (Fm.l f))) : Int) ∧
                                                 (0 : Int) = (↑x0 : Int) ∧ True) ∧
                                           (Fm.kind f = Fm.kind f ∧
                                             Fm.name f = Fm.name f ∧
                                              Fm.n f = Fm.n f ∧
                                               List.map Tm.d (Fm.ts f) = List.map Tm.d (Fm.ts f) ∧
                                                List.map Bd.d (Fm.bs f) = List.map Bd.d (Fm.bs f) ∧ List.map Fm.d (Fm.l f) = List.map Fm.d (Fm.l f) ∧ True) ∧
                                            ((0 : Int) = (0 : Int) ∧
                                              Array.toList (ByteArray.data { data := #[] }) = Array.toList (ByteArray.data { data := #[] }) ∧
                                               (0 : Int) = (0 : Int) ∧ ([] : List D) = [] ∧ ([] : List D) = [] ∧ ([] : List D) = [] ∧ True) ∧
                                             (Fm.kind f = Fm.kind f ∧
                                               Fm.name f = Fm.name f ∧
                                                IntKind.wrap IntKind.i64 (Fm.n f + (1 : Int)) = IntKind.wrap IntKind.i64 (Fm.n f + (1 : Int)) ∧
                                                 l = l ∧
                                                  l_1 = l_1 ∧
                                                   ([] =
                                                      List.map Fm.d
                                                       (List.map (fun (x : Fm) => Fm.right x (t && !countB (Fm.kind f))) (List.take x0 (Fm.l f))) ∧
                                                     List.length ([] : List D) ≤ x0) ∧
                                                    True) ∧
                                              True) ∧
                                          ∀ (x : Nat),
                                           x ≤ List.length (Fm.l f) →
                                            (decide ((↑x : Int) < (↑(List.length (List.map Fm.d (Fm.l f))) : Int)) = true →
                                              ((0 : Int) ≤ (↑x : Int) ∧
                                                (List.map Fm.d (Fm.l f))[Int.toNat (↑x : Int)]? =
                                                 some
                                                  (aggAt [Sh.int IntKind.i64, Sh.str, Sh.int IntKind.i64, Sh.sl, Sh.sl, Sh.sl] (List.map Fm.d (Fm.l f))
                                                   (Int.toNat (↑x : Int)))) ∧
                                               PFn Tryd.prog (GG M) (44 : Nat) [D.int IntKind.i64 (Fm.kind f)] fun (rs : List D) =>
                                                ∃ (b : Bool),
                                                 rs = [D.bool b] ∧
                                                  PFn Tryd.prog (GG M) (38 : Nat)
                                                   [aggAt [Sh.int IntKind.i64, Sh.str, Sh.int IntKind.i64, Sh.sl, Sh.sl, Sh.sl] (List.map Fm.d (Fm.l f))
                                                     (Int.toNat (↑x : Int)),
                                                    D.bool (bif t then !b else false)]
                                                   fun (rs : List D) =>
                                                   ∃ (n : Int),
                                                    ∃ (s : List UInt8),
                                                     ∃ (n_1 : Int),
                                                      ∃ (l_2 : List D),
                                                       ∃ (l_3 : List D),
                                                        ∃ (l_4 : List D),
                                                         rs =
                                                           [D.agg
                                                             [D.int IntKind.i64 n, D.str s, D.int IntKind.i64 n_1, D.sl l_2, D.sl l_3, D.sl l_4]] ∧
                                                          (x =
                                                             List.length
                                                              (List.map Fm.d
                                                               (List.map (fun (x : Fm) => Fm.right x (t && !countB (Fm.kind f)))
                                                                (List.take x (Fm.l f)))) ∧
                                                            (6 : Nat) = (6 : Nat) ∧
                                                             FA
                                                              (List.map Fm.d
                                                               (List.map (fun (x : Fm) => Fm.right x (t && !countB (Fm.kind f)))
                                                                (List.take x (Fm.l f))))
                                                              [D.agg
                                                                [D.int IntKind.i64 n, D.str s, D.int IntKind.i64 n_1, D.sl l_2, D.sl l_3,
                                                                 D.sl l_4]]
                                                              (nat_lit 6) (nat_lit 104)) ∧
                                                           ∃ (y : Nat),
                                                            y ≤ List.length (Fm.l f) ∧
                                                             List.length (Fm.l f) - y < List.length (Fm.l f) - x ∧
                                                              (t = t ∧
                                                                AV.ptr (0 : Nat) (0 : Nat) = AV.ptr (0 : Nat) (0 : Nat) ∧
                                                                 AV.ptr (1 : Nat) (0 : Nat) = AV.ptr (1 : Nat) (0 : Nat) ∧
                                                                  AV.ptr (2 : Nat) (0 : Nat) = AV.ptr (2 : Nat) (0 : Nat) ∧
                                                                   List.map Fm.d (Fm.l f) = List.map Fm.d (Fm.l f) ∧
                                                                    (↑(List.length (List.map Fm.d (Fm.l f))) : Int) =
                                                                      (↑(List.length (List.map Fm.d (Fm.l f))) : Int) ∧
                                                                     IntKind.wrap IntKind.i64 ((↑x : Int) + (1 : Int)) = (↑y : Int) ∧
                                                                      True) ∧
                                                               (Fm.kind f = Fm.kind f ∧
                                                                 Fm.name f = Fm.name f ∧
                                                                  Fm.n f = Fm.n f ∧
                                                                   List.map Tm.d (Fm.ts f) = List.map Tm.d (Fm.ts f) ∧
                                                                    List.map Bd.d (Fm.bs f) = List.map Bd.d (Fm.bs f) ∧
                                                                     List.map Fm.d (Fm.l f) = List.map Fm.d (Fm.l f) ∧ True) ∧
                                                                ((0 : Int) = (0 : Int) ∧
                                                                  Array.toList (ByteArray.data { data := #[] }) =
                                                                    Array.toList (ByteArray.data { data := #[] }) ∧
                                                                   (0 : Int) = (0 : Int) ∧ ([] : List D) = [] ∧ ([] : List D) = [] ∧ ([] : List D) = [] ∧ True) ∧
                                                                 (Fm.kind f = Fm.kind f ∧
                                                                   Fm.name f = Fm.name f ∧
                                                                    IntKind.wrap IntKind.i64 (Fm.n f + (1 : Int)) =
                                                                      IntKind.wrap IntKind.i64 (Fm.n f + (1 : Int)) ∧
                                                                     l = l ∧
                                                                      l_1 = l_1 ∧
                                                                       List.map Fm.d
                                                                           (List.map
                                                                            (fun (x : Fm) => Fm.right x (t && !countB (Fm.kind f)))
                                                                            (List.take x (Fm.l f))) ++
                                                                          List.reverse
                                                                           [mkD true
                                                                             [D.int IntKind.i64 n, D.str s, D.int IntKind.i64 n_1,
                                                                              D.sl l_2, D.sl l_3, D.sl l_4]] =
                                                                         List.map Fm.d
                                                                          (List.map
                                                                           (fun (x : Fm) => Fm.right x (t && !countB (Fm.kind f)))
                                                                           (List.take y (Fm.l f))) ∧
                                                                        True) ∧
                                                                  List.length
                                                                      (List.map Fm.d
                                                                       (List.map (fun (x : Fm) => Fm.right x (t && !countB (Fm.kind f)))
                                                                        (List.take x (Fm.l f)))) +
                                                                     List.length
                                                                      (List.reverse
                                                                       [mkD true
                                                                         [D.int IntKind.i64 n, D.str s, D.int IntKind.i64 n_1,
                                                                          D.sl l_2, D.sl l_3, D.sl l_4]]) =
                                                                    y ∧
                                                                   True) ∧
                                             (decide ((↑x : Int) < (↑(List.length (List.map Fm.d (Fm.l f))) : Int)) = false →
                                              [D.agg
                                                 [D.int IntKind.i64 (Fm.kind f), D.str (Fm.name f),
                                                  D.int IntKind.i64 (IntKind.wrap IntKind.i64 (Fm.n f + (1 : Int))), D.sl l, D.sl l_1,
                                                  D.sl
                                                   (List.map Fm.d
                                                    (List.map (fun (x : Fm) => Fm.right x (t && !countB (Fm.kind f))) (List.take x (Fm.l f))))]] =
                                               [r]))) ∧
                                    ((Fm.kind f == (17 : Int)) = false →
                                     ((Fm.kind f != (9 : Int)) = true →
                                       (List.all (Maps.du M) fun (kv : D × D) =>
                                          sameKind (D.int IntKind.i64 (Fm.kind f)) (Prod.fst kv) && Sh.ok (Sh.int IntKind.i64) (Prod.snd kv)) =
                                         true ∧
                                        ∃ (x0 : Nat),
                                         x0 ≤ List.length (Fm.l f) ∧
                                          ((t = t ∧
                                             AV.ptr (0 : Nat) (0 : Nat) = AV.ptr (0 : Nat) (0 : Nat) ∧
                                              AV.ptr (1 : Nat) (0 : Nat) = AV.ptr (1 : Nat) (0 : Nat) ∧
                                               AV.ptr (2 : Nat) (0 : Nat) = AV.ptr (2 : Nat) (0 : Nat) ∧
                                                List.map Fm.d (Fm.l f) = List.map Fm.d (Fm.l f) ∧
                                                 (↑(List.length (List.map Fm.d (Fm.l f))) : Int) = (↑(List.length (List.map Fm.d (Fm.l f))) : Int) ∧
                                                  (0 : Int) = (↑x0 : Int) ∧ True) ∧
                                            (Fm.kind f = Fm.kind f ∧
                                              Fm.name f = Fm.name f ∧
                                               Fm.n f = Fm.n f ∧
                                                List.map Tm.d (Fm.ts f) = List.map Tm.d (Fm.ts f) ∧
                                                 List.map Bd.d (Fm.bs f) = List.map Bd.d (Fm.bs f) ∧ List.map Fm.d (Fm.l f) = List.map Fm.d (Fm.l f) ∧ True) ∧
                                             ((0 : Int) = (0 : Int) ∧
                                               Array.toList (ByteArray.data { data := #[] }) = Array.toList (ByteArray.data { data := #[] }) ∧
                                                (0 : Int) = (0 : Int) ∧ ([] : List D) = [] ∧ ([] : List D) = [] ∧ ([] : List D) = [] ∧ True) ∧
                                              (D.toInt (Option.getD (lookD (Maps.du M) (D.int IntKind.i64 (Fm.kind f))) (D.int IntKind.i64 (0 : Int))) =
                                                 D.toInt (Option.getD (lookD (Maps.du M) (D.int IntKind.i64 (Fm.kind f))) (D.int IntKind.i64 (0 : Int))) ∧
                                                Fm.name f = Fm.name f ∧
                                                 Fm.n f = Fm.n f ∧
                                                  l = l ∧
                                                   l_1 = l_1 ∧
                                                    ([] =
                                                       List.map Fm.d
                                                        (List.map (fun (x : Fm) => Fm.right x (t && !countB (Fm.kind f))) (List.take x0 (Fm.l f))) ∧
                                                      List.length ([] : List D) ≤ x0) ∧
                                                     True) ∧
                                               True) ∧
                                           ∀ (x : Nat),
                                            x ≤ List.length (Fm.l f) →
                                             (decide ((↑x : Int) < (↑(List.length (List.map Fm.d (Fm.l f))) : Int)) = true →
                                               ((0 : Int) ≤ (↑x : Int) ∧
                                                 (List.map Fm.d (Fm.l f))[Int.toNat (↑x : Int)]? =
                                                  some
                                                   (aggAt [Sh.int IntKind.i64, Sh.str, Sh.int IntKind.i64, Sh.sl, Sh.sl, Sh.sl] (List.map Fm.d (Fm.l f))
                                                    (Int.toNat (↑x : Int)))) ∧
                                                PFn Tryd.prog (GG M) (44 : Nat) [D.int IntKind.i64 (Fm.kind f)] fun (rs : List D) =>
                                                 ∃ (b : Bool),
                                                  rs = [D.bool b] ∧
                                                   PFn Tryd.prog (GG M) (38 : Nat)
                                                    [aggAt [Sh.int IntKind.i64, Sh.str, Sh.int IntKind.i64, Sh.sl, Sh.sl, Sh.sl] (List.map Fm.d (Fm.l f))
                                                      (Int.toNat (↑x : Int)),
                                                     D.bool (bif t then !b else false)]
                                                    fun (rs : List D) =>
                                                    ∃ (n : Int),
                                                     ∃ (s : List UInt8),
                                                      ∃ (n_1 : Int),
                                                       ∃ (l_2 : List D),
                                                        ∃ (l_3 : List D),
                                                         ∃ (l_4 : List D),
                                                          rs =
                                                            [D.agg
                                                              [D.int IntKind.i64 n, D.str s, D.int IntKind.i64 n_1, D.sl l_2, D.sl l_3,
                                                               D.sl l_4]] ∧
                                                           (x =
                                                              List.length
                                                               (List.map Fm.d
                                                                (List.map (fun (x : Fm) => Fm.right x (t && !countB (Fm.kind f)))
                                                                 (List.take x (Fm.l f)))) ∧
                                                             (6 : Nat) = (6 : Nat) ∧
                                                              FA
                                                               (List.map Fm.d
                                                                (List.map (fun (x : Fm) => Fm.right x (t && !countB (Fm.kind f)))
                                                                 (List.take x (Fm.l f))))
                                                               [D.agg
                                                                 [D.int IntKind.i64 n, D.str s, D.int IntKind.i64 n_1, D.sl l_2, D.sl l_3,
                                                                  D.sl l_4]]
                                                               (nat_lit 6) (nat_lit 104)) ∧
                                                            ∃ (y : Nat),
                                                             y ≤ List.length (Fm.l f) ∧
                                                              List.length (Fm.l f) - y < List.length (Fm.l f) - x ∧
                                                               (t = t ∧
                                                                 AV.ptr (0 : Nat) (0 : Nat) = AV.ptr (0 : Nat) (0 : Nat) ∧
                                                                  AV.ptr (1 : Nat) (0 : Nat) = AV.ptr (1 : Nat) (0 : Nat) ∧
                                                                   AV.ptr (2 : Nat) (0 : Nat) = AV.ptr (2 : Nat) (0 : Nat) ∧
                                                                    List.map Fm.d (Fm.l f) = List.map Fm.d (Fm.l f) ∧
                                                                     (↑(List.length (List.map Fm.d (Fm.l f))) : Int) =
                                                                       (↑(List.length (List.map Fm.d (Fm.l f))) : Int) ∧
                                                                      IntKind.wrap IntKind.i64 ((↑x : Int) + (1 : Int)) = (↑y : Int) ∧
                                                                       True) ∧
                                                                (Fm.kind f = Fm.kind f ∧
                                                                  Fm.name f = Fm.name f ∧
                                                                   Fm.n f = Fm.n f ∧
                                                                    List.map Tm.d (Fm.ts f) = List.map Tm.d (Fm.ts f) ∧
                                                                     List.map Bd.d (Fm.bs f) = List.map Bd.d (Fm.bs f) ∧
                                                                      List.map Fm.d (Fm.l f) = List.map Fm.d (Fm.l f) ∧ True) ∧
                                                                 ((0 : Int) = (0 : Int) ∧
                                                                   Array.toList (ByteArray.data { data := #[] }) =
                                                                     Array.toList (ByteArray.data { data := #[] }) ∧
                                                                    (0 : Int) = (0 : Int) ∧ ([] : List D) = [] ∧ ([] : List D) = [] ∧ ([] : List D) = [] ∧ True) ∧
                                                                  (D.toInt
                                                                      (Option.getD (lookD (Maps.du M) (D.int IntKind.i64 (Fm.kind f)))
                                                                       (D.int IntKind.i64 (0 : Int))) =
                                                                     D.toInt
                                                                      (Option.getD (lookD (Maps.du M) (D.int IntKind.i64 (Fm.kind f)))
                                                                       (D.int IntKind.i64 (0 : Int))) ∧
                                                                    Fm.name f = Fm.name f ∧
                                                                     Fm.n f = Fm.n f ∧
                                                                      l = l ∧
                                                                       l_1 = l_1 ∧
                                                                        List.map Fm.d
                                                                            (List.map
                                                                             (fun (x : Fm) =>
                                                                              Fm.right x (t && !countB (Fm.kind f)))
                                                                             (List.take x (Fm.l f))) ++
                                                                           List.reverse
                                                                            [mkD true
                                                                              [D.int IntKind.i64 n, D.str s,
                                                                               D.int IntKind.i64 n_1, D.sl l_2, D.sl l_3,
                                                                               D.sl l_4]] =
                                                                          List.map Fm.d
                                                                           (List.map
                                                                            (fun (x : Fm) => Fm.right x (t && !countB (Fm.kind f)))
                                                                            (List.take y (Fm.l f))) ∧
                                                                         True) ∧
                                                                   List.length
                                                                       (List.map Fm.d
                                                                        (List.map
                                                                         (fun (x : Fm) => Fm.right x (t && !countB (Fm.kind f)))
                                                                         (List.take x (Fm.l f)))) +
                                                                      List.length
                                                                       (List.reverse
                                                                        [mkD true
                                                                          [D.int IntKind.i64 n, D.str s, D.int IntKind.i64 n_1,
                                                                           D.sl l_2, D.sl l_3, D.sl l_4]]) =
                                                                     y ∧
                                                                    True) ∧
                                              (decide ((↑x : Int) < (↑(List.length (List.map Fm.d (Fm.l f))) : Int)) = false →
                                               [D.agg
                                                  [D.int IntKind.i64
                                                    (D.toInt
                                                     (Option.getD (lookD (Maps.du M) (D.int IntKind.i64 (Fm.kind f))) (D.int IntKind.i64 (0 : Int)))),
                                                   D.str (Fm.name f), D.int IntKind.i64 (Fm.n f), D.sl l, D.sl l_1,
                                                   D.sl
                                                    (List.map Fm.d
                                                     (List.map (fun (x : Fm) => Fm.right x (t && !countB (Fm.kind f))) (List.take x (Fm.l f))))]] =
                                                [r])) ∧
                                      ((Fm.kind f != (9 : Int)) = false →
                                       ∃ (x0 : Nat),
                                        x0 ≤ List.length (Fm.l f) ∧
                                         ((t = t ∧
                                            AV.ptr (0 : Nat) (0 : Nat) = AV.ptr (0 : Nat) (0 : Nat) ∧
                                             AV.ptr (1 : Nat) (0 : Nat) = AV.ptr (1 : Nat) (0 : Nat) ∧
                                              AV.ptr (2 : Nat) (0 : Nat) = AV.ptr (2 : Nat) (0 : Nat) ∧
                                               List.map Fm.d (Fm.l f) = List.map Fm.d (Fm.l f) ∧
                                                (↑(List.length (List.map Fm.d (Fm.l f))) : Int) = (↑(List.length (List.map Fm.d (Fm.l f))) : Int) ∧
                                                 (0 : Int) = (↑x0 : Int) ∧ True) ∧
                                           (Fm.kind f = Fm.kind f ∧
                                             Fm.name f = Fm.name f ∧
                                              Fm.n f = Fm.n f ∧
                                               List.map Tm.d (Fm.ts f) = List.map Tm.d (Fm.ts f) ∧
                                                List.map Bd.d (Fm.bs f) = List.map Bd.d (Fm.bs f) ∧ List.map Fm.d (Fm.l f) = List.map Fm.d (Fm.l f) ∧ True) ∧
                                            ((0 : Int) = (0 : Int) ∧
                                              Array.toList (ByteArray.data { data := #[] }) = Array.toList (ByteArray.data { data := #[] }) ∧
                                               (0 : Int) = (0 : Int) ∧ ([] : List D) = [] ∧ ([] : List D) = [] ∧ ([] : List D) = [] ∧ True) ∧
                                             (Fm.kind f = Fm.kind f ∧
                                               Fm.name f = Fm.name f ∧
                                                Fm.n f = Fm.n f ∧
                                                 l = l ∧
                                                  l_1 = l_1 ∧
                                                   ([] =
                                                      List.map Fm.d
                                                       (List.map (fun (x : Fm) => Fm.right x (t && !countB (Fm.kind f))) (List.take x0 (Fm.l f))) ∧
                                                     List.length ([] : List D) ≤ x0) ∧
                                                    True) ∧
                                              True) ∧
                                          ∀ (x : Nat),
                                           x ≤ List.length (Fm.l f) →
                                            (decide ((↑x : Int) < (↑(List.length (List.map Fm.d (Fm.l f))) : Int)) = true →
                                              ((0 : Int) ≤ (↑x : Int) ∧
                                                (List.map Fm.d (Fm.l f))[Int.toNat (↑x : Int)]? =
                                                 some
                                                  (aggAt [Sh.int IntKind.i64, Sh.str, Sh.int IntKind.i64, Sh.sl, Sh.sl, Sh.sl] (List.map Fm.d (Fm.l f))
                                                   (Int.toNat (↑x : Int)))) ∧
                                               PFn Tryd.prog (GG M) (44 : Nat) [D.int IntKind.i64 (Fm.kind f)] fun (rs : List D) =>
                                                ∃ (b : Bool),
                                                 rs = [D.bool b] ∧
                                                  PFn Tryd.prog (GG M) (38 : Nat)
                                                   [aggAt [Sh.int IntKind.i64, Sh.str, Sh.int IntKind.i64, Sh.sl, Sh.sl, Sh.sl] (List.map Fm.d (Fm.l f))
                                                     (Int.toNat (↑x : Int)),
                                                    D.bool (bif t then !b else false)]
                                                   fun (rs : List D) =>
                                                   ∃ (n : Int),
                                                    ∃ (s : List UInt8),
                                                     ∃ (n_1 : Int),
                                                      ∃ (l_2 : List D),
                                                       ∃ (l_3 : List D),
                                                        ∃ (l_4 : List D),
                                                         rs =
                                                           [D.agg
                                                             [D.int IntKind.i64 n, D.str s, D.int IntKind.i64 n_1, D.sl l_2, D.sl l_3, D.sl l_4]] ∧
                                                          (x =
                                                             List.length
                                                              (List.map Fm.d
                                                               (List.map (fun (x : Fm) => Fm.right x (t && !countB (Fm.kind f)))
                                                                (List.take x (Fm.l f)))) ∧
                                                            (6 : Nat) = (6 : Nat) ∧
                                                             FA
                                                              (List.map Fm.d
                                                               (List.map (fun (x : Fm) => Fm.right x (t && !countB (Fm.kind f)))
                                                                (List.take x (Fm.l f))))
                                                              [D.agg
                                                                [D.int IntKind.i64 n, D.str s, D.int IntKind.i64 n_1, D.sl l_2, D.sl l_3,
                                                                 D.sl l_4]]
                                                              (nat_lit 6) (nat_lit 104)) ∧
                                                           ∃ (y : Nat),
                                                            y ≤ List.length (Fm.l f) ∧
                                                             List.length (Fm.l f) - y < List.length (Fm.l f) - x ∧
                                                              (t = t ∧
                                                                AV.ptr (0 : Nat) (0 : Nat) = AV.ptr (0 : Nat) (0 : Nat) ∧
                                                                 AV.ptr (1 : Nat) (0 : Nat) = AV.ptr (1 : Nat) (0 : Nat) ∧
                                                                  AV.ptr (2 : Nat) (0 : Nat) = AV.ptr (2 : Nat) (0 : Nat) ∧
                                                                   List.map Fm.d (Fm.l f) = List.map Fm.d (Fm.l f) ∧
                                                                    (↑(List.length (List.map Fm.d (Fm.l f))) : Int) =
                                                                      (↑(List.length (List.map Fm.d (Fm.l f))) : Int) ∧
                                                                     IntKind.wrap IntKind.i64 ((↑x : Int) + (1 : Int)) = (↑y : Int) ∧
                                                                      True) ∧
                                                               (Fm.kind f = Fm.kind f ∧
                                                                 Fm.name f = Fm.name f ∧
                                                                  Fm.n f = Fm.n f ∧
                                                                   List.map Tm.d (Fm.ts f) = List.map Tm.d (Fm.ts f) ∧
                                                                    List.map Bd.d (Fm.bs f) = List.map Bd.d (Fm.bs f) ∧
                                                                     List.map Fm.d (Fm.l f) = List.map Fm.d (Fm.l f) ∧ True) ∧
                                                                ((0 : Int) = (0 : Int) ∧
                                                                  Array.toList (ByteArray.data { data := #[] }) =
                                                                    Array.toList (ByteArray.data { data := #[] }) ∧
                                                                   (0 : Int) = (0 : Int) ∧ ([] : List D) = [] ∧ ([] : List D) = [] ∧ ([] : List D) = [] ∧ True) ∧
                                                                 (Fm.kind f = Fm.kind f ∧
                                                                   Fm.name f = Fm.name f ∧
                                                                    Fm.n f = Fm.n f ∧
                                                                     l = l ∧
                                                                      l_1 = l_1 ∧
                                                                       List.map Fm.d
                                                                           (List.map
                                                                            (fun (x : Fm) => Fm.right x (t && !countB (Fm.kind f)))
                                                                            (List.take x (Fm.l f))) ++
                                                                          List.reverse
                                                                           [mkD true
                                                                             [D.int IntKind.i64 n, D.str s, D.int IntKind.i64 n_1,
                                                                              D.sl l_2, D.sl l_3, D.sl l_4]] =
                                                                         List.map Fm.d
                                                                          (List.map
                                                                           (fun (x : Fm) => Fm.right x (t && !countB (Fm.kind f)))
                                                                           (List.take y (Fm.l f))) ∧
                                                                        True) ∧
                                                                  List.length
                                                                      (List.map Fm.d
                                                                       (List.map (fun (x : Fm) => Fm.right x (t && !countB (Fm.kind f)))
                                                                        (List.take x (Fm.l f)))) +
                                                                     List.length
                                                                      (List.reverse
                                                                       [mkD true
                                                                         [D.int IntKind.i64 n, D.str s, D.int IntKind.i64 n_1,
                                                                          D.sl l_2, D.sl l_3, D.sl l_4]]) =
                                                                    y ∧
                                                                   True) ∧
                                             (decide ((↑x : Int) < (↑(List.length (List.map Fm.d (Fm.l f))) : Int)) = false →
                                              [D.agg
                                                 [D.int IntKind.i64 (Fm.kind f), D.str (Fm.name f), D.int IntKind.i64 (Fm.n f), D.sl l, D.sl l_1,
                                                  D.sl
                                                   (List.map Fm.d
                                                    (List.map (fun (x : Fm) => Fm.right x (t && !countB (Fm.kind f))) (List.take x (Fm.l f))))]] =
                                               [r])))))) ∧
                              (t = false →
                               ∃ (x0 : Nat),
                                x0 ≤ List.length (Fm.l f) ∧
                                 ((t = t ∧
                                    AV.ptr (0 : Nat) (0 : Nat) = AV.ptr (0 : Nat) (0 : Nat) ∧
                                     AV.ptr (1 : Nat) (0 : Nat) = AV.ptr (1 : Nat) (0 : Nat) ∧
                                      AV.ptr (2 : Nat) (0 : Nat) = AV.ptr (2 : Nat) (0 : Nat) ∧
                                       List.map Fm.d (Fm.l f) = List.map Fm.d (Fm.l f) ∧
                                        (↑(List.length (List.map Fm.d (Fm.l f))) : Int) = (↑(List.length (List.map Fm.d (Fm.l f))) : Int) ∧
                                         (0 : Int) = (↑x0 : Int) ∧ True) ∧
                                   (Fm.kind f = Fm.kind f ∧
                                     Fm.name f = Fm.name f ∧
                                      Fm.n f = Fm.n f ∧
                                       List.map Tm.d (Fm.ts f) = List.map Tm.d (Fm.ts f) ∧
                                        List.map Bd.d (Fm.bs f) = List.map Bd.d (Fm.bs f) ∧ List.map Fm.d (Fm.l f) = List.map Fm.d (Fm.l f) ∧ True) ∧
                                    ((0 : Int) = (0 : Int) ∧
                                      Array.toList (ByteArray.data { data := #[] }) = Array.toList (ByteArray.data { data := #[] }) ∧
                                       (0 : Int) = (0 : Int) ∧ ([] : List D) = [] ∧ ([] : List D) = [] ∧ ([] : List D) = [] ∧ True) ∧
                                     (Fm.kind f = Fm.kind f ∧
                                       Fm.name f = Fm.name f ∧
                                        Fm.n f = Fm.n f ∧
                                         l = l ∧
                                          l_1 = l_1 ∧
                                           ([] = List.map Fm.d (List.map (fun (x : Fm) => Fm.right x (t && !countB (Fm.kind f))) (List.take x0 (Fm.l f))) ∧
                                             List.length ([] : List D) ≤ x0) ∧
                                            True) ∧
                                      True) ∧
                                  ∀ (x : Nat),
                                   x ≤ List.length (Fm.l f) →
                                    (decide ((↑x : Int) < (↑(List.length (List.map Fm.d (Fm.l f))) : Int)) = true →
                                      ((0 : Int) ≤ (↑x : Int) ∧
                                        (List.map Fm.d (Fm.l f))[Int.toNat (↑x : Int)]? =
                                         some
                                          (aggAt [Sh.int IntKind.i64, Sh.str, Sh.int IntKind.i64, Sh.sl, Sh.sl, Sh.sl] (List.map Fm.d (Fm.l f))
                                           (Int.toNat (↑x : Int)))) ∧
                                       PFn Tryd.prog (GG M) (44 : Nat) [D.int IntKind.i64 (Fm.kind f)] fun (rs : List D) =>
                                        ∃ (b : Bool),
                                         rs = [D.bool b] ∧
                                          PFn Tryd.prog (GG M) (38 : Nat)
                                           [aggAt [Sh.int IntKind.i64, Sh.str, Sh.int IntKind.i64, Sh.sl, Sh.sl, Sh.sl] (List.map Fm.d (Fm.l f))
                                             (Int.toNat (↑x : Int)),
                                            D.bool (bif t then !b else false)]
                                           fun (rs : List D) =>
                                           ∃ (n : Int),
                                            ∃ (s : List UInt8),
                                             ∃ (n_1 : Int),
                                              ∃ (l_2 : List D),
                                               ∃ (l_3 : List D),
                                                ∃ (l_4 : List D),
                                                 rs = [D.agg [D.int IntKind.i64 n, D.str s, D.int IntKind.i64 n_1, D.sl l_2, D.sl l_3, D.sl l_4]] ∧
                                                  (x =
                                                     List.length
                                                      (List.map Fm.d
                                                       (List.map (fun (x : Fm) => Fm.right x (t && !countB (Fm.kind f))) (List.take x (Fm.l f)))) ∧
                                                    (6 : Nat) = (6 : Nat) ∧
                                                     FA
                                                      (List.map Fm.d
                                                       (List.map (fun (x : Fm) => Fm.right x (t && !countB (Fm.kind f))) (List.take x (Fm.l f))))
                                                      [D.agg [D.int IntKind.i64 n, D.str s, D.int IntKind.i64 n_1, D.sl l_2, D.sl l_3, D.sl l_4]]
                                                      (nat_lit 6) (nat_lit 104)) ∧
                                                   ∃ (y : Nat),
                                                    y ≤ List.length (Fm.l f) ∧
                                                     List.length (Fm.l f) - y < List.length (Fm.l f) - x ∧
                                                      (t = t ∧
                                                        AV.ptr (0 : Nat) (0 : Nat) = AV.ptr (0 : Nat) (0 : Nat) ∧
                                                         AV.ptr (1 : Nat) (0 : Nat) = AV.ptr (1 : Nat) (0 : Nat) ∧
                                                          AV.ptr (2 : Nat) (0 : Nat) = AV.ptr (2 : Nat) (0 : Nat) ∧
                                                           List.map Fm.d (Fm.l f) = List.map Fm.d (Fm.l f) ∧
                                                            (↑(List.length (List.map Fm.d (Fm.l f))) : Int) =
                                                              (↑(List.length (List.map Fm.d (Fm.l f))) : Int) ∧
                                                             IntKind.wrap IntKind.i64 ((↑x : Int) + (1 : Int)) = (↑y : Int) ∧ True) ∧
                                                       (Fm.kind f = Fm.kind f ∧
                                                         Fm.name f = Fm.name f ∧
                                                          Fm.n f = Fm.n f ∧
                                                           List.map Tm.d (Fm.ts f) = List.map Tm.d (Fm.ts f) ∧
                                                            List.map Bd.d (Fm.bs f) = List.map Bd.d (Fm.bs f) ∧
                                                             List.map Fm.d (Fm.l f) = List.map Fm.d (Fm.l f) ∧ True) ∧
                                                        ((0 : Int) = (0 : Int) ∧
                                                          Array.toList (ByteArray.data { data := #[] }) =
                                                            Array.toList (ByteArray.data { data := #[] }) ∧
                                                           (0 : Int) = (0 : Int) ∧ ([] : List D) = [] ∧ ([] : List D) = [] ∧ ([] : List D) = [] ∧ True) ∧
                                                         (Fm.kind f = Fm.kind f ∧
                                                           Fm.name f = Fm.name f ∧
                                                            Fm.n f = Fm.n f ∧
                                                             l = l ∧
                                                              l_1 = l_1 ∧
                                                               List.map Fm.d
                                                                   (List.map (fun (x : Fm) => Fm.right x (t && !countB (Fm.kind f)))
                                                                    (List.take x (Fm.l f))) ++
                                                                  List.reverse
                                                                   [mkD true
                                                                     [D.int IntKind.i64 n, D.str s, D.int IntKind.i64 n_1, D.sl l_2,
                                                                      D.sl l_3, D.sl l_4]] =
                                                                 List.map Fm.d
                                                                  (List.map (fun (x : Fm) => Fm.right x (t && !countB (Fm.kind f)))
                                                                   (List.take y (Fm.l f))) ∧
                                                                True) ∧
                                                          List.length
                                                              (List.map Fm.d
                                                               (List.map (fun (x : Fm) => Fm.right x (t && !countB (Fm.kind f)))
                                                                (List.take x (Fm.l f)))) +
                                                             List.length
                                                              (List.reverse
                                                               [mkD true
                                                                 [D.int IntKind.i64 n, D.str s, D.int IntKind.i64 n_1, D.sl l_2, D.sl l_3,
                                                                  D.sl l_4]]) =
                                                            y ∧
                                                           True) ∧
                                     (decide ((↑x : Int) < (↑(List.length (List.map Fm.d (Fm.l f))) : Int)) = false →
                                      [D.agg
                                         [D.int IntKind.i64 (Fm.kind f), D.str (Fm.name f), D.int IntKind.i64 (Fm.n f), D.sl l, D.sl l_1,
                                          D.sl (List.map Fm.d (List.map (fun (x : Fm) => Fm.right x (t && !countB (Fm.kind f))) (List.take x (Fm.l f))))]] =
                                       [r]))))))))
  · kernel_rfl
  have hre := right_eq f t
  have e0 : Array.toList (ByteArray.data { data := #[] }) = ([] : List UInt8) := rfl
  refine h56.mono ?_
  rintro rs rfl
  refine ⟨_, rfl, ?_⟩
  have e1 : (bif bif alwaysB f then t else false then true else bif f.kind == 2 then !t else false) = (alwaysB f && t || f.kind == 2 && !t) := by simp only [bif_or, bif_and]
  rw [e1]
  refine ⟨fun h => ?_, fun h => ?_⟩
  · rw [← hr, hre, if_pos h, Fm.d_mk]; rfl
  rw [if_neg (by rw [h]; simp)] at hre
  refine h56.mono ?_
  rintro rs rfl
  refine ⟨_, rfl, ?_⟩
  rw [bif_or]
  refine ⟨fun h2 => ?_, fun h2 => ?_⟩
  · rw [← hr, hre, if_pos h2, Fm.d_mk]; rfl
  rw [if_neg (by rw [h2]; simp)] at hre
  refine ⟨fun h3 => ?_, fun h3 => ?_⟩
  · have h3' : f.kind = 10 := by simpa using h3
    obtain ⟨x, hx⟩ := hl10 h3'
    rw [if_pos h3', hx] at hre
    rw [hx, agg_fm (i := Int.toNat 0) (f := x) rfl]
    refine ⟨⟨by decide, rfl⟩, ?_⟩
    refine (ih x (by rw [hx]; simp) (hall x (by rw [hx]; simp)) (!t)).mono ?_
    rintro rs rfl
    refine ⟨_, _, _, _, _, _, congrArg (fun z => [z]) (Fm.d_eq _), ?_⟩
    rw [← Fm.d_eq, ← hr, hre]; rfl
  have h3' : ¬ f.kind = 10 := by simpa using h3
  rw [if_neg h3'] at hre
  refine ⟨fun h4 => ?_, fun h4 => ?_⟩
  · have h4' : f.kind = 13 := by simpa using h4
    obtain ⟨x, y, hx⟩ := hl13 h4'
    rw [if_pos h4', hx] at hre
    rw [hx, agg_fm (i := Int.toNat 0) (f := x) rfl, agg_fm (i := Int.toNat 1) (f := y) rfl]
    refine ⟨⟨by decide, rfl⟩, ⟨by decide, rfl⟩, ?_⟩
    refine (ih x (by rw [hx]; simp) (hall x (by rw [hx]; simp)) (!t)).mono ?_
    rintro rs rfl
    refine ⟨_, _, _, _, _, _, congrArg (fun z => [z]) (Fm.d_eq _), ?_⟩
    refine (ih y (by rw [hx]; simp) (hall y (by rw [hx]; simp)) t).mono ?_
    rintro rs rfl
    refine ⟨_, _, _, _, _, _, congrArg (fun z => [z]) (Fm.d_eq _), fun ht => ?_, fun ht => ?_⟩
    · subst ht; rw [← Fm.d_eq, ← Fm.d_eq, ← hr, hre, Fm.d_mk]; rfl
    · subst ht; rw [← Fm.d_eq, ← Fm.d_eq, ← hr, hre, Fm.d_mk]; rfl
  have h4' : ¬ f.kind = 13 := by simpa using h4
  rw [if_neg h4'] at hre
  refine (fn42 f.kind).mono ?_
  rintro rs rfl
  refine ⟨_, rfl, ?_⟩
  rw [bif_and, bif_and]
  refine ⟨fun h5 => ?_, fun h5 => ?_⟩
  · rw [← hr, hre, if_pos h5, Fm.d_mk]
    simp only [List.map_cons, List.map_nil, f.d_eq]
  rw [if_neg (by rw [h5]; simp)] at hre
  refine (fn57 f.ts (by omega)).mono ?_
  rintro rs rfl
  refine ⟨_, rfl, ?_⟩
  refine (fn58 f.bs (by omega)).mono ?_
  rintro rs rfl
  refine ⟨_, rfl, ?_⟩
  have hdu : D.toInt (Option.getD (lookD M.du (.int .i64 f.kind)) (.int .i64 0)) = dualI f.kind := by rw [hM.duG, ← dual_look]; cases duL.lookup f.kind <;> rfl
  have hsi : f.kind = 9 → D.toStr (Option.getD (lookD M.si (.str f.name)) (.str (Array.toList (ByteArray.data { data := #[] })))) = turnS f.name := fun hk => by
    rw [hM.siG, ← sign_turn f.name (hsg hk)]; cases siL.lookup f.name <;> rfl
  have hsiA : (M.si.all fun kv => sameKind (.str f.name) kv.1 && Sh.ok .str kv.2) = true := by simp only [same_str f.name]; exact hM.siA
  have hduA : (M.du.all fun kv => sameKind (.int .i64 f.kind) kv.1 && Sh.ok (.int .i64) kv.2) = true := by simp only [same_int f.kind]; exact hM.duA
  have tr : ∀ {b : Bool}, b = true → ¬ b = false := fun h h' => by rw [h] at h'; cases h'
  refine ⟨fun ht => ⟨fun h9 => ⟨hsiA, fun hne => ?_, fun hne => ?_⟩, fun h9 => ⟨fun h16 => ⟨fun hne => ⟨hduA, ?_⟩, fun hne => ?_⟩, fun h16 => ⟨fun h17 => ⟨fun hne => ⟨hduA, ?_⟩, fun hne => ?_⟩, fun h17 => ⟨fun hne => ⟨hduA, ?_⟩, fun hne => ?_⟩⟩⟩⟩, fun ht => ?_⟩
  · simp [bne, h9] at hne
  · have hk : f.kind = 9 := by simpa using h9
    have hR : f.right t = Fm.mk f.kind (D.toStr (Option.getD (lookD M.si (.str f.name)) (.str (Array.toList (ByteArray.data { data := #[] }))))) f.n f.ts f.bs (f.l.map (·.right (t && !countB f.kind))) := by
      rw [hre, hsi hk, ht]; simp [hk]
    refine ⟨0, Nat.zero_le _, by simp, fun i hi => ⟨fun hlt => ?_, fun hge => ?_⟩⟩
    · simp only [List.length_map, decide_eq_true_eq] at hlt
      obtain ⟨z, hz, hm⟩ := get_nat (l := f.l) (x := i) (by omega)
      rw [Int.toNat_natCast, agg_fm hz]
      refine ⟨⟨by omega, by simp [hz]⟩, ?_⟩
      refine (fn44 f.kind).mono ?_
      rintro rs rfl
      refine ⟨_, rfl, ?_⟩
      rw [bif_and]
      refine (ih z hm (hall z hm) (t && !countB f.kind)).mono ?_
      rintro rs rfl
      refine ⟨_, _, _, _, _, _, congrArg (fun z => [z]) (Fm.d_eq _), ⟨?_, rfl, ?_, ?_⟩, i + 1, by omega, by omega, ⟨rfl, rfl, rfl, rfl, rfl, rfl, ?_, trivial⟩, ⟨rfl, rfl, rfl, rfl, rfl, rfl, trivial⟩, ⟨rfl, rfl, rfl, rfl, rfl, rfl, trivial⟩, ⟨rfl, rfl, rfl, rfl, rfl, ?_, trivial⟩, ?_, trivial⟩
      · simp; omega
      · rw [← Fm.d_eq]
        have := cells_fm ((f.l.take i).map (·.right (t && !countB f.kind)) ++ [z.right (t && !countB f.kind)])
        simpa using this
      · simp; omega
      · rw [wrap64 (by omega) (by omega)]; simp
      · show _ ++ [D.agg (fmCells (z.right (t && !countB f.kind)))] = _
        rw [← d_cells, List.take_add_one, hz]; simp
      · simp; omega
    · simp only [List.length_map, decide_eq_false_iff_not] at hge
      rw [List.take_of_length_le (by omega), ← hr, hR, Fm.d_mk]
  · have hk : f.kind = 16 := by simpa using h16
    have hw : IntKind.wrap IntKind.i64 (f.n - 1) = f.n - 1 := by
      have := hn0 (.inl hk); rw [wrap64 (by omega) (by omega)]
    have hR : f.right t = Fm.mk (D.toInt (Option.getD (lookD M.du (.int .i64 f.kind)) (.int .i64 0))) f.name (IntKind.wrap IntKind.i64 (f.n - 1)) f.ts f.bs (f.l.map (·.right (t && !countB f.kind))) := by
      rw [hre, hdu, hw, ht]; simp [hk]
    refine ⟨0, Nat.zero_le _, by simp, fun i hi => ⟨fun hlt => ?_, fun hge => ?_⟩⟩
    · simp only [List.length_map, decide_eq_true_eq] at hlt
      obtain ⟨z, hz, hm⟩ := get_nat (l := f.l) (x := i) (by omega)
      rw [Int.toNat_natCast, agg_fm hz]
      refine ⟨⟨by omega, by simp [hz]⟩, ?_⟩
      refine (fn44 f.kind).mono ?_
      rintro rs rfl
      refine ⟨_, rfl, ?_⟩
      rw [bif_and]
      refine (ih z hm (hall z hm) (t && !countB f.kind)).mono ?_
      rintro rs rfl
      refine ⟨_, _, _, _, _, _, congrArg (fun z => [z]) (Fm.d_eq _), ⟨?_, rfl, ?_, ?_⟩, i + 1, by omega, by omega, ⟨rfl, rfl, rfl, rfl, rfl, rfl, ?_, trivial⟩, ⟨rfl, rfl, rfl, rfl, rfl, rfl, trivial⟩, ⟨rfl, rfl, rfl, rfl, rfl, rfl, trivial⟩, ⟨rfl, rfl, rfl, rfl, rfl, ?_, trivial⟩, ?_, trivial⟩
      · simp; omega
      · rw [← Fm.d_eq]
        have := cells_fm ((f.l.take i).map (·.right (t && !countB f.kind)) ++ [z.right (t && !countB f.kind)])
        simpa using this
      · simp; omega
      · rw [wrap64 (by omega) (by omega)]; simp
      · show _ ++ [D.agg (fmCells (z.right (t && !countB f.kind)))] = _
        rw [← d_cells, List.take_add_one, hz]; simp
      · simp; omega
    · simp only [List.length_map, decide_eq_false_iff_not] at hge
      rw [List.take_of_length_le (by omega), ← hr, hR, Fm.d_mk]
  · simp [bne, h9] at hne
  · have hk : f.kind = 17 := by simpa using h17
    have hw : IntKind.wrap IntKind.i64 (f.n + 1) = f.n + 1 := by
      have := hn0 (.inr hk); rw [wrap64 (by omega) (by omega)]
    have hR : f.right t = Fm.mk (D.toInt (Option.getD (lookD M.du (.int .i64 f.kind)) (.int .i64 0))) f.name (IntKind.wrap IntKind.i64 (f.n + 1)) f.ts f.bs (f.l.map (·.right (t && !countB f.kind))) := by
      rw [hre, hdu, hw, ht]; simp [hk]
    refine ⟨0, Nat.zero_le _, by simp, fun i hi => ⟨fun hlt => ?_, fun hge => ?_⟩⟩
    · simp only [List.length_map, decide_eq_true_eq] at hlt
      obtain ⟨z, hz, hm⟩ := get_nat (l := f.l) (x := i) (by omega)
      rw [Int.toNat_natCast, agg_fm hz]
      refine ⟨⟨by omega, by simp [hz]⟩, ?_⟩
      refine (fn44 f.kind).mono ?_
      rintro rs rfl
      refine ⟨_, rfl, ?_⟩
      rw [bif_and]
      refine (ih z hm (hall z hm) (t && !countB f.kind)).mono ?_
      rintro rs rfl
      refine ⟨_, _, _, _, _, _, congrArg (fun z => [z]) (Fm.d_eq _), ⟨?_, rfl, ?_, ?_⟩, i + 1, by omega, by omega, ⟨rfl, rfl, rfl, rfl, rfl, rfl, ?_, trivial⟩, ⟨rfl, rfl, rfl, rfl, rfl, rfl, trivial⟩, ⟨rfl, rfl, rfl, rfl, rfl, rfl, trivial⟩, ⟨rfl, rfl, rfl, rfl, rfl, ?_, trivial⟩, ?_, trivial⟩
      · simp; omega
      · rw [← Fm.d_eq]
        have := cells_fm ((f.l.take i).map (·.right (t && !countB f.kind)) ++ [z.right (t && !countB f.kind)])
        simpa using this
      · simp; omega
      · rw [wrap64 (by omega) (by omega)]; simp
      · show _ ++ [D.agg (fmCells (z.right (t && !countB f.kind)))] = _
        rw [← d_cells, List.take_add_one, hz]; simp
      · simp; omega
    · simp only [List.length_map, decide_eq_false_iff_not] at hge
      rw [List.take_of_length_le (by omega), ← hr, hR, Fm.d_mk]
  · simp [bne, h9] at hne
  · have hk1 : ¬ f.kind = 16 := by simpa using h16
    have hk2 : ¬ f.kind = 17 := by simpa using h17
    have hk3 : ¬ f.kind = 9 := by simpa using h9
    have hR : f.right t = Fm.mk (D.toInt (Option.getD (lookD M.du (.int .i64 f.kind)) (.int .i64 0))) f.name f.n f.ts f.bs (f.l.map (·.right (t && !countB f.kind))) := by
      rw [hre, hdu, ht]; simp [hk1, hk2, hk3]
    refine ⟨0, Nat.zero_le _, by simp, fun i hi => ⟨fun hlt => ?_, fun hge => ?_⟩⟩
    · simp only [List.length_map, decide_eq_true_eq] at hlt
      obtain ⟨z, hz, hm⟩ := get_nat (l := f.l) (x := i) (by omega)
      rw [Int.toNat_natCast, agg_fm hz]
      refine ⟨⟨by omega, by simp [hz]⟩, ?_⟩
      refine (fn44 f.kind).mono ?_
      rintro rs rfl
      refine ⟨_, rfl, ?_⟩
      rw [bif_and]
      refine (ih z hm (hall z hm) (t && !countB f.kind)).mono ?_
      rintro rs rfl
      refine ⟨_, _, _, _, _, _, congrArg (fun z => [z]) (Fm.d_eq _), ⟨?_, rfl, ?_, ?_⟩, i + 1, by omega, by omega, ⟨rfl, rfl, rfl, rfl, rfl, rfl, ?_, trivial⟩, ⟨rfl, rfl, rfl, rfl, rfl, rfl, trivial⟩, ⟨rfl, rfl, rfl, rfl, rfl, rfl, trivial⟩, ⟨rfl, rfl, rfl, rfl, rfl, ?_, trivial⟩, ?_, trivial⟩
      · simp; omega
      · rw [← Fm.d_eq]
        have := cells_fm ((f.l.take i).map (·.right (t && !countB f.kind)) ++ [z.right (t && !countB f.kind)])
        simpa using this
      · simp; omega
      · rw [wrap64 (by omega) (by omega)]; simp
      · show _ ++ [D.agg (fmCells (z.right (t && !countB f.kind)))] = _
        rw [← d_cells, List.take_add_one, hz]; simp
      · simp; omega
    · simp only [List.length_map, decide_eq_false_iff_not] at hge
      rw [List.take_of_length_le (by omega), ← hr, hR, Fm.d_mk]
  · simp [bne, h9] at hne
  · have hR : f.right t = Fm.mk f.kind f.name f.n f.ts f.bs (f.l.map (·.right (t && !countB f.kind))) := by
      rw [hre, ht]; simp
    refine ⟨0, Nat.zero_le _, by simp, fun i hi => ⟨fun hlt => ?_, fun hge => ?_⟩⟩
    · simp only [List.length_map, decide_eq_true_eq] at hlt
      obtain ⟨z, hz, hm⟩ := get_nat (l := f.l) (x := i) (by omega)
      rw [Int.toNat_natCast, agg_fm hz]
      refine ⟨⟨by omega, by simp [hz]⟩, ?_⟩
      refine (fn44 f.kind).mono ?_
      rintro rs rfl
      refine ⟨_, rfl, ?_⟩
      rw [bif_and]
      refine (ih z hm (hall z hm) (t && !countB f.kind)).mono ?_
      rintro rs rfl
      refine ⟨_, _, _, _, _, _, congrArg (fun z => [z]) (Fm.d_eq _), ⟨?_, rfl, ?_, ?_⟩, i + 1, by omega, by omega, ⟨rfl, rfl, rfl, rfl, rfl, rfl, ?_, trivial⟩, ⟨rfl, rfl, rfl, rfl, rfl, rfl, trivial⟩, ⟨rfl, rfl, rfl, rfl, rfl, rfl, trivial⟩, ⟨rfl, rfl, rfl, rfl, rfl, ?_, trivial⟩, ?_, trivial⟩
      · simp; omega
      · rw [← Fm.d_eq]
        have := cells_fm ((f.l.take i).map (·.right (t && !countB f.kind)) ++ [z.right (t && !countB f.kind)])
        simpa using this
      · simp; omega
      · rw [wrap64 (by omega) (by omega)]; simp
      · show _ ++ [D.agg (fmCells (z.right (t && !countB f.kind)))] = _
        rw [← d_cells, List.take_add_one, hz]; simp
      · simp; omega
    · simp only [List.length_map, decide_eq_false_iff_not] at hge
      rw [List.take_of_length_le (by omega), ← hr, hR, Fm.d_mk]
end
end Go.Fo
/- Free variables: the program's closure. -/
namespace Go.Fo
open Go Go.Sx Go.Proofs
set_option maxRecDepth 100000
set_option maxHeartbeats 0

abbrev Nm := List UInt8
def addT (bnd : List Nm) (o : List Nm) (t : Tm) : List Nm := if t.kind != 1 && !bnd.contains t.name && !o.contains t.name then o ++ [t.name] else o
theorem addT_pos {bnd o : List Nm} {t : Tm} (h : (t.kind != 1 && !bnd.contains t.name && !o.contains t.name) = true) : addT bnd o t = o ++ [t.name] := if_pos h
theorem addT_neg {bnd o : List Nm} {t : Tm} (h : (t.kind != 1 && !bnd.contains t.name && !o.contains t.name) = false) : addT bnd o t = o := if_neg (by rw [h]; simp)
mutual
def Fm.look (bnd out : List Nm) : Fm → List Nm
  | .mk _ _ _ ts bs l => Fm.looks (bs.map (·.name) ++ bnd) (ts.foldl (addT (bs.map (·.name) ++ bnd)) out) l
def Fm.looks (bnd out : List Nm) : List Fm → List Nm
  | [] => out
  | x :: r => Fm.looks bnd (x.look bnd out) r
end
theorem Fm.look_eq (bnd out : List Nm) (f : Fm) : f.look bnd out = Fm.looks (f.bs.map (·.name) ++ bnd) (f.ts.foldl (addT (f.bs.map (·.name) ++ bnd)) out) f.l := by cases f; rw [Fm.look]; rfl
theorem looks_fold (bnd : List Nm) (l : List Fm) : ∀ out, Fm.looks bnd out l = l.foldl (fun o x => x.look bnd o) out := by
  induction l with
  | nil => intro out; rw [Fm.looks]; rfl
  | cons x r ih => intro out; rw [Fm.looks, ih]; rfl

def cntE (es : List (D × D)) (s : Nm) : Int := D.toInt (Option.getD (lookD es (.str s)) (.int .i64 0))
structure EsOk (es : List (D × D)) (bnd : List Nm) : Prop where
  all : (es.all fun kv => sameKind (.str []) kv.1 && Sh.ok (.int .i64) kv.2) = true
  cnt : ∀ s, cntE es s = (bnd.count s : Int)

theorem look_upd (k k' : Nm) (x : D) : ∀ (es : List (D × D)), lookD (updD es (.str k) x) (.str k') = if k' = k then some x else lookD es (.str k')
  | [] => by
    simp only [updD, lookD, List.find?]
    by_cases h : k' = k
    · subst h; simp [beqD]
    · have h1 : (k' == k) = false := by simpa using h
      simp [beqD, h, h1]
  | kv :: r => by
    have ih := look_upd k k' x r
    simp only [updD]
    by_cases hb : beqD (.str k) kv.1 = true
    · rw [if_pos hb]
      by_cases h : k' = k
      · subst h; simp [lookD, beqD]
      · simp only [lookD, List.find?, if_neg h]
        have h1 : beqD (.str k') (.str k) = false := by simp [beqD, h]
        have h2 : beqD (.str k') kv.1 = false := by
          obtain ⟨a, b⟩ := kv
          cases a <;> simp [beqD] at hb ⊢
          subst hb; exact h
        rw [h1, h2]
    · rw [if_neg hb]
      have e : ∀ l : List (D × D), lookD (kv :: l) (.str k') = if beqD (.str k') kv.1 = true then some kv.2 else lookD l (.str k') := fun l => by
        simp only [lookD, List.find?]
        cases beqD (.str k') kv.1 <;> rfl
      rw [e, e, ih]
      by_cases h : k' = k
      · subst h; rw [if_neg hb]; simp
      · simp only [if_neg h]
theorem upd_all {Q : D × D → Bool} (k x : D) : ∀ (es : List (D × D)), es.all Q = true → Q (k, x) = true → (updD es k x).all Q = true
  | [], _, h => by simp [updD, h]
  | kv :: r, h, h2 => by
    simp only [List.all_cons, Bool.and_eq_true] at h
    simp only [updD]
    split
    · simp [h2, h.2]
    · simp [h.1, upd_all k x r h.2 h2]

theorem EsOk.set {es : List (D × D)} {b1 b2 : List Nm} {s : Nm} {v : Int} (he : EsOk es b1) (hc : ∀ s', (b2.count s' : Int) = if s' = s then v else (b1.count s' : Int)) : EsOk (updD es (.str s) (.int .i64 v)) b2 := by
  refine ⟨upd_all _ _ es he.all rfl, fun s' => ?_⟩
  unfold cntE
  rw [look_upd, hc]
  split
  · rfl
  · exact he.cnt s'

theorem addT_len (bnd : List Nm) (ts : List Tm) : ∀ out, (ts.foldl (addT bnd) out).length ≤ out.length + ts.length := by
  induction ts with
  | nil => intro out; simp
  | cons t r ih =>
    intro out
    have := ih (addT bnd out t)
    have h2 : (addT bnd out t).length ≤ out.length + 1 := by unfold addT; split <;> simp
    simp only [List.foldl_cons, List.length_cons]; omega
theorem Fm.look_len (f : Fm) : ∀ bnd out, (f.look bnd out).length ≤ out.length + f.wt := by
  induction f using Fm.induct with
  | h f ih =>
  intro bnd out
  rw [f.look_eq, looks_fold]
  have h1 := addT_len (f.bs.map (·.name) ++ bnd) f.ts out
  have h2 : ∀ (l : List Fm) (o : List Nm), (∀ x ∈ l, x ∈ f.l) → (l.foldl (fun o x => x.look (f.bs.map (·.name) ++ bnd) o) o).length ≤ o.length + Fm.wts l := by
    intro l
    induction l with
    | nil => intro o _; simp
    | cons x r ihr =>
      intro o hx
      have := ihr (x.look (f.bs.map (·.name) ++ bnd) o) (fun y hy => hx y (by simp [hy]))
      have := ih x (hx x (by simp)) (f.bs.map (·.name) ++ bnd) o
      simp only [List.foldl_cons, Fm.wts]; omega
  have := h2 f.l (f.ts.foldl (addT (f.bs.map (·.name) ++ bnd)) out) (fun _ h => h)
  have := f.wt_eq
  omega
theorem fold_look_len (bnd : List Nm) (l : List Fm) : ∀ out : List Nm, (l.foldl (fun o x => x.look bnd o) out).length ≤ out.length + Fm.wts l := by
  induction l with
  | nil => intro out; simp
  | cons x r ih =>
    intro out
    have := ih (x.look bnd out)
    have := x.look_len bnd out
    simp only [List.foldl_cons, Fm.wts]; omega
theorem wtsTake (l : List Fm) (i : Nat) : Fm.wts (l.take i) ≤ Fm.wts l := by
  induction l generalizing i with
  | nil => simp
  | cons y r ih =>
    cases i with
    | zero => simp [Fm.wts]
    | succ i => simp only [List.take_succ_cons, Fm.wts]; have := ih i; omega
theorem wtsTakeSucc {l : List Fm} {i : Nat} {z : Fm} (h : l[i]? = some z) : Fm.wts (l.take (i + 1)) = Fm.wts (l.take i) + z.wt := by
  induction l generalizing i with
  | nil => simp at h
  | cons y r ih =>
    cases i with
    | zero => simp at h; subst h; simp [Fm.wts]
    | succ i => simp at h; simp only [List.take_succ_cons, Fm.wts]; rw [ih h]; omega

noncomputable def hF (f0 : Fm) (es : List (D × D)) (out : List Nm) : List Box :=
  [.cells 26 (fmAVs f0), .map es, .cells 50 [.map 1], .cells 32 [.vec 5 (out.map .str)], .cells 51 [.clo 33 [] [.ptr 2 0, .ptr 3 0, .ptr 4 0]], .vec out.length 1]

section
variable {G : Nat → Option (List D)}
theorem fn33 (f0 f : Fm) (es : List (D × D)) (bnd out : List Nm) (he : EsOk es bnd) (hb : bnd.length + f.wt < 1099511627776) (ho : out.length + f.wt < 1099511627776) : PCall Tryd.prog G 33 [.d f.d, .ptr 2 0, .ptr 3 0, .ptr 4 0] (hF f0 es out) (fun rs H' => rs = [] ∧ ∃ es', EsOk es' bnd ∧ H' = hF f0 es' (f.look bnd out)) := by
  induction f using Fm.induct generalizing es bnd out with
  | h f ih =>
  rw [d_cells]
  refine PCall.walk (fn := Tryd.f33) (code := bodyOf Tryd.f33) mixed
    (LL [(2, loopW (α := Nat × List (D × D)) Tryd.prog G L0 6 (loopN (bodyOf Tryd.f33) 0) [1, 2, 3, 4, 14, 15] (fun x => x.1 ≤ f.bs.length ∧ EsOk x.2 ((f.bs.take x.1).map (·.name) ++ bnd)) (fun x => f.bs.length - x.1)
        (fun x => [(16, .d (.int .i64 x.1))]) (fun _ x => hF f0 x.2 out ++ [.cells 26 (fmAVs f)])),
      (7, loopW (α := Nat × List (D × D)) Tryd.prog G L0 6 (loopN (bodyOf Tryd.f33) 1) [1, 2, 3, 4, 27, 28] (fun x => x.1 ≤ f.ts.length ∧ EsOk x.2 (f.bs.map (·.name) ++ bnd)) (fun x => f.ts.length - x.1)
        (fun x => [(29, .d (.int .i64 x.1))]) (fun _ x => hF f0 x.2 ((f.ts.take x.1).foldl (addT (f.bs.map (·.name) ++ bnd)) out) ++ [.cells 26 (fmAVs f)])),
      (13, loopW (α := Nat × List (D × D)) Tryd.prog G L0 6 (loopN (bodyOf Tryd.f33) 2) [1, 2, 3, 4, 57, 58] (fun x => x.1 ≤ f.l.length ∧ EsOk x.2 (f.bs.map (·.name) ++ bnd)) (fun x => f.l.length - x.1)
        (fun x => [(59, .d (.int .i64 x.1))]) (fun _ x => hF f0 x.2 ((f.l.take x.1).foldl (fun o y => y.look (f.bs.map (·.name) ++ bnd) o) (f.ts.foldl (addT (f.bs.map (·.name) ++ bnd)) out)) ++ [.cells 26 (fmAVs f)])),
      (18, loopW (α := Nat × List (D × D)) Tryd.prog G L0 6 (loopN (bodyOf Tryd.f33) 3) [1, 2, 3, 4, 68, 69] (fun x => x.1 ≤ f.bs.length ∧ EsOk x.2 ((f.bs.drop x.1).map (·.name) ++ bnd)) (fun x => f.bs.length - x.1)
        (fun x => [(70, .d (.int .i64 x.1))]) (fun _ x => hF f0 x.2 (f.look bnd out) ++ [.cells 26 (fmAVs f)]))])
    Tryd.func33 (by kernel_rfl) rfl ⟨_, _, rfl, es, he, rfl⟩
    (LoopsOk.four (b1 := loopN (bodyOf Tryd.f33) 0) (b2 := loopN (bodyOf Tryd.f33) 1) (b3 := loopN (bodyOf Tryd.f33) 2) (b4 := loopN (bodyOf Tryd.f33) 3) (by kernel_rfl) (by kernel_rfl) (by kernel_rfl) (by kernel_rfl) (by kernel_rfl) (loopW_sound mixed (ok0 (by kernel_rfl))) (loopW_sound mixed (ok0 (by kernel_rfl))) (loopW_sound mixed (ok0 (by kernel_rfl))) (loopW_sound mixed (ok0 (by kernel_rfl)))) ?_
  apply @of_vc _ (
    ∃ (x0 : Nat × List (D × D)),
     (Prod.fst x0 ≤ List.length (Fm.bs f) ∧ EsOk (Prod.snd x0) (List.map (fun (x : Bd) => Bd.name x) (List.take (Prod.fst x0) (Fm.bs f)) ++ bnd)) ∧
      ((AV.ptr (2 : Nat) (0 : Nat) = AV.ptr (2 : Nat) (0 : Nat) ∧
         AV.ptr (3 : Nat) (0 : Nat) = AV.ptr (3 : Nat) (0 : Nat) ∧
          AV.ptr (4 : Nat) (0 : Nat) = AV.ptr (4 : Nat) (0 : Nat) ∧
           AV.ptr (6 : Nat) (0 : Nat) = AV.ptr (6 : Nat) (0 : Nat) ∧
            List.map Bd.d (Fm.bs f) = List.map Bd.d (Fm.bs f) ∧
             (↑(List.length (List.map Bd.d (Fm.bs f))) : Int) = (↑(List.length (List.map Bd.d (Fm.bs f))) : Int) ∧ (0 : Int) = (↑(Prod.fst x0) : Int) ∧ True) ∧
        (Fm.kind f0 = Fm.kind f0 ∧
          Fm.name f0 = Fm.name f0 ∧
           Fm.n f0 = Fm.n f0 ∧
            List.map Tm.d (Fm.ts f0) = List.map Tm.d (Fm.ts f0) ∧ List.map Bd.d (Fm.bs f0) = List.map Bd.d (Fm.bs f0) ∧ List.map Fm.d (Fm.l f0) = List.map Fm.d (Fm.l f0) ∧ True) ∧
         es = Prod.snd x0 ∧
          (AV.map (1 : Nat) = AV.map (1 : Nat) ∧ True) ∧
           (List.map D.str out = List.map D.str out ∧ True) ∧
            (AV.clo (33 : Nat) [] [AV.ptr (2 : Nat) (0 : Nat), AV.ptr (3 : Nat) (0 : Nat), AV.ptr (4 : Nat) (0 : Nat)] =
               AV.clo (33 : Nat) [] [AV.ptr (2 : Nat) (0 : Nat), AV.ptr (3 : Nat) (0 : Nat), AV.ptr (4 : Nat) (0 : Nat)] ∧
              True) ∧
             List.length out = List.length out ∧
              (Fm.kind f = Fm.kind f ∧
                Fm.name f = Fm.name f ∧
                 Fm.n f = Fm.n f ∧
                  List.map Tm.d (Fm.ts f) = List.map Tm.d (Fm.ts f) ∧ List.map Bd.d (Fm.bs f) = List.map Bd.d (Fm.bs f) ∧ List.map Fm.d (Fm.l f) = List.map Fm.d (Fm.l f) ∧ True) ∧
               True) ∧
       ∀ (x : Nat × List (D × D)),
        Prod.fst x ≤ List.length (Fm.bs f) ∧ EsOk (Prod.snd x) (List.map (fun (x : Bd) => Bd.name x) (List.take (Prod.fst x) (Fm.bs f)) ++ bnd) →
         (decide ((↑(Prod.fst x) : Int) < (↑(List.length (List.map Bd.d (Fm.bs f))) : Int)) = true →
           ((0 : Int) ≤ (↑(Prod.fst x) : Int) ∧
             (List.map Bd.d (Fm.bs f))[Int.toNat (↑(Prod.fst x) : Int)]? = some (aggAt [Sh.str, Sh.int IntKind.i64] (List.map Bd.d (Fm.bs f)) (Int.toNat (↑(Prod.fst x) : Int)))) ∧
            (List.all (Prod.snd x) fun (kv : D × D) =>
               sameKind
                 ((fun (x_1 : Sh × Nat) =>
                   match x_1 with
                   | (sh, j) => Sh.norm sh (Option.getD (cellAt (List.map Bd.d (Fm.bs f)) (Int.toNat (↑(Prod.fst x) : Int)) j) default))
                  (Sh.str, (0 : Nat)))
                 (Prod.fst kv) &&
                Sh.ok (Sh.int IntKind.i64) (Prod.snd kv)) =
              true ∧
             (List.all (Prod.snd x) fun (kv : D × D) =>
                sameKind
                 ((fun (x_1 : Sh × Nat) =>
                   match x_1 with
                   | (sh, j) => Sh.norm sh (Option.getD (cellAt (List.map Bd.d (Fm.bs f)) (Int.toNat (↑(Prod.fst x) : Int)) j) default))
                  (Sh.str, (0 : Nat)))
                 (Prod.fst kv)) =
               true ∧
              ∃ (y : Nat × List (D × D)),
               (Prod.fst y ≤ List.length (Fm.bs f) ∧ EsOk (Prod.snd y) (List.map (fun (x : Bd) => Bd.name x) (List.take (Prod.fst y) (Fm.bs f)) ++ bnd)) ∧
                List.length (Fm.bs f) - Prod.fst y < List.length (Fm.bs f) - Prod.fst x ∧
                 (AV.ptr (2 : Nat) (0 : Nat) = AV.ptr (2 : Nat) (0 : Nat) ∧
                   AV.ptr (3 : Nat) (0 : Nat) = AV.ptr (3 : Nat) (0 : Nat) ∧
                    AV.ptr (4 : Nat) (0 : Nat) = AV.ptr (4 : Nat) (0 : Nat) ∧
                     AV.ptr (6 : Nat) (0 : Nat) = AV.ptr (6 : Nat) (0 : Nat) ∧
                      List.map Bd.d (Fm.bs f) = List.map Bd.d (Fm.bs f) ∧
                       (↑(List.length (List.map Bd.d (Fm.bs f))) : Int) = (↑(List.length (List.map Bd.d (Fm.bs f))) : Int) ∧
                        IntKind.wrap IntKind.i64 ((↑(Prod.fst x) : Int) + (1 : Int)) = (↑(Prod.fst y) : Int) ∧ True) ∧
                  (Fm.kind f0 = Fm.kind f0 ∧
                    Fm.name f0 = Fm.name f0 ∧
                     Fm.n f0 = Fm.n f0 ∧
                      List.map Tm.d (Fm.ts f0) = List.map Tm.d (Fm.ts f0) ∧
                       List.map Bd.d (Fm.bs f0) = List.map Bd.d (Fm.bs f0) ∧ List.map Fm.d (Fm.l f0) = List.map Fm.d (Fm.l f0) ∧ True) ∧
                   updD (Prod.snd x)
                      ((fun (x_1 : Sh × Nat) =>
                        match x_1 with
                        | (sh, j) => Sh.norm sh (Option.getD (cellAt (List.map Bd.d (Fm.bs f)) (Int.toNat (↑(Prod.fst x) : Int)) j) default))
                       (Sh.str, (0 : Nat)))
                      (Prod.fst
                       (D.int IntKind.i64
                         (IntKind.wrap IntKind.i64
                          (D.toInt
                            (Option.getD
                             (lookD (Prod.snd x)
                              ((fun (x_1 : Sh × Nat) =>
                                match x_1 with
                                | (sh, j) => Sh.norm sh (Option.getD (cellAt (List.map Bd.d (Fm.bs f)) (Int.toNat (↑(Prod.fst x) : Int)) j) default))
                               (Sh.str, (0 : Nat))))
                             (D.int IntKind.i64 (0 : Int))) +
                           (1 : Int))),
                        True)) =
                     Prod.snd y ∧
                    (AV.map (1 : Nat) = AV.map (1 : Nat) ∧ True) ∧
                     (List.map D.str out = List.map D.str out ∧ True) ∧
                      (AV.clo (33 : Nat) [] [AV.ptr (2 : Nat) (0 : Nat), AV.ptr (3 : Nat) (0 : Nat), AV.ptr (4 : Nat) (0 : Nat)] =
                         AV.clo (33 : Nat) [] [AV.ptr (2 : Nat) (0 : Nat), AV.ptr (3 : Nat) (0 : Nat), AV.ptr (4 : Nat) (0 : Nat)] ∧
                        True) ∧
                       List.length out = List.length out ∧
                        (Fm.kind f = Fm.kind f ∧
                          Fm.name f = Fm.name f ∧
                           Fm.n f = Fm.n f ∧
                            List.map Tm.d (Fm.ts f) = List.map Tm.d (Fm.ts f) ∧
                             List.map Bd.d (Fm.bs f) = List.map Bd.d (Fm.bs f) ∧ List.map Fm.d (Fm.l f) = List.map Fm.d (Fm.l f) ∧ True) ∧
                         True) ∧
          (decide ((↑(Prod.fst x) : Int) < (↑(List.length (List.map Bd.d (Fm.bs f))) : Int)) = false →
           ∃ (x0 : Nat × List (D × D)),
            (Prod.fst x0 ≤ List.length (Fm.ts f) ∧ EsOk (Prod.snd x0) (List.map (fun (x : Bd) => Bd.name x) (Fm.bs f) ++ bnd)) ∧
             ((AV.ptr (2 : Nat) (0 : Nat) = AV.ptr (2 : Nat) (0 : Nat) ∧
                AV.ptr (3 : Nat) (0 : Nat) = AV.ptr (3 : Nat) (0 : Nat) ∧
                 AV.ptr (4 : Nat) (0 : Nat) = AV.ptr (4 : Nat) (0 : Nat) ∧
                  AV.ptr (6 : Nat) (0 : Nat) = AV.ptr (6 : Nat) (0 : Nat) ∧
                   List.map Tm.d (Fm.ts f) = List.map Tm.d (Fm.ts f) ∧
                    (↑(List.length (List.map Tm.d (Fm.ts f))) : Int) = (↑(List.length (List.map Tm.d (Fm.ts f))) : Int) ∧ (0 : Int) = (↑(Prod.fst x0) : Int) ∧ True) ∧
               (Fm.kind f0 = Fm.kind f0 ∧
                 Fm.name f0 = Fm.name f0 ∧
                  Fm.n f0 = Fm.n f0 ∧
                   List.map Tm.d (Fm.ts f0) = List.map Tm.d (Fm.ts f0) ∧ List.map Bd.d (Fm.bs f0) = List.map Bd.d (Fm.bs f0) ∧ List.map Fm.d (Fm.l f0) = List.map Fm.d (Fm.l f0) ∧ True) ∧
                Prod.snd x = Prod.snd x0 ∧
                 (AV.map (1 : Nat) = AV.map (1 : Nat) ∧ True) ∧
                  (List.map D.str out = List.map D.str (List.foldl (addT (List.map (fun (x : Bd) => Bd.name x) (Fm.bs f) ++ bnd)) out (List.take (Prod.fst x0) (Fm.ts f))) ∧ True) ∧
                   (AV.clo (33 : Nat) [] [AV.ptr (2 : Nat) (0 : Nat), AV.ptr (3 : Nat) (0 : Nat), AV.ptr (4 : Nat) (0 : Nat)] =
                      AV.clo (33 : Nat) [] [AV.ptr (2 : Nat) (0 : Nat), AV.ptr (3 : Nat) (0 : Nat), AV.ptr (4 : Nat) (0 : Nat)] ∧
                     True) ∧
                    List.length out = List.length (List.foldl (addT (List.map (fun (x : Bd) => Bd.name x) (Fm.bs f) ++ bnd)) out (List.take (Prod.fst x0) (Fm.ts f))) ∧
                     (Fm.kind f = Fm.kind f ∧
                       Fm.name f = Fm.name f ∧
                        Fm.n f = Fm.n f ∧
                         List.map Tm.d (Fm.ts f) = List.map Tm.d (Fm.ts f) ∧
                          List.map Bd.d (Fm.bs f) = List.map Bd.d (Fm.bs f) ∧ List.map Fm.d (Fm.l f) = List.map Fm.d (Fm.l f) ∧ True) ∧
                      True) ∧
              ∀ (x : Nat × List (D × D)),
               Prod.fst x ≤ List.length (Fm.ts f) ∧ EsOk (Prod.snd x) (List.map (fun (x : Bd) => Bd.name x) (Fm.bs f) ++ bnd) →
                (decide ((↑(Prod.fst x) : Int) < (↑(List.length (List.map Tm.d (Fm.ts f))) : Int)) = true →
                  ((0 : Int) ≤ (↑(Prod.fst x) : Int) ∧
                    (List.map Tm.d (Fm.ts f))[Int.toNat (↑(Prod.fst x) : Int)]? =
                     some (aggAt [Sh.int IntKind.i64, Sh.str, Sh.int IntKind.i64] (List.map Tm.d (Fm.ts f)) (Int.toNat (↑(Prod.fst x) : Int)))) ∧
                   ((D.toInt (Option.getD (cellAt (List.map Tm.d (Fm.ts f)) (Int.toNat (↑(Prod.fst x) : Int)) (0 : Nat)) default) != (1 : Int)) = true →
                     (List.all (Prod.snd x) fun (kv : D × D) =>
                       sameKind
                         ((fun (x_1 : Sh × Nat) =>
                           match x_1 with
                           | (sh, j) => Sh.norm sh (Option.getD (cellAt (List.map Tm.d (Fm.ts f)) (Int.toNat (↑(Prod.fst x) : Int)) j) default))
                          (Sh.str, (0 : Nat) + (1 : Nat)))
                         (Prod.fst kv) &&
                        Sh.ok (Sh.int IntKind.i64) (Prod.snd kv)) =
                      true) ∧
                    PFn Tryd.prog G (34 : Nat)
                     [D.sl (List.map D.str (List.foldl (addT (List.map (fun (x : Bd) => Bd.name x) (Fm.bs f) ++ bnd)) out (List.take (Prod.fst x) (Fm.ts f)))),
                      D.str (D.toStr (Option.getD (cellAt (List.map Tm.d (Fm.ts f)) (Int.toNat (↑(Prod.fst x) : Int)) ((0 : Nat) + (1 : Nat))) default))]
                     fun (rs : List D) =>
                     ∃ (b : Bool),
                      rs = [D.bool b] ∧
                       ((bif
                            bif D.toInt (Option.getD (cellAt (List.map Tm.d (Fm.ts f)) (Int.toNat (↑(Prod.fst x) : Int)) (0 : Nat)) default) != (1 : Int) then
                             D.toInt
                               (Option.getD
                                (lookD (Prod.snd x)
                                 ((fun (x_1 : Sh × Nat) =>
                                   match x_1 with
                                   | (sh, j) => Sh.norm sh (Option.getD (cellAt (List.map Tm.d (Fm.ts f)) (Int.toNat (↑(Prod.fst x) : Int)) j) default))
                                  (Sh.str, (0 : Nat) + (1 : Nat))))
                                (D.int IntKind.i64 (0 : Int))) ==
                              (0 : Int)
                            else false then
                           !b
                          else false) =
                          true →
                         (List.length (List.foldl (addT (List.map (fun (x : Bd) => Bd.name x) (Fm.bs f) ++ bnd)) out (List.take (Prod.fst x) (Fm.ts f))) =
                            List.length (List.map D.str (List.foldl (addT (List.map (fun (x : Bd) => Bd.name x) (Fm.bs f) ++ bnd)) out (List.take (Prod.fst x) (Fm.ts f)))) ∧
                           (1 : Nat) = (1 : Nat) ∧
                            FA (List.map D.str (List.foldl (addT (List.map (fun (x : Bd) => Bd.name x) (Fm.bs f) ++ bnd)) out (List.take (Prod.fst x) (Fm.ts f))))
                             [D.str (D.toStr (Option.getD (cellAt (List.map Tm.d (Fm.ts f)) (Int.toNat (↑(Prod.fst x) : Int)) ((0 : Nat) + (1 : Nat))) default))] (nat_lit 1)
                             (nat_lit 16)) ∧
                          ∃ (y : Nat × List (D × D)),
                           (Prod.fst y ≤ List.length (Fm.ts f) ∧ EsOk (Prod.snd y) (List.map (fun (x : Bd) => Bd.name x) (Fm.bs f) ++ bnd)) ∧
                            List.length (Fm.ts f) - Prod.fst y < List.length (Fm.ts f) - Prod.fst x ∧
                             (AV.ptr (2 : Nat) (0 : Nat) = AV.ptr (2 : Nat) (0 : Nat) ∧
                               AV.ptr (3 : Nat) (0 : Nat) = AV.ptr (3 : Nat) (0 : Nat) ∧
                                AV.ptr (4 : Nat) (0 : Nat) = AV.ptr (4 : Nat) (0 : Nat) ∧
                                 AV.ptr (6 : Nat) (0 : Nat) = AV.ptr (6 : Nat) (0 : Nat) ∧
                                  List.map Tm.d (Fm.ts f) = List.map Tm.d (Fm.ts f) ∧
                                   (↑(List.length (List.map Tm.d (Fm.ts f))) : Int) = (↑(List.length (List.map Tm.d (Fm.ts f))) : Int) ∧
                                    IntKind.wrap IntKind.i64 ((↑(Prod.fst x) : Int) + (1 : Int)) = (↑(Prod.fst y) : Int) ∧ True) ∧
                              (Fm.kind f0 = Fm.kind f0 ∧
                                Fm.name f0 = Fm.name f0 ∧
                                 Fm.n f0 = Fm.n f0 ∧
                                  List.map Tm.d (Fm.ts f0) = List.map Tm.d (Fm.ts f0) ∧
                                   List.map Bd.d (Fm.bs f0) = List.map Bd.d (Fm.bs f0) ∧ List.map Fm.d (Fm.l f0) = List.map Fm.d (Fm.l f0) ∧ True) ∧
                               Prod.snd x = Prod.snd y ∧
                                (AV.map (1 : Nat) = AV.map (1 : Nat) ∧ True) ∧
                                 (List.map D.str (List.foldl (addT (List.map (fun (x : Bd) => Bd.name x) (Fm.bs f) ++ bnd)) out (List.take (Prod.fst x) (Fm.ts f))) ++
                                     List.reverse
                                      [(fun (x_1 : Sh × Nat) =>
                                         match x_1 with
                                         | (sh, j) => Sh.norm sh (Option.getD (cellAt (List.map Tm.d (Fm.ts f)) (Int.toNat (↑(Prod.fst x) : Int)) j) default))
                                        (Sh.str, (0 : Nat) + (1 : Nat))] =
                                    List.map D.str (List.foldl (addT (List.map (fun (x : Bd) => Bd.name x) (Fm.bs f) ++ bnd)) out (List.take (Prod.fst y) (Fm.ts f))) ∧
                                   True) ∧
                                  (AV.clo (33 : Nat) [] [AV.ptr (2 : Nat) (0 : Nat), AV.ptr (3 : Nat) (0 : Nat), AV.ptr (4 : Nat) (0 : Nat)] =
                                     AV.clo (33 : Nat) [] [AV.ptr (2 : Nat) (0 : Nat), AV.ptr (3 : Nat) (0 : Nat), AV.ptr (4 : Nat) (0 : Nat)] ∧
                                    True) ∧
                                   List.length
                                       (List.map D.str
                                        (List.foldl (addT (List.map (fun (x : Bd) => Bd.name x) (Fm.bs f) ++ bnd)) out (List.take (Prod.fst x) (Fm.ts f)))) +
                                      List.length
                                       (List.reverse
                                        [(fun (x_1 : Sh × Nat) =>
                                           match x_1 with
                                           | (sh, j) => Sh.norm sh (Option.getD (cellAt (List.map Tm.d (Fm.ts f)) (Int.toNat (↑(Prod.fst x) : Int)) j) default))
                                          (Sh.str, (0 : Nat) + (1 : Nat))]) =
                                     List.length (List.foldl (addT (List.map (fun (x : Bd) => Bd.name x) (Fm.bs f) ++ bnd)) out (List.take (Prod.fst y) (Fm.ts f))) ∧
                                    (Fm.kind f = Fm.kind f ∧
                                      Fm.name f = Fm.name f ∧
                                       Fm.n f = Fm.n f ∧
                                        List.map Tm.d (Fm.ts f) = List.map Tm.d (Fm.ts f) ∧
                                         List.map Bd.d (Fm.bs f) = List.map Bd.d (Fm.bs f) ∧ List.map Fm.d (Fm.l f) = List.map Fm.d (Fm.l f) ∧ True) ∧
                                     True) ∧
                        ((bif
                            bif D.toInt (Option.getD (cellAt (List.map Tm.d (Fm.ts f)) (Int.toNat (↑(Prod.fst x) : Int)) (0 : Nat)) default) != (1 : Int) then
                             D.toInt
                               (Option.getD
                                (lookD (Prod.snd x)
                                 ((fun (x_1 : Sh × Nat) =>
                                   match x_1 with
                                   | (sh, j) => Sh.norm sh (Option.getD (cellAt (List.map Tm.d (Fm.ts f)) (Int.toNat (↑(Prod.fst x) : Int)) j) default))
                                  (Sh.str, (0 : Nat) + (1 : Nat))))
                                (D.int IntKind.i64 (0 : Int))) ==
                              (0 : Int)
                            else false then
                           !b
                          else false) =
                          false →
                         ∃ (y : Nat × List (D × D)),
                          (Prod.fst y ≤ List.length (Fm.ts f) ∧ EsOk (Prod.snd y) (List.map (fun (x : Bd) => Bd.name x) (Fm.bs f) ++ bnd)) ∧
                           List.length (Fm.ts f) - Prod.fst y < List.length (Fm.ts f) - Prod.fst x ∧
                            (AV.ptr (2 : Nat) (0 : Nat) = AV.ptr (2 : Nat) (0 : Nat) ∧
                              AV.ptr (3 : Nat) (0 : Nat) = AV.ptr (3 : Nat) (0 : Nat) ∧
                               AV.ptr (4 : Nat) (0 : Nat) = AV.ptr (4 : Nat) (0 : Nat) ∧
                                AV.ptr (6 : Nat) (0 : Nat) = AV.ptr (6 : Nat) (0 : Nat) ∧
                                 List.map Tm.d (Fm.ts f) = List.map Tm.d (Fm.ts f) ∧
                                  (↑(List.length (List.map Tm.d (Fm.ts f))) : Int) = (↑(List.length (List.map Tm.d (Fm.ts f))) : Int) ∧
                                   IntKind.wrap IntKind.i64 ((↑(Prod.fst x) : Int) + (1 : Int)) = (↑(Prod.fst y) : Int) ∧ True) ∧
                             (Fm.kind f0 = Fm.kind f0 ∧
                               Fm.name f0 = Fm.name f0 ∧
                                Fm.n f0 = Fm.n f0 ∧
                                 List.map Tm.d (Fm.ts f0) = List.map Tm.d (Fm.ts f0) ∧
                                  List.map Bd.d (Fm.bs f0) = List.map Bd.d (Fm.bs f0) ∧ List.map Fm.d (Fm.l f0) = List.map Fm.d (Fm.l f0) ∧ True) ∧
                              Prod.snd x = Prod.snd y ∧
                               (AV.map (1 : Nat) = AV.map (1 : Nat) ∧ True) ∧
                                (List.map D.str (List.foldl (addT (List.map (fun (x : Bd) => Bd.name x) (Fm.bs f) ++ bnd)) out (List.take (Prod.fst x) (Fm.ts f))) =
                                   List.map D.str (List.foldl (addT (List.map (fun (x : Bd) => Bd.name x) (Fm.bs f) ++ bnd)) out (List.take (Prod.fst y) (Fm.ts f))) ∧
                                  True) ∧
                                 (AV.clo (33 : Nat) [] [AV.ptr (2 : Nat) (0 : Nat), AV.ptr (3 : Nat) (0 : Nat), AV.ptr (4 : Nat) (0 : Nat)] =
                                    AV.clo (33 : Nat) [] [AV.ptr (2 : Nat) (0 : Nat), AV.ptr (3 : Nat) (0 : Nat), AV.ptr (4 : Nat) (0 : Nat)] ∧
                                   True) ∧
                                  List.length (List.foldl (addT (List.map (fun (x : Bd) => Bd.name x) (Fm.bs f) ++ bnd)) out (List.take (Prod.fst x) (Fm.ts f))) =
                                    List.length (List.foldl (addT (List.map (fun (x : Bd) => Bd.name x) (Fm.bs f) ++ bnd)) out (List.take (Prod.fst y) (Fm.ts f))) ∧
                                   (Fm.kind f = Fm.kind f ∧
                                     Fm.name f = Fm.name f ∧
                                      Fm.n f = Fm.n f ∧
                                       List.map Tm.d (Fm.ts f) = List.map Tm.d (Fm.ts f) ∧
                                        List.map Bd.d (Fm.bs f) = List.map Bd.d (Fm.bs f) ∧ List.map Fm.d (Fm.l f) = List.map Fm.d (Fm.l f) ∧ True) ∧
                                    True)) ∧
                 (decide ((↑(Prod.fst x) : Int) < (↑(List.length (List.map Tm.d (Fm.ts f))) : Int)) = false →
                  ∃ (x0 : Nat × List (D × D)),
                   (Prod.fst x0 ≤ List.length (Fm.l f) ∧ EsOk (Prod.snd x0) (List.map (fun (x : Bd) => Bd.name x) (Fm.bs f) ++ bnd)) ∧
                    ((AV.ptr (2 : Nat) (0 : Nat) = AV.ptr (2 : Nat) (0 : Nat) ∧
                       AV.ptr (3 : Nat) (0 : Nat) = AV.ptr (3 : Nat) (0 : Nat) ∧
                        AV.ptr (4 : Nat) (0 : Nat) = AV.ptr (4 : Nat) (0 : Nat) ∧
                         AV.ptr (6 : Nat) (0 : Nat) = AV.ptr (6 : Nat) (0 : Nat) ∧
                          List.map Fm.d (Fm.l f) = List.map Fm.d (Fm.l f) ∧
                           (↑(List.length (List.map Fm.d (Fm.l f))) : Int) = (↑(List.length (List.map Fm.d (Fm.l f))) : Int) ∧ (0 : Int) = (↑(Prod.fst x0) : Int) ∧ True) ∧
                      (Fm.kind f0 = Fm.kind f0 ∧
                        Fm.name f0 = Fm.name f0 ∧
                         Fm.n f0 = Fm.n f0 ∧
                          List.map Tm.d (Fm.ts f0) = List.map Tm.d (Fm.ts f0) ∧
                           List.map Bd.d (Fm.bs f0) = List.map Bd.d (Fm.bs f0) ∧ List.map Fm.d (Fm.l f0) = List.map Fm.d (Fm.l f0) ∧ True) ∧
                       Prod.snd x = Prod.snd x0 ∧
                        (AV.map (1 : Nat) = AV.map (1 : Nat) ∧ True) ∧
                         (List.map D.str (List.foldl (addT (List.map (fun (x : Bd) => Bd.name x) (Fm.bs f) ++ bnd)) out (List.take (Prod.fst x) (Fm.ts f))) =
                            List.map D.str
                             (List.foldl (fun (o : List Nm) (y : Fm) => Fm.look (List.map (fun (x : Bd) => Bd.name x) (Fm.bs f) ++ bnd) o y)
                              (List.foldl (addT (List.map (fun (x : Bd) => Bd.name x) (Fm.bs f) ++ bnd)) out (Fm.ts f)) (List.take (Prod.fst x0) (Fm.l f))) ∧
                           True) ∧
                          (AV.clo (33 : Nat) [] [AV.ptr (2 : Nat) (0 : Nat), AV.ptr (3 : Nat) (0 : Nat), AV.ptr (4 : Nat) (0 : Nat)] =
                             AV.clo (33 : Nat) [] [AV.ptr (2 : Nat) (0 : Nat), AV.ptr (3 : Nat) (0 : Nat), AV.ptr (4 : Nat) (0 : Nat)] ∧
                            True) ∧
                           List.length (List.foldl (addT (List.map (fun (x : Bd) => Bd.name x) (Fm.bs f) ++ bnd)) out (List.take (Prod.fst x) (Fm.ts f))) =
                             List.length
                              (List.foldl (fun (o : List Nm) (y : Fm) => Fm.look (List.map (fun (x : Bd) => Bd.name x) (Fm.bs f) ++ bnd) o y)
                               (List.foldl (addT (List.map (fun (x : Bd) => Bd.name x) (Fm.bs f) ++ bnd)) out (Fm.ts f)) (List.take (Prod.fst x0) (Fm.l f))) ∧
                            (Fm.kind f = Fm.kind f ∧
                              Fm.name f = Fm.name f ∧
                               Fm.n f = Fm.n f ∧
                                List.map Tm.d (Fm.ts f) = List.map Tm.d (Fm.ts f) ∧
                                 List.map Bd.d (Fm.bs f) = List.map Bd.d (Fm.bs f) ∧ List.map Fm.d (Fm.l f) = List.map Fm.d (Fm.l f) ∧ True) ∧
                             True) ∧
                     ∀ (x : Nat × List (D × D)),
                      Prod.fst x ≤ List.length (Fm.l f) ∧ EsOk (Prod.snd x) (List.map (fun (x : Bd) => Bd.name x) (Fm.bs f) ++ bnd) →
                       (decide ((↑(Prod.fst x) : Int) < (↑(List.length (List.map Fm.d (Fm.l f))) : Int)) = true →
                         ((0 : Int) ≤ (↑(Prod.fst x) : Int) ∧
                           (List.map Fm.d (Fm.l f))[Int.toNat (↑(Prod.fst x) : Int)]? =
                            some (aggAt [Sh.int IntKind.i64, Sh.str, Sh.int IntKind.i64, Sh.sl, Sh.sl, Sh.sl] (List.map Fm.d (Fm.l f)) (Int.toNat (↑(Prod.fst x) : Int)))) ∧
                          PCall Tryd.prog G (33 : Nat)
                           [AV.d (aggAt [Sh.int IntKind.i64, Sh.str, Sh.int IntKind.i64, Sh.sl, Sh.sl, Sh.sl] (List.map Fm.d (Fm.l f)) (Int.toNat (↑(Prod.fst x) : Int))),
                            AV.ptr (2 : Nat) (0 : Nat), AV.ptr (3 : Nat) (0 : Nat), AV.ptr (4 : Nat) (0 : Nat)]
                           [Box.cells (26 : Nat)
                             [AV.d (D.int IntKind.i64 (Fm.kind f0)), AV.d (D.str (Fm.name f0)), AV.d (D.int IntKind.i64 (Fm.n f0)), AV.d (D.sl (List.map Tm.d (Fm.ts f0))),
                              AV.d (D.sl (List.map Bd.d (Fm.bs f0))), AV.d (D.sl (List.map Fm.d (Fm.l f0)))],
                            Box.map (Prod.snd x), Box.cells (50 : Nat) [AV.map (1 : Nat)],
                            Box.cells (32 : Nat)
                             [AV.vec (5 : Nat)
                               (List.map D.str
                                (List.foldl (fun (o : List Nm) (y : Fm) => Fm.look (List.map (fun (x : Bd) => Bd.name x) (Fm.bs f) ++ bnd) o y)
                                 (List.foldl (addT (List.map (fun (x : Bd) => Bd.name x) (Fm.bs f) ++ bnd)) out (Fm.ts f)) (List.take (Prod.fst x) (Fm.l f))))],
                            Box.cells (51 : Nat) [AV.clo (33 : Nat) [] [AV.ptr (2 : Nat) (0 : Nat), AV.ptr (3 : Nat) (0 : Nat), AV.ptr (4 : Nat) (0 : Nat)]],
                            Box.vec
                             (List.length
                              (List.foldl (fun (o : List Nm) (y : Fm) => Fm.look (List.map (fun (x : Bd) => Bd.name x) (Fm.bs f) ++ bnd) o y)
                               (List.foldl (addT (List.map (fun (x : Bd) => Bd.name x) (Fm.bs f) ++ bnd)) out (Fm.ts f)) (List.take (Prod.fst x) (Fm.l f))))
                             (1 : Nat)]
                           fun (rs : List D) (H' : List Box) =>
                           rs = [] ∧
                            ∃ (n : Int),
                             ∃ (s : List UInt8),
                              ∃ (n_1 : Int),
                               ∃ (l : List D),
                                ∃ (l_1 : List D),
                                 ∃ (l_2 : List D),
                                  ∃ (es : List (D × D)),
                                   ∃ (l_3 : List D),
                                    ∃ (n_2 : Nat),
                                     H' =
                                       [Box.cells (26 : Nat)
                                         [AV.d (D.int IntKind.i64 n), AV.d (D.str s), AV.d (D.int IntKind.i64 n_1), AV.d (D.sl l), AV.d (D.sl l_1), AV.d (D.sl l_2)],
                                        Box.map es, Box.cells (50 : Nat) [AV.map (1 : Nat)], Box.cells (32 : Nat) [AV.vec (5 : Nat) l_3],
                                        Box.cells (51 : Nat)
                                         [AV.clo (33 : Nat) [] [AV.ptr (2 : Nat) (0 : Nat), AV.ptr (3 : Nat) (0 : Nat), AV.ptr (4 : Nat) (0 : Nat)]],
                                        Box.vec n_2 (1 : Nat)] ∧
                                      ∃ (y : Nat × List (D × D)),
                                       (Prod.fst y ≤ List.length (Fm.l f) ∧ EsOk (Prod.snd y) (List.map (fun (x : Bd) => Bd.name x) (Fm.bs f) ++ bnd)) ∧
                                        List.length (Fm.l f) - Prod.fst y < List.length (Fm.l f) - Prod.fst x ∧
                                         (AV.ptr (2 : Nat) (0 : Nat) = AV.ptr (2 : Nat) (0 : Nat) ∧
                                           AV.ptr (3 : Nat) (0 : Nat) = AV.ptr (3 : Nat) (0 : Nat) ∧
                                            AV.ptr (4 : Nat) (0 : Nat) = AV.ptr (4 : Nat) (0 : Nat) ∧
                                             AV.ptr (6 : Nat) (0 : Nat) = AV.ptr (6 : Nat) (0 : Nat) ∧
                                              List.map Fm.d (Fm.l f) = List.map Fm.d (Fm.l f) ∧
                                               (↑(List.length (List.map Fm.d (Fm.l f))) : Int) = (↑(List.length (List.map Fm.d (Fm.l f))) : Int) ∧
                                                IntKind.wrap IntKind.i64 ((↑(Prod.fst x) : Int) + (1 : Int)) = (↑(Prod.fst y) : Int) ∧ True) ∧
                                          (n = Fm.kind f0 ∧
                                            s = Fm.name f0 ∧
                                             n_1 = Fm.n f0 ∧
                                              l = List.map Tm.d (Fm.ts f0) ∧ l_1 = List.map Bd.d (Fm.bs f0) ∧ l_2 = List.map Fm.d (Fm.l f0) ∧ True) ∧
                                           es = Prod.snd y ∧
                                            (AV.map (1 : Nat) = AV.map (1 : Nat) ∧ True) ∧
                                             (l_3 =
                                                List.map D.str
                                                 (List.foldl
                                                  (fun (o : List Nm) (y : Fm) => Fm.look (List.map (fun (x : Bd) => Bd.name x) (Fm.bs f) ++ bnd) o y)
                                                  (List.foldl (addT (List.map (fun (x : Bd) => Bd.name x) (Fm.bs f) ++ bnd)) out (Fm.ts f))
                                                  (List.take (Prod.fst y) (Fm.l f))) ∧
                                               True) ∧
                                              (AV.clo (33 : Nat) [] [AV.ptr (2 : Nat) (0 : Nat), AV.ptr (3 : Nat) (0 : Nat), AV.ptr (4 : Nat) (0 : Nat)] =
                                                 AV.clo (33 : Nat) [] [AV.ptr (2 : Nat) (0 : Nat), AV.ptr (3 : Nat) (0 : Nat), AV.ptr (4 : Nat) (0 : Nat)] ∧
                                                True) ∧
                                               n_2 =
                                                 List.length
                                                  (List.foldl
                                                   (fun (o : List Nm) (y : Fm) => Fm.look (List.map (fun (x : Bd) => Bd.name x) (Fm.bs f) ++ bnd) o y)
                                                   (List.foldl (addT (List.map (fun (x : Bd) => Bd.name x) (Fm.bs f) ++ bnd)) out (Fm.ts f))
                                                   (List.take (Prod.fst y) (Fm.l f))) ∧
                                                (Fm.kind f = Fm.kind f ∧
                                                  Fm.name f = Fm.name f ∧
                                                   Fm.n f = Fm.n f ∧
                                                    List.map Tm.d (Fm.ts f) = List.map Tm.d (Fm.ts f) ∧
                                                     List.map Bd.d (Fm.bs f) = List.map Bd.d (Fm.bs f) ∧
                                                      List.map Fm.d (Fm.l f) = List.map Fm.d (Fm.l f) ∧ True) ∧
                                                 True) ∧
                        (decide ((↑(Prod.fst x) : Int) < (↑(List.length (List.map Fm.d (Fm.l f))) : Int)) = false →
                         ∃ (x0 : Nat × List (D × D)),
                          (Prod.fst x0 ≤ List.length (Fm.bs f) ∧ EsOk (Prod.snd x0) (List.map (fun (x : Bd) => Bd.name x) (List.drop (Prod.fst x0) (Fm.bs f)) ++ bnd)) ∧
                           ((AV.ptr (2 : Nat) (0 : Nat) = AV.ptr (2 : Nat) (0 : Nat) ∧
                              AV.ptr (3 : Nat) (0 : Nat) = AV.ptr (3 : Nat) (0 : Nat) ∧
                               AV.ptr (4 : Nat) (0 : Nat) = AV.ptr (4 : Nat) (0 : Nat) ∧
                                AV.ptr (6 : Nat) (0 : Nat) = AV.ptr (6 : Nat) (0 : Nat) ∧
                                 List.map Bd.d (Fm.bs f) = List.map Bd.d (Fm.bs f) ∧
                                  (↑(List.length (List.map Bd.d (Fm.bs f))) : Int) = (↑(List.length (List.map Bd.d (Fm.bs f))) : Int) ∧
                                   (0 : Int) = (↑(Prod.fst x0) : Int) ∧ True) ∧
                             (Fm.kind f0 = Fm.kind f0 ∧
                               Fm.name f0 = Fm.name f0 ∧
                                Fm.n f0 = Fm.n f0 ∧
                                 List.map Tm.d (Fm.ts f0) = List.map Tm.d (Fm.ts f0) ∧
                                  List.map Bd.d (Fm.bs f0) = List.map Bd.d (Fm.bs f0) ∧ List.map Fm.d (Fm.l f0) = List.map Fm.d (Fm.l f0) ∧ True) ∧
                              Prod.snd x = Prod.snd x0 ∧
                               (AV.map (1 : Nat) = AV.map (1 : Nat) ∧ True) ∧
                                (List.map D.str
                                    (List.foldl (fun (o : List Nm) (y : Fm) => Fm.look (List.map (fun (x : Bd) => Bd.name x) (Fm.bs f) ++ bnd) o y)
                                     (List.foldl (addT (List.map (fun (x : Bd) => Bd.name x) (Fm.bs f) ++ bnd)) out (Fm.ts f)) (List.take (Prod.fst x) (Fm.l f))) =
                                   List.map D.str (Fm.look bnd out f) ∧
                                  True) ∧
                                 (AV.clo (33 : Nat) [] [AV.ptr (2 : Nat) (0 : Nat), AV.ptr (3 : Nat) (0 : Nat), AV.ptr (4 : Nat) (0 : Nat)] =
                                    AV.clo (33 : Nat) [] [AV.ptr (2 : Nat) (0 : Nat), AV.ptr (3 : Nat) (0 : Nat), AV.ptr (4 : Nat) (0 : Nat)] ∧
                                   True) ∧
                                  List.length
                                     (List.foldl (fun (o : List Nm) (y : Fm) => Fm.look (List.map (fun (x : Bd) => Bd.name x) (Fm.bs f) ++ bnd) o y)
                                      (List.foldl (addT (List.map (fun (x : Bd) => Bd.name x) (Fm.bs f) ++ bnd)) out (Fm.ts f)) (List.take (Prod.fst x) (Fm.l f))) =
                                    List.length (Fm.look bnd out f) ∧
                                   (Fm.kind f = Fm.kind f ∧
                                     Fm.name f = Fm.name f ∧
                                      Fm.n f = Fm.n f ∧
                                       List.map Tm.d (Fm.ts f) = List.map Tm.d (Fm.ts f) ∧
                                        List.map Bd.d (Fm.bs f) = List.map Bd.d (Fm.bs f) ∧ List.map Fm.d (Fm.l f) = List.map Fm.d (Fm.l f) ∧ True) ∧
                                    True) ∧
                            ∀ (x : Nat × List (D × D)),
                             Prod.fst x ≤ List.length (Fm.bs f) ∧ EsOk (Prod.snd x) (List.map (fun (x : Bd) => Bd.name x) (List.drop (Prod.fst x) (Fm.bs f)) ++ bnd) →
                              (decide ((↑(Prod.fst x) : Int) < (↑(List.length (List.map Bd.d (Fm.bs f))) : Int)) = true →
                                ((0 : Int) ≤ (↑(Prod.fst x) : Int) ∧
                                  (List.map Bd.d (Fm.bs f))[Int.toNat (↑(Prod.fst x) : Int)]? =
                                   some (aggAt [Sh.str, Sh.int IntKind.i64] (List.map Bd.d (Fm.bs f)) (Int.toNat (↑(Prod.fst x) : Int)))) ∧
                                 (List.all (Prod.snd x) fun (kv : D × D) =>
                                    sameKind
                                      ((fun (x_1 : Sh × Nat) =>
                                        match x_1 with
                                        | (sh, j) => Sh.norm sh (Option.getD (cellAt (List.map Bd.d (Fm.bs f)) (Int.toNat (↑(Prod.fst x) : Int)) j) default))
                                       (Sh.str, (0 : Nat)))
                                      (Prod.fst kv) &&
                                     Sh.ok (Sh.int IntKind.i64) (Prod.snd kv)) =
                                   true ∧
                                  (List.all (Prod.snd x) fun (kv : D × D) =>
                                     sameKind
                                      ((fun (x_1 : Sh × Nat) =>
                                        match x_1 with
                                        | (sh, j) => Sh.norm sh (Option.getD (cellAt (List.map Bd.d (Fm.bs f)) (Int.toNat (↑(Prod.fst x) : Int)) j) default))
                                       (Sh.str, (0 : Nat)))
                                      (Prod.fst kv)) =
                                    true ∧
                                   ∃ (y : Nat × List (D × D)),
                                    (Prod.fst y ≤ List.length (Fm.bs f) ∧
                                      EsOk (Prod.snd y) (List.map (fun (x : Bd) => Bd.name x) (List.drop (Prod.fst y) (Fm.bs f)) ++ bnd)) ∧
                                     List.length (Fm.bs f) - Prod.fst y < List.length (Fm.bs f) - Prod.fst x ∧
                                      (AV.ptr (2 : Nat) (0 : Nat) = AV.ptr (2 : Nat) (0 : Nat) ∧
                                        AV.ptr (3 : Nat) (0 : Nat) = AV.ptr (3 : Nat) (0 : Nat) ∧
                                         AV.ptr (4 : Nat) (0 : Nat) = AV.ptr (4 : Nat) (0 : Nat) ∧
                                          AV.ptr (6 : Nat) (0 : Nat) = AV.ptr (6 : Nat) (0 : Nat) ∧
                                           List.map Bd.d (Fm.bs f) = List.map Bd.d (Fm.bs f) ∧
                                            (↑(List.length (List.map Bd.d (Fm.bs f))) : Int) = (↑(List.length (List.map Bd.d (Fm.bs f))) : Int) ∧
                                             IntKind.wrap IntKind.i64 ((↑(Prod.fst x) : Int) + (1 : Int)) = (↑(Prod.fst y) : Int) ∧ True) ∧
                                       (Fm.kind f0 = Fm.kind f0 ∧
                                         Fm.name f0 = Fm.name f0 ∧
                                          Fm.n f0 = Fm.n f0 ∧
                                           List.map Tm.d (Fm.ts f0) = List.map Tm.d (Fm.ts f0) ∧
                                            List.map Bd.d (Fm.bs f0) = List.map Bd.d (Fm.bs f0) ∧ List.map Fm.d (Fm.l f0) = List.map Fm.d (Fm.l f0) ∧ True) ∧
                                        updD (Prod.snd x)
                                           ((fun (x_1 : Sh × Nat) =>
                                             match x_1 with
                                             | (sh, j) => Sh.norm sh (Option.getD (cellAt (List.map Bd.d (Fm.bs f)) (Int.toNat (↑(Prod.fst x) : Int)) j) default))
                                            (Sh.str, (0 : Nat)))
                                           (Prod.fst
                                            (D.int IntKind.i64
                                              (IntKind.wrap IntKind.i64
                                               (D.toInt
                                                 (Option.getD
                                                  (lookD (Prod.snd x)
                                                   ((fun (x_1 : Sh × Nat) =>
                                                     match x_1 with
                                                     | (sh, j) =>
                                                      Sh.norm sh
                                                       (Option.getD (cellAt (List.map Bd.d (Fm.bs f)) (Int.toNat (↑(Prod.fst x) : Int)) j) default))
                                                    (Sh.str, (0 : Nat))))
                                                  (D.int IntKind.i64 (0 : Int))) -
                                                (1 : Int))),
                                             True)) =
                                          Prod.snd y ∧
                                         (AV.map (1 : Nat) = AV.map (1 : Nat) ∧ True) ∧
                                          (List.map D.str (Fm.look bnd out f) = List.map D.str (Fm.look bnd out f) ∧ True) ∧
                                           (AV.clo (33 : Nat) [] [AV.ptr (2 : Nat) (0 : Nat), AV.ptr (3 : Nat) (0 : Nat), AV.ptr (4 : Nat) (0 : Nat)] =
                                              AV.clo (33 : Nat) [] [AV.ptr (2 : Nat) (0 : Nat), AV.ptr (3 : Nat) (0 : Nat), AV.ptr (4 : Nat) (0 : Nat)] ∧
                                             True) ∧
                                            List.length (Fm.look bnd out f) = List.length (Fm.look bnd out f) ∧
                                             (Fm.kind f = Fm.kind f ∧
                                               Fm.name f = Fm.name f ∧
                                                Fm.n f = Fm.n f ∧
                                                 List.map Tm.d (Fm.ts f) = List.map Tm.d (Fm.ts f) ∧
                                                  List.map Bd.d (Fm.bs f) = List.map Bd.d (Fm.bs f) ∧
                                                   List.map Fm.d (Fm.l f) = List.map Fm.d (Fm.l f) ∧ True) ∧
                                              True) ∧
                               (decide ((↑(Prod.fst x) : Int) < (↑(List.length (List.map Bd.d (Fm.bs f))) : Int)) = false →
                                ([] : List D) = [] ∧
                                 ∃ (es' : List (D × D)),
                                  EsOk es' bnd ∧
                                   [Box.cells (26 : Nat)
                                      [AV.d (D.int IntKind.i64 (Fm.kind f0)), AV.d (D.str (Fm.name f0)), AV.d (D.int IntKind.i64 (Fm.n f0)),
                                       AV.d (D.sl (List.map Tm.d (Fm.ts f0))), AV.d (D.sl (List.map Bd.d (Fm.bs f0))), AV.d (D.sl (List.map Fm.d (Fm.l f0)))],
                                     Box.map (Prod.snd x), Box.cells (50 : Nat) [AV.map (1 : Nat)],
                                     Box.cells (32 : Nat) [AV.vec (5 : Nat) (List.map D.str (Fm.look bnd out f))],
                                     Box.cells (51 : Nat) [AV.clo (33 : Nat) [] [AV.ptr (2 : Nat) (0 : Nat), AV.ptr (3 : Nat) (0 : Nat), AV.ptr (4 : Nat) (0 : Nat)]],
                                     Box.vec (List.length (Fm.look bnd out f)) (1 : Nat)] =
                                    [Box.cells (26 : Nat)
                                      [AV.d (D.int IntKind.i64 (Fm.kind f0)), AV.d (D.str (Fm.name f0)), AV.d (D.int IntKind.i64 (Fm.n f0)),
                                       AV.d (D.sl (List.map Tm.d (Fm.ts f0))), AV.d (D.sl (List.map Bd.d (Fm.bs f0))), AV.d (D.sl (List.map Fm.d (Fm.l f0)))],
                                     Box.map es', Box.cells (50 : Nat) [AV.map (1 : Nat)], Box.cells (32 : Nat) [AV.vec (5 : Nat) (List.map D.str (Fm.look bnd out f))],
                                     Box.cells (51 : Nat) [AV.clo (33 : Nat) [] [AV.ptr (2 : Nat) (0 : Nat), AV.ptr (3 : Nat) (0 : Nat), AV.ptr (4 : Nat) (0 : Nat)]],
                                     Box.vec (List.length (Fm.look bnd out f)) (1 : Nat)])))))
  · kernel_rfl
  have hw := f.wt_eq
  have cntle : ∀ (l : List Nm) (s : Nm), l.count s ≤ l.length := fun l s => List.count_le_length
  refine ⟨(0, es), ⟨Nat.zero_le _, by simpa using he⟩, ⟨⟨rfl, rfl, rfl, rfl, rfl, rfl, rfl, trivial⟩, ⟨rfl, rfl, rfl, rfl, rfl, rfl, trivial⟩, rfl, ⟨rfl, trivial⟩, ⟨rfl, trivial⟩, ⟨rfl, trivial⟩, rfl, ⟨rfl, rfl, rfl, rfl, rfl, rfl, trivial⟩, trivial⟩, ?_⟩
  rintro ⟨i, es1⟩ ⟨hi, he1⟩
  simp only at hi he1
  refine ⟨fun hlt => ?_, fun hge => ?_⟩
  · simp only [List.length_map, decide_eq_true_eq] at hlt
    obtain ⟨z, hz, hm⟩ := get_nat (l := f.bs) (x := i) (by omega)
    dsimp only
    rw [Int.toNat_natCast, agg_bd hz, cell_bd0 hz]
    have e1 : Sh.norm Sh.str (Option.getD (some (D.str z.name)) default) = .str z.name := rfl
    rw [e1]
    have hc := he1.cnt z.name
    unfold cntE at hc
    have hcl := cntle ((f.bs.take i).map (·.name) ++ bnd) z.name
    rw [List.length_append, List.length_map, List.length_take] at hcl
    have hwr : IntKind.wrap IntKind.i64 ((((f.bs.take i).map (·.name) ++ bnd).count z.name : Int) + 1) = (((f.bs.take i).map (·.name) ++ bnd).count z.name : Int) + 1 := wrap64 (by omega) (by omega)
    rw [hc, hwr]
    refine ⟨⟨by omega, by simp [hz]⟩, ?_, ?_, (i + 1, _), ⟨by omega, ?_⟩, by omega, ⟨rfl, rfl, rfl, rfl, rfl, rfl, ?_, trivial⟩, ⟨rfl, rfl, rfl, rfl, rfl, rfl, trivial⟩, rfl, ⟨rfl, trivial⟩, ⟨rfl, trivial⟩, ⟨rfl, trivial⟩, rfl, ⟨rfl, rfl, rfl, rfl, rfl, rfl, trivial⟩, trivial⟩
    · simp only [same_str z.name]; exact he1.all
    · have := he1.all
      simp only [same_str z.name]
      rw [List.all_eq_true] at this ⊢
      intro x hx
      have := this x hx
      simp only [Bool.and_eq_true] at this
      exact this.1
    · refine he1.set fun s' => ?_
      simp only [List.take_add_one, hz, Option.toList_some, List.map_append, List.map_cons, List.map_nil, List.count_append, List.count_cons, List.count_nil]
      by_cases h : s' = z.name
      · subst h; simp; omega
      · have h2 : (z.name == s') = false := by simpa using fun e => h e.symm
        simp [h, h2]
    · rw [wrap64 (by omega) (by omega)]; simp
  simp only [List.length_map, decide_eq_false_iff_not] at hge
  rw [List.take_of_length_le (by omega)] at he1
  refine ⟨(0, es1), ⟨Nat.zero_le _, he1⟩, ⟨⟨rfl, rfl, rfl, rfl, rfl, rfl, rfl, trivial⟩, ⟨rfl, rfl, rfl, rfl, rfl, rfl, trivial⟩, rfl, ⟨rfl, trivial⟩, ⟨rfl, trivial⟩, ⟨rfl, trivial⟩, rfl, ⟨rfl, rfl, rfl, rfl, rfl, rfl, trivial⟩, trivial⟩, ?_⟩
  rintro ⟨j, es2⟩ ⟨hj, he2⟩
  simp only at hj he2
  refine ⟨fun hlt => ?_, fun hge2 => ?_⟩
  · simp only [List.length_map, decide_eq_true_eq] at hlt
    obtain ⟨z, hz, hm⟩ := get_nat (l := f.ts) (x := j) (by omega)
    dsimp only
    rw [Int.toNat_natCast, agg_tm hz, cell_tm0 hz, cell_tm1 hz]
    have e1 : Sh.norm Sh.str (Option.getD (some (D.str z.name)) default) = .str z.name := rfl
    have e2 : D.toStr (Option.getD (some (D.str z.name)) default) = z.name := rfl
    have e3 : D.toInt (Option.getD (some (D.int IntKind.i64 z.kind)) default) = z.kind := rfl
    rw [e1, e2, e3]
    have hc := he2.cnt z.name
    unfold cntE at hc
    rw [hc]
    have hol := addT_len (f.bs.map (·.name) ++ bnd) (f.ts.take j) out
    have htk : (f.ts.take j).length ≤ f.ts.length := by simp; omega
    refine ⟨⟨by omega, by simp [hz]⟩, fun _ => by simp only [same_str z.name]; exact he2.all, ?_⟩
    refine (fn34 _ z.name (by omega)).mono ?_
    rintro rs rfl
    have hcond : (bif bif z.kind != 1 then (((f.bs.map (·.name) ++ bnd).count z.name : Int) == 0) else false then !((f.ts.take j).foldl (addT (f.bs.map (·.name) ++ bnd)) out).contains z.name else false) = (z.kind != 1 && !(f.bs.map (·.name) ++ bnd).contains z.name && !((f.ts.take j).foldl (addT (f.bs.map (·.name) ++ bnd)) out).contains z.name) := by
      rw [bif_and, bif_and]
      congr 2
      rw [Bool.eq_iff_iff]
      simp only [beq_iff_eq, Bool.not_eq_true', List.contains_eq_mem, decide_eq_false_iff_not]
      rw [← List.count_eq_zero]
      omega
    have hnx : (f.ts.take (j + 1)).foldl (addT (f.bs.map (·.name) ++ bnd)) out = addT (f.bs.map (·.name) ++ bnd) ((f.ts.take j).foldl (addT (f.bs.map (·.name) ++ bnd)) out) z := by
      rw [List.take_add_one, hz]; simp [List.foldl_append]
    refine ⟨_, rfl, ?_⟩
    rw [hcond]
    refine ⟨fun hyes => ⟨⟨by simp, rfl, ?_, ?_⟩, (j + 1, es2), ⟨by omega, he2⟩, by omega, ⟨rfl, rfl, rfl, rfl, rfl, rfl, ?_, trivial⟩, ⟨rfl, rfl, rfl, rfl, rfl, rfl, trivial⟩, rfl, ⟨rfl, trivial⟩, ⟨?_, trivial⟩, ⟨rfl, trivial⟩, ?_, ⟨rfl, rfl, rfl, rfl, rfl, rfl, trivial⟩, trivial⟩,
      fun hno => ⟨(j + 1, es2), ⟨by omega, he2⟩, by omega, ⟨rfl, rfl, rfl, rfl, rfl, rfl, ?_, trivial⟩, ⟨rfl, rfl, rfl, rfl, rfl, rfl, trivial⟩, rfl, ⟨rfl, trivial⟩, ⟨?_, trivial⟩, ⟨rfl, trivial⟩, ?_, ⟨rfl, rfl, rfl, rfl, rfl, rfl, trivial⟩, trivial⟩⟩
    · simp [D.cells]
    · simp; omega
    · rw [wrap64 (by omega) (by omega)]; simp
    · dsimp only
      rw [hnx, addT_pos hyes]
      simp
    · dsimp only
      rw [hnx, addT_pos hyes]
      simp
    · rw [wrap64 (by omega) (by omega)]; simp
    · dsimp only
      rw [hnx, addT_neg hno]
    · dsimp only
      rw [hnx, addT_neg hno]
  simp only [List.length_map, decide_eq_false_iff_not] at hge2
  dsimp only
  rw [List.take_of_length_le (by omega : f.ts.length ≤ j)]
  refine ⟨(0, es2), ⟨Nat.zero_le _, he2⟩, ⟨⟨rfl, rfl, rfl, rfl, rfl, rfl, rfl, trivial⟩, ⟨rfl, rfl, rfl, rfl, rfl, rfl, trivial⟩, rfl, ⟨rfl, trivial⟩, ⟨rfl, trivial⟩, ⟨rfl, trivial⟩, rfl, ⟨rfl, rfl, rfl, rfl, rfl, rfl, trivial⟩, trivial⟩, ?_⟩
  rintro ⟨k, es3⟩ ⟨hk, he3⟩
  simp only at hk he3
  refine ⟨fun hlt => ?_, fun hge3 => ?_⟩
  · simp only [List.length_map, decide_eq_true_eq] at hlt
    obtain ⟨z, hz, hm⟩ := get_nat (l := f.l) (x := k) (by omega)
    dsimp only
    rw [Int.toNat_natCast, agg_fm hz]
    refine ⟨⟨by omega, by simp [hz]⟩, ?_⟩
    have hol := addT_len (f.bs.map (·.name) ++ bnd) f.ts out
    have hfl := fold_look_len (f.bs.map (·.name) ++ bnd) (f.l.take k) (f.ts.foldl (addT (f.bs.map (·.name) ++ bnd)) out)
    have hw1 := wtsTakeSucc hz
    have hw2 := wtsTake f.l (k + 1)
    have hln := wts_len f.l
    have hnx : (f.l.take (k + 1)).foldl (fun o y => y.look (f.bs.map (·.name) ++ bnd) o) (f.ts.foldl (addT (f.bs.map (·.name) ++ bnd)) out) = z.look (f.bs.map (·.name) ++ bnd) ((f.l.take k).foldl (fun o y => y.look (f.bs.map (·.name) ++ bnd) o) (f.ts.foldl (addT (f.bs.map (·.name) ++ bnd)) out)) := by
      rw [List.take_add_one, hz]; simp [List.foldl_append]
    refine (ih z hm es3 (f.bs.map (·.name) ++ bnd) _ he3 (by simp only [List.length_append, List.length_map]; omega) (by omega)).mono ?_
    rintro rs H' ⟨rfl, es4, he4, rfl⟩
    refine ⟨rfl, _, _, _, _, _, _, _, _, _, rfl, (k + 1, es4), ⟨by omega, he4⟩, by omega, ⟨rfl, rfl, rfl, rfl, rfl, rfl, ?_, trivial⟩, ⟨rfl, rfl, rfl, rfl, rfl, rfl, trivial⟩, rfl, ⟨rfl, trivial⟩, ⟨?_, trivial⟩, ⟨rfl, trivial⟩, ?_, ⟨rfl, rfl, rfl, rfl, rfl, rfl, trivial⟩, trivial⟩
    · rw [wrap64 (by omega) (by omega)]; simp
    · dsimp only; rw [hnx]
    · dsimp only; rw [hnx]
  simp only [List.length_map, decide_eq_false_iff_not] at hge3
  dsimp only
  have hlk : (f.l.take k).foldl (fun o y => y.look (f.bs.map (·.name) ++ bnd) o) (f.ts.foldl (addT (f.bs.map (·.name) ++ bnd)) out) = f.look bnd out := by
    rw [List.take_of_length_le (by omega), f.look_eq, looks_fold]
  rw [hlk]
  refine ⟨(0, es3), ⟨Nat.zero_le _, by simpa using he3⟩, ⟨⟨rfl, rfl, rfl, rfl, rfl, rfl, rfl, trivial⟩, ⟨rfl, rfl, rfl, rfl, rfl, rfl, trivial⟩, rfl, ⟨rfl, trivial⟩, ⟨rfl, trivial⟩, ⟨rfl, trivial⟩, rfl, ⟨rfl, rfl, rfl, rfl, rfl, rfl, trivial⟩, trivial⟩, ?_⟩
  rintro ⟨m, es5⟩ ⟨hm5, he5⟩
  simp only at hm5 he5
  refine ⟨fun hlt => ?_, fun hge5 => ?_⟩
  · simp only [List.length_map, decide_eq_true_eq] at hlt
    obtain ⟨z, hz, hm⟩ := get_nat (l := f.bs) (x := m) (by omega)
    dsimp only
    rw [Int.toNat_natCast, agg_bd hz, cell_bd0 hz]
    have e1 : Sh.norm Sh.str (Option.getD (some (D.str z.name)) default) = .str z.name := rfl
    rw [e1]
    have hc := he5.cnt z.name
    unfold cntE at hc
    have hcl := cntle ((f.bs.drop m).map (·.name) ++ bnd) z.name
    rw [List.length_append, List.length_map, List.length_drop] at hcl
    have hwr : IntKind.wrap IntKind.i64 ((((f.bs.drop m).map (·.name) ++ bnd).count z.name : Int) - 1) = (((f.bs.drop m).map (·.name) ++ bnd).count z.name : Int) - 1 := wrap64 (by omega) (by omega)
    rw [hc, hwr]
    have hdr : f.bs.drop m = z :: f.bs.drop (m + 1) := by
      have hlt' : m < f.bs.length := by omega
      rw [List.drop_eq_getElem_cons hlt']
      congr 1
      have := List.getElem?_eq_getElem hlt'
      rw [hz] at this; simpa using this.symm
    refine ⟨⟨by omega, by simp [hz]⟩, ?_, ?_, (m + 1, _), ⟨by omega, ?_⟩, by omega, ⟨rfl, rfl, rfl, rfl, rfl, rfl, ?_, trivial⟩, ⟨rfl, rfl, rfl, rfl, rfl, rfl, trivial⟩, rfl, ⟨rfl, trivial⟩, ⟨rfl, trivial⟩, ⟨rfl, trivial⟩, rfl, ⟨rfl, rfl, rfl, rfl, rfl, rfl, trivial⟩, trivial⟩
    · simp only [same_str z.name]; exact he5.all
    · have := he5.all
      simp only [same_str z.name]
      rw [List.all_eq_true] at this ⊢
      intro x hx
      have := this x hx
      simp only [Bool.and_eq_true] at this
      exact this.1
    · refine he5.set fun s' => ?_
      simp only [hdr, List.map_cons, List.cons_append, List.count_cons]
      by_cases h : s' = z.name
      · subst h; simp
      · have h2 : (z.name == s') = false := by simpa using fun e => h e.symm
        simp [h, h2]
    · rw [wrap64 (by omega) (by omega)]; simp
  simp only [List.length_map, decide_eq_false_iff_not] at hge5
  rw [List.drop_eq_nil_of_le (by omega)] at he5
  exact ⟨rfl, es5, by simpa using he5, rfl⟩

theorem fn19 (f : Fm) (hf : f.wt < 1099511627776) : PFn Tryd.prog G 19 [f.d] (· = [.sl ((f.look [] []).map .str)]) := by
  have h := fn33 (G := G) f f [] [] [] ⟨rfl, fun s => rfl⟩ (by simpa using hf) (by simpa using hf)
  rw [d_cells] at h ⊢
  refine PFn.walk (fn := Tryd.f19) (code := bodyOf Tryd.f19) mixed L0 Tryd.func19 (by kernel_rfl) ⟨_, rfl⟩ (ok0 (by kernel_rfl)) ?_
  apply @of_vc _ (
    PCall Tryd.prog G (33 : Nat)
     [AV.d (D.agg [D.int IntKind.i64 (Fm.kind f), D.str (Fm.name f), D.int IntKind.i64 (Fm.n f), D.sl (List.map Tm.d (Fm.ts f)), D.sl (List.map Bd.d (Fm.bs f)), D.sl (List.map Fm.d (Fm.l f))]),
      AV.ptr (2 : Nat) (0 : Nat), AV.ptr (3 : Nat) (0 : Nat), AV.ptr (4 : Nat) (0 : Nat)]
     [Box.cells (26 : Nat)
       [AV.d (D.int IntKind.i64 (Fm.kind f)), AV.d (D.str (Fm.name f)), AV.d (D.int IntKind.i64 (Fm.n f)), AV.d (D.sl (List.map Tm.d (Fm.ts f))), AV.d (D.sl (List.map Bd.d (Fm.bs f))),
        AV.d (D.sl (List.map Fm.d (Fm.l f)))],
      Box.map [], Box.cells (50 : Nat) [AV.map (1 : Nat)], Box.cells (32 : Nat) [AV.vec (5 : Nat) []],
      Box.cells (51 : Nat) [AV.clo (33 : Nat) [] [AV.ptr (2 : Nat) (0 : Nat), AV.ptr (3 : Nat) (0 : Nat), AV.ptr (4 : Nat) (0 : Nat)]], Box.vec (0 : Nat) (1 : Nat)]
     fun (rs : List D) (H' : List Box) =>
     rs = [] ∧
      ∃ (n : Int),
       ∃ (s : List UInt8),
        ∃ (n_1 : Int),
         ∃ (l : List D),
          ∃ (l_1 : List D),
           ∃ (l_2 : List D),
            ∃ (es : List (D × D)),
             ∃ (l_3 : List D),
              ∃ (n_2 : Nat),
               H' =
                 [Box.cells (26 : Nat) [AV.d (D.int IntKind.i64 n), AV.d (D.str s), AV.d (D.int IntKind.i64 n_1), AV.d (D.sl l), AV.d (D.sl l_1), AV.d (D.sl l_2)], Box.map es,
                  Box.cells (50 : Nat) [AV.map (1 : Nat)], Box.cells (32 : Nat) [AV.vec (5 : Nat) l_3],
                  Box.cells (51 : Nat) [AV.clo (33 : Nat) [] [AV.ptr (2 : Nat) (0 : Nat), AV.ptr (3 : Nat) (0 : Nat), AV.ptr (4 : Nat) (0 : Nat)]], Box.vec n_2 (1 : Nat)] ∧
                [D.sl l_3] = [D.sl (List.map D.str (Fm.look [] [] f))])
  · kernel_rfl
  refine h.mono ?_
  rintro rs H' ⟨rfl, es', he', rfl⟩
  exact ⟨rfl, _, _, _, _, _, _, _, _, _, rfl, rfl⟩
end
end Go.Fo
/- Free variables: the reference. -/
namespace Go.Fo
open Go Go.Sx Go.Proofs
set_option maxRecDepth 100000
set_option maxHeartbeats 0

def addA (bnd o : List Nm) (s : Nm) : List Nm := if !bnd.contains s && !o.contains s then o ++ [s] else o
def tsN (ts : List Tm) : List Nm := (ts.filter fun t => t.kind != 1).map (·.name)
mutual
def Fm.free : Fm → List Nm
  | .mk _ _ _ ts bs l => (tsN ts ++ Fm.frees l).foldl (addA (bs.map (·.name))) []
def Fm.frees : List Fm → List Nm
  | [] => []
  | x :: r => x.free ++ Fm.frees r
end
theorem Fm.free_eq (f : Fm) : f.free = (tsN f.ts ++ Fm.frees f.l).foldl (addA (f.bs.map (·.name))) [] := by cases f; rw [Fm.free]; rfl

theorem addA_pos {bnd o : List Nm} {s : Nm} (h : (!bnd.contains s && !o.contains s) = true) : addA bnd o s = o ++ [s] := if_pos h
theorem addA_neg {bnd o : List Nm} {s : Nm} (h : (!bnd.contains s && !o.contains s) = false) : addA bnd o s = o := if_neg (by rw [h]; simp)
theorem addA_len (bnd : List Nm) (l : List Nm) : ∀ o : List Nm, (l.foldl (addA bnd) o).length ≤ o.length + l.length := by
  induction l with
  | nil => intro o; simp
  | cons t r ih =>
    intro o
    have := ih (addA bnd o t)
    have h2 : (addA bnd o t).length ≤ o.length + 1 := by unfold addA; split <;> simp
    simp only [List.foldl_cons, List.length_cons]; omega
theorem tsN_len (ts : List Tm) : (tsN ts).length ≤ ts.length := by unfold tsN; rw [List.length_map]; exact List.length_filter_le _ _
theorem Fm.free_len (f : Fm) : f.free.length ≤ f.wt := by
  induction f using Fm.induct with
  | h f ih =>
  rw [f.free_eq]
  have h1 := addA_len (f.bs.map (·.name)) (tsN f.ts ++ Fm.frees f.l) []
  have h2 := tsN_len f.ts
  have h3 : ∀ l : List Fm, (∀ x ∈ l, x ∈ f.l) → (Fm.frees l).length ≤ Fm.wts l := by
    intro l
    induction l with
    | nil => intro _; simp [Fm.frees]
    | cons x r ihr =>
      intro hx
      have := ihr (fun y hy => hx y (by simp [hy]))
      have := ih x (hx x (by simp))
      simp only [Fm.frees, Fm.wts, List.length_append]; omega
  have := h3 f.l (fun _ h => h)
  have := f.wt_eq
  simp only [List.length_append, List.length_nil] at h1
  omega
theorem frees_len (l : List Fm) : (Fm.frees l).length ≤ Fm.wts l := by
  induction l with
  | nil => simp [Fm.frees]
  | cons x r ih => have := x.free_len; simp only [Fm.frees, Fm.wts, List.length_append]; omega
theorem frees_append (a b : List Fm) : Fm.frees (a ++ b) = Fm.frees a ++ Fm.frees b := by
  induction a with
  | nil => simp [Fm.frees]
  | cons x r ih => simp only [List.cons_append, Fm.frees, ih, List.append_assoc]
theorem frees_take_succ {l : List Fm} {i : Nat} {z : Fm} (h : l[i]? = some z) : Fm.frees (l.take (i + 1)) = Fm.frees (l.take i) ++ z.free := by
  rw [List.take_add_one, h, frees_append]; simp [Fm.frees]
theorem tsN_take_succ {l : List Tm} {i : Nat} {z : Tm} (h : l[i]? = some z) : tsN (l.take (i + 1)) = tsN (l.take i) ++ (if z.kind != 1 then [z.name] else []) := by
  unfold tsN
  rw [List.take_add_one, h, List.filter_append, List.map_append]
  congr 1
  simp only [Option.toList_some, List.filter_cons, List.filter_nil]
  cases z.kind != 1 <;> rfl
theorem cells_str (l : List Nm) : ((l.map D.str).all fun d => d.cells.length == 1) = true := by
  rw [List.all_eq_true]
  intro d hd
  obtain ⟨t, _, rfl⟩ := List.mem_map.1 hd
  rfl

section
variable {G : Nat → Option (List D)}
theorem fn20 (f : Fm) (hf : f.wt < 1099511627776) : PFn Tryd.prog G 20 [f.d] (· = [.sl (f.free.map .str)]) := by
  induction f using Fm.induct with
  | h f ih =>
  rw [d_cells]
  refine PFn.walk (fn := Tryd.f20) (code := bodyOf Tryd.f20) mixed
    (LL [(3, loopW (α := Nat) Tryd.prog G L0 0 (loopN (bodyOf Tryd.f20) 0) [1] (fun i => i ≤ f.ts.length) (fun i => f.ts.length - i)
        (fun i => [(3, .vec 1 ((tsN (f.ts.take i)).map .str)), (4, .d (.int .i64 i))]) (fun H i => [H.getD 0 .dead, .vec (tsN (f.ts.take i)).length 1])),
      (8, loopW (α := Nat) Tryd.prog G L0 0 (loopN (bodyOf Tryd.f20) 1) [1] (fun i => i ≤ f.l.length) (fun i => f.l.length - i)
        (fun i => [(3, .vec 1 ((tsN f.ts ++ Fm.frees (f.l.take i)).map .str)), (5, .d (.int .i64 i))]) (fun H i => [H.getD 0 .dead, .vec (tsN f.ts ++ Fm.frees (f.l.take i)).length 1])),
      (13, loopW (α := Nat) Tryd.prog G L0 0 (loopN (bodyOf Tryd.f20) 2) [1, 3] (fun i => i ≤ f.bs.length) (fun i => f.bs.length - i)
        (fun i => [(6, .vec 2 (((f.bs.take i).map (·.name)).map .str)), (7, .d (.int .i64 i))]) (fun H i => [H.getD 0 .dead, H.getD 1 .dead, .vec i 1])),
      (18, loopW (α := Nat) Tryd.prog G L0 0 (loopN (bodyOf Tryd.f20) 3) [1, 3, 6] (fun i => i ≤ (tsN f.ts ++ Fm.frees f.l).length) (fun i => (tsN f.ts ++ Fm.frees f.l).length - i)
        (fun i => [(8, .vec 3 ((((tsN f.ts ++ Fm.frees f.l).take i).foldl (addA (f.bs.map (·.name))) []).map .str)), (9, .d (.int .i64 i))]) (fun H i => [H.getD 0 .dead, H.getD 1 .dead, H.getD 2 .dead, .vec (((tsN f.ts ++ Fm.frees f.l).take i).foldl (addA (f.bs.map (·.name))) []).length 1]))])
    Tryd.func20 (by kernel_rfl) ⟨_, rfl⟩
    (LoopsOk.four (b1 := loopN (bodyOf Tryd.f20) 0) (b2 := loopN (bodyOf Tryd.f20) 1) (b3 := loopN (bodyOf Tryd.f20) 2) (b4 := loopN (bodyOf Tryd.f20) 3) (by kernel_rfl) (by kernel_rfl) (by kernel_rfl) (by kernel_rfl) (by kernel_rfl) (loopW_sound mixed (ok0 (by kernel_rfl))) (loopW_sound mixed (ok0 (by kernel_rfl))) (loopW_sound mixed (ok0 (by kernel_rfl))) (loopW_sound mixed (ok0 (by kernel_rfl)))) ?_
  apply @of_vc _ (
    ∃ (x0 : Nat),
     x0 ≤ List.length (Fm.ts f) ∧
      ((AV.ptr (0 : Nat) (0 : Nat) = AV.ptr (0 : Nat) (0 : Nat) ∧
         ([] = List.map D.str (tsN (List.take x0 (Fm.ts f))) ∧ List.length ([] : List D) ≤ List.length (tsN (List.take x0 (Fm.ts f)))) ∧ (0 : Int) = (↑x0 : Int) ∧ True) ∧
        (Fm.kind f = Fm.kind f ∧
          Fm.name f = Fm.name f ∧
           Fm.n f = Fm.n f ∧ List.map Tm.d (Fm.ts f) = List.map Tm.d (Fm.ts f) ∧ List.map Bd.d (Fm.bs f) = List.map Bd.d (Fm.bs f) ∧ List.map Fm.d (Fm.l f) = List.map Fm.d (Fm.l f) ∧ True) ∧
         True) ∧
       ∀ (x : Nat),
        x ≤ List.length (Fm.ts f) →
         (decide ((↑x : Int) < (↑(List.length (List.map Tm.d (Fm.ts f))) : Int)) = true →
           ((0 : Int) ≤ (↑x : Int) ∧
             (List.map Tm.d (Fm.ts f))[Int.toNat (↑x : Int)]? = some (aggAt [Sh.int IntKind.i64, Sh.str, Sh.int IntKind.i64] (List.map Tm.d (Fm.ts f)) (Int.toNat (↑x : Int)))) ∧
            ((D.toInt (Option.getD (cellAt (List.map Tm.d (Fm.ts f)) (Int.toNat (↑x : Int)) (0 : Nat)) default) != (1 : Int)) = true →
              ((0 : Int) ≤ (↑x : Int) ∧
                (List.map Tm.d (Fm.ts f))[Int.toNat (↑x : Int)]? = some (aggAt [Sh.int IntKind.i64, Sh.str, Sh.int IntKind.i64] (List.map Tm.d (Fm.ts f)) (Int.toNat (↑x : Int)))) ∧
               (List.length (tsN (List.take x (Fm.ts f))) = List.length (List.map D.str (tsN (List.take x (Fm.ts f)))) ∧
                 (1 : Nat) = (1 : Nat) ∧
                  FA (List.map D.str (tsN (List.take x (Fm.ts f)))) [D.str (D.toStr (Option.getD (cellAt (List.map Tm.d (Fm.ts f)) (Int.toNat (↑x : Int)) ((0 : Nat) + (1 : Nat))) default))]
                   (nat_lit 1) (nat_lit 16)) ∧
                ∃ (y : Nat),
                 y ≤ List.length (Fm.ts f) ∧
                  List.length (Fm.ts f) - y < List.length (Fm.ts f) - x ∧
                   (AV.ptr (0 : Nat) (0 : Nat) = AV.ptr (0 : Nat) (0 : Nat) ∧
                     List.map D.str (tsN (List.take x (Fm.ts f))) ++
                        List.reverse
                         [(fun (x_1 : Sh × Nat) =>
                            match x_1 with
                            | (sh, j) => Sh.norm sh (Option.getD (cellAt (List.map Tm.d (Fm.ts f)) (Int.toNat (↑x : Int)) j) default))
                           (Sh.str, (0 : Nat) + (1 : Nat))] =
                       List.map D.str (tsN (List.take y (Fm.ts f))) ∧
                      IntKind.wrap IntKind.i64 ((↑x : Int) + (1 : Int)) = (↑y : Int) ∧ True) ∧
                    (Fm.kind f = Fm.kind f ∧
                      Fm.name f = Fm.name f ∧
                       Fm.n f = Fm.n f ∧
                        List.map Tm.d (Fm.ts f) = List.map Tm.d (Fm.ts f) ∧
                         List.map Bd.d (Fm.bs f) = List.map Bd.d (Fm.bs f) ∧ List.map Fm.d (Fm.l f) = List.map Fm.d (Fm.l f) ∧ True) ∧
                     List.length (List.map D.str (tsN (List.take x (Fm.ts f)))) +
                        List.length
                         (List.reverse
                          [(fun (x_1 : Sh × Nat) =>
                             match x_1 with
                             | (sh, j) => Sh.norm sh (Option.getD (cellAt (List.map Tm.d (Fm.ts f)) (Int.toNat (↑x : Int)) j) default))
                            (Sh.str, (0 : Nat) + (1 : Nat))]) =
                       List.length (tsN (List.take y (Fm.ts f))) ∧
                      True) ∧
             ((D.toInt (Option.getD (cellAt (List.map Tm.d (Fm.ts f)) (Int.toNat (↑x : Int)) (0 : Nat)) default) != (1 : Int)) = false →
              ∃ (y : Nat),
               y ≤ List.length (Fm.ts f) ∧
                List.length (Fm.ts f) - y < List.length (Fm.ts f) - x ∧
                 (AV.ptr (0 : Nat) (0 : Nat) = AV.ptr (0 : Nat) (0 : Nat) ∧
                   List.map D.str (tsN (List.take x (Fm.ts f))) = List.map D.str (tsN (List.take y (Fm.ts f))) ∧ IntKind.wrap IntKind.i64 ((↑x : Int) + (1 : Int)) = (↑y : Int) ∧ True) ∧
                  (Fm.kind f = Fm.kind f ∧
                    Fm.name f = Fm.name f ∧
                     Fm.n f = Fm.n f ∧
                      List.map Tm.d (Fm.ts f) = List.map Tm.d (Fm.ts f) ∧ List.map Bd.d (Fm.bs f) = List.map Bd.d (Fm.bs f) ∧ List.map Fm.d (Fm.l f) = List.map Fm.d (Fm.l f) ∧ True) ∧
                   List.length (tsN (List.take x (Fm.ts f))) = List.length (tsN (List.take y (Fm.ts f))) ∧ True)) ∧
          (decide ((↑x : Int) < (↑(List.length (List.map Tm.d (Fm.ts f))) : Int)) = false →
           ∃ (x0 : Nat),
            x0 ≤ List.length (Fm.l f) ∧
             ((AV.ptr (0 : Nat) (0 : Nat) = AV.ptr (0 : Nat) (0 : Nat) ∧
                List.map D.str (tsN (List.take x (Fm.ts f))) = List.map D.str (tsN (Fm.ts f) ++ Fm.frees (List.take x0 (Fm.l f))) ∧ (0 : Int) = (↑x0 : Int) ∧ True) ∧
               (Fm.kind f = Fm.kind f ∧
                 Fm.name f = Fm.name f ∧
                  Fm.n f = Fm.n f ∧
                   List.map Tm.d (Fm.ts f) = List.map Tm.d (Fm.ts f) ∧ List.map Bd.d (Fm.bs f) = List.map Bd.d (Fm.bs f) ∧ List.map Fm.d (Fm.l f) = List.map Fm.d (Fm.l f) ∧ True) ∧
                List.length (tsN (List.take x (Fm.ts f))) = List.length (tsN (Fm.ts f) ++ Fm.frees (List.take x0 (Fm.l f))) ∧ True) ∧
              ∀ (x : Nat),
               x ≤ List.length (Fm.l f) →
                (decide ((↑x : Int) < (↑(List.length (List.map Fm.d (Fm.l f))) : Int)) = true →
                  ((0 : Int) ≤ (↑x : Int) ∧
                    (List.map Fm.d (Fm.l f))[Int.toNat (↑x : Int)]? =
                     some (aggAt [Sh.int IntKind.i64, Sh.str, Sh.int IntKind.i64, Sh.sl, Sh.sl, Sh.sl] (List.map Fm.d (Fm.l f)) (Int.toNat (↑x : Int)))) ∧
                   PFn Tryd.prog G (20 : Nat) [aggAt [Sh.int IntKind.i64, Sh.str, Sh.int IntKind.i64, Sh.sl, Sh.sl, Sh.sl] (List.map Fm.d (Fm.l f)) (Int.toNat (↑x : Int))]
                    fun (rs : List D) =>
                    ∃ (l : List D),
                     rs = [D.sl l] ∧
                      (List.length (tsN (Fm.ts f) ++ Fm.frees (List.take x (Fm.l f))) = List.length (List.map D.str (tsN (Fm.ts f) ++ Fm.frees (List.take x (Fm.l f)))) ∧
                        (1 : Nat) = (1 : Nat) ∧ FA (List.map D.str (tsN (Fm.ts f) ++ Fm.frees (List.take x (Fm.l f)))) l (nat_lit 1) (nat_lit 16)) ∧
                       ∃ (y : Nat),
                        y ≤ List.length (Fm.l f) ∧
                         List.length (Fm.l f) - y < List.length (Fm.l f) - x ∧
                          (AV.ptr (0 : Nat) (0 : Nat) = AV.ptr (0 : Nat) (0 : Nat) ∧
                            List.map D.str (tsN (Fm.ts f) ++ Fm.frees (List.take x (Fm.l f))) ++ l = List.map D.str (tsN (Fm.ts f) ++ Fm.frees (List.take y (Fm.l f))) ∧
                             IntKind.wrap IntKind.i64 ((↑x : Int) + (1 : Int)) = (↑y : Int) ∧ True) ∧
                           (Fm.kind f = Fm.kind f ∧
                             Fm.name f = Fm.name f ∧
                              Fm.n f = Fm.n f ∧
                               List.map Tm.d (Fm.ts f) = List.map Tm.d (Fm.ts f) ∧
                                List.map Bd.d (Fm.bs f) = List.map Bd.d (Fm.bs f) ∧ List.map Fm.d (Fm.l f) = List.map Fm.d (Fm.l f) ∧ True) ∧
                            List.length (List.map D.str (tsN (Fm.ts f) ++ Fm.frees (List.take x (Fm.l f)))) + List.length l =
                              List.length (tsN (Fm.ts f) ++ Fm.frees (List.take y (Fm.l f))) ∧
                             True) ∧
                 (decide ((↑x : Int) < (↑(List.length (List.map Fm.d (Fm.l f))) : Int)) = false →
                  ∃ (x0 : Nat),
                   x0 ≤ List.length (Fm.bs f) ∧
                    ((AV.ptr (0 : Nat) (0 : Nat) = AV.ptr (0 : Nat) (0 : Nat) ∧
                       List.map D.str (tsN (Fm.ts f) ++ Fm.frees (List.take x (Fm.l f))) = List.map D.str (tsN (Fm.ts f) ++ Fm.frees (List.take x (Fm.l f))) ∧
                        ([] = List.map D.str (List.map (fun (x : Bd) => Bd.name x) (List.take x0 (Fm.bs f))) ∧ List.length ([] : List D) ≤ x0) ∧ (0 : Int) = (↑x0 : Int) ∧ True) ∧
                      (Fm.kind f = Fm.kind f ∧
                        Fm.name f = Fm.name f ∧
                         Fm.n f = Fm.n f ∧
                          List.map Tm.d (Fm.ts f) = List.map Tm.d (Fm.ts f) ∧
                           List.map Bd.d (Fm.bs f) = List.map Bd.d (Fm.bs f) ∧ List.map Fm.d (Fm.l f) = List.map Fm.d (Fm.l f) ∧ True) ∧
                       List.length (tsN (Fm.ts f) ++ Fm.frees (List.take x (Fm.l f))) = List.length (tsN (Fm.ts f) ++ Fm.frees (List.take x (Fm.l f))) ∧ True) ∧
                     ∀ (x_1 : Nat),
                      x_1 ≤ List.length (Fm.bs f) →
                       (decide ((↑x_1 : Int) < (↑(List.length (List.map Bd.d (Fm.bs f))) : Int)) = true →
                         ((0 : Int) ≤ (↑x_1 : Int) ∧
                           (List.map Bd.d (Fm.bs f))[Int.toNat (↑x_1 : Int)]? = some (aggAt [Sh.str, Sh.int IntKind.i64] (List.map Bd.d (Fm.bs f)) (Int.toNat (↑x_1 : Int)))) ∧
                          (x_1 = List.length (List.map D.str (List.map (fun (x : Bd) => Bd.name x) (List.take x_1 (Fm.bs f)))) ∧
                            (1 : Nat) = (1 : Nat) ∧
                             FA (List.map D.str (List.map (fun (x : Bd) => Bd.name x) (List.take x_1 (Fm.bs f))))
                              [D.str (D.toStr (Option.getD (cellAt (List.map Bd.d (Fm.bs f)) (Int.toNat (↑x_1 : Int)) (0 : Nat)) default))] (nat_lit 1) (nat_lit 16)) ∧
                           ∃ (y : Nat),
                            y ≤ List.length (Fm.bs f) ∧
                             List.length (Fm.bs f) - y < List.length (Fm.bs f) - x_1 ∧
                              (AV.ptr (0 : Nat) (0 : Nat) = AV.ptr (0 : Nat) (0 : Nat) ∧
                                List.map D.str (tsN (Fm.ts f) ++ Fm.frees (List.take x (Fm.l f))) = List.map D.str (tsN (Fm.ts f) ++ Fm.frees (List.take x (Fm.l f))) ∧
                                 List.map D.str (List.map (fun (x : Bd) => Bd.name x) (List.take x_1 (Fm.bs f))) ++
                                    List.reverse
                                     [(fun (x : Sh × Nat) =>
                                        match x with
                                        | (sh, j) => Sh.norm sh (Option.getD (cellAt (List.map Bd.d (Fm.bs f)) (Int.toNat (↑x_1 : Int)) j) default))
                                       (Sh.str, (0 : Nat))] =
                                   List.map D.str (List.map (fun (x : Bd) => Bd.name x) (List.take y (Fm.bs f))) ∧
                                  IntKind.wrap IntKind.i64 ((↑x_1 : Int) + (1 : Int)) = (↑y : Int) ∧ True) ∧
                               (Fm.kind f = Fm.kind f ∧
                                 Fm.name f = Fm.name f ∧
                                  Fm.n f = Fm.n f ∧
                                   List.map Tm.d (Fm.ts f) = List.map Tm.d (Fm.ts f) ∧
                                    List.map Bd.d (Fm.bs f) = List.map Bd.d (Fm.bs f) ∧ List.map Fm.d (Fm.l f) = List.map Fm.d (Fm.l f) ∧ True) ∧
                                List.length (tsN (Fm.ts f) ++ Fm.frees (List.take x (Fm.l f))) = List.length (tsN (Fm.ts f) ++ Fm.frees (List.take x (Fm.l f))) ∧
                                 List.length (List.map D.str (List.map (fun (x : Bd) => Bd.name x) (List.take x_1 (Fm.bs f)))) +
                                    List.length
                                     (List.reverse
                                      [(fun (x : Sh × Nat) =>
                                         match x with
                                         | (sh, j) => Sh.norm sh (Option.getD (cellAt (List.map Bd.d (Fm.bs f)) (Int.toNat (↑x_1 : Int)) j) default))
                                        (Sh.str, (0 : Nat))]) =
                                   y ∧
                                  True) ∧
                        (decide ((↑x_1 : Int) < (↑(List.length (List.map Bd.d (Fm.bs f))) : Int)) = false →
                         ∃ (x0 : Nat),
                          x0 ≤ List.length (tsN (Fm.ts f) ++ Fm.frees (Fm.l f)) ∧
                           ((AV.ptr (0 : Nat) (0 : Nat) = AV.ptr (0 : Nat) (0 : Nat) ∧
                              List.map D.str (tsN (Fm.ts f) ++ Fm.frees (List.take x (Fm.l f))) = List.map D.str (tsN (Fm.ts f) ++ Fm.frees (List.take x (Fm.l f))) ∧
                               List.map D.str (List.map (fun (x : Bd) => Bd.name x) (List.take x_1 (Fm.bs f))) =
                                 List.map D.str (List.map (fun (x : Bd) => Bd.name x) (List.take x_1 (Fm.bs f))) ∧
                                ([] =
                                   List.map D.str
                                    (List.foldl (addA (List.map (fun (x : Bd) => Bd.name x) (Fm.bs f))) [] (List.take x0 (tsN (Fm.ts f) ++ Fm.frees (Fm.l f)))) ∧
                                  List.length ([] : List D) ≤
                                   List.length (List.foldl (addA (List.map (fun (x : Bd) => Bd.name x) (Fm.bs f))) [] (List.take x0 (tsN (Fm.ts f) ++ Fm.frees (Fm.l f))))) ∧
                                 (0 : Int) = (↑x0 : Int) ∧ True) ∧
                             (Fm.kind f = Fm.kind f ∧
                               Fm.name f = Fm.name f ∧
                                Fm.n f = Fm.n f ∧
                                 List.map Tm.d (Fm.ts f) = List.map Tm.d (Fm.ts f) ∧
                                  List.map Bd.d (Fm.bs f) = List.map Bd.d (Fm.bs f) ∧ List.map Fm.d (Fm.l f) = List.map Fm.d (Fm.l f) ∧ True) ∧
                              List.length (tsN (Fm.ts f) ++ Fm.frees (List.take x (Fm.l f))) = List.length (tsN (Fm.ts f) ++ Fm.frees (List.take x (Fm.l f))) ∧
                               x_1 = x_1 ∧ True) ∧
                            ∀ (x_2 : Nat),
                             x_2 ≤ List.length (tsN (Fm.ts f) ++ Fm.frees (Fm.l f)) →
                              (decide ((↑x_2 : Int) < (↑(List.length (List.map D.str (tsN (Fm.ts f) ++ Fm.frees (List.take x (Fm.l f))))) : Int)) = true →
                                ((0 : Int) ≤ (↑x_2 : Int) ∧
                                  (List.map D.str (tsN (Fm.ts f) ++ Fm.frees (List.take x (Fm.l f))))[Int.toNat (↑x_2 : Int)]? =
                                   some
                                    (D.str
                                     (D.toStr
                                      (Option.getD (cellAt (List.map D.str (tsN (Fm.ts f) ++ Fm.frees (List.take x (Fm.l f)))) (Int.toNat (↑x_2 : Int)) (0 : Nat))
                                       default)))) ∧
                                 PFn Tryd.prog G (25 : Nat)
                                  [D.sl (List.map D.str (List.map (fun (x : Bd) => Bd.name x) (List.take x_1 (Fm.bs f)))),
                                   D.str
                                    (D.toStr
                                     (Option.getD (cellAt (List.map D.str (tsN (Fm.ts f) ++ Fm.frees (List.take x (Fm.l f)))) (Int.toNat (↑x_2 : Int)) (0 : Nat))
                                      default))]
                                  fun (rs : List D) =>
                                  ∃ (b : Bool),
                                   rs = [D.bool b] ∧
                                    ((!b) = true →
                                      (0 : Int) ≤ (↑x_2 : Int) ∧
                                       (List.map D.str (tsN (Fm.ts f) ++ Fm.frees (List.take x (Fm.l f))))[Int.toNat (↑x_2 : Int)]? =
                                        some
                                         (D.str
                                          (D.toStr
                                           (Option.getD
                                            (cellAt (List.map D.str (tsN (Fm.ts f) ++ Fm.frees (List.take x (Fm.l f)))) (Int.toNat (↑x_2 : Int)) (0 : Nat))
                                            default)))) ∧
                                     PFn Tryd.prog G (25 : Nat)
                                      [D.sl
                                        (List.map D.str
                                         (List.foldl (addA (List.map (fun (x : Bd) => Bd.name x) (Fm.bs f))) [] (List.take x_2 (tsN (Fm.ts f) ++ Fm.frees (Fm.l f))))),
                                       D.str
                                        (D.toStr
                                         (Option.getD (cellAt (List.map D.str (tsN (Fm.ts f) ++ Fm.frees (List.take x (Fm.l f)))) (Int.toNat (↑x_2 : Int)) (0 : Nat))
                                          default))]
                                      fun (rs : List D) =>
                                      ∃ (b_1 : Bool),
                                       rs = [D.bool b_1] ∧
                                        ((bif !b then !b_1 else false) = true →
                                          ((0 : Int) ≤ (↑x_2 : Int) ∧
                                            (List.map D.str (tsN (Fm.ts f) ++ Fm.frees (List.take x (Fm.l f))))[Int.toNat (↑x_2 : Int)]? =
                                             some
                                              (D.str
                                               (D.toStr
                                                (Option.getD
                                                 (cellAt (List.map D.str (tsN (Fm.ts f) ++ Fm.frees (List.take x (Fm.l f)))) (Int.toNat (↑x_2 : Int))
                                                  (0 : Nat))
                                                 default)))) ∧
                                           (List.length
                                               (List.foldl (addA (List.map (fun (x : Bd) => Bd.name x) (Fm.bs f))) []
                                                (List.take x_2 (tsN (Fm.ts f) ++ Fm.frees (Fm.l f)))) =
                                              List.length
                                               (List.map D.str
                                                (List.foldl (addA (List.map (fun (x : Bd) => Bd.name x) (Fm.bs f))) []
                                                 (List.take x_2 (tsN (Fm.ts f) ++ Fm.frees (Fm.l f))))) ∧
                                             (1 : Nat) = (1 : Nat) ∧
                                              FA
                                               (List.map D.str
                                                (List.foldl (addA (List.map (fun (x : Bd) => Bd.name x) (Fm.bs f))) []
                                                 (List.take x_2 (tsN (Fm.ts f) ++ Fm.frees (Fm.l f)))))
                                               [D.str
                                                 (D.toStr
                                                  (Option.getD
                                                   (cellAt (List.map D.str (tsN (Fm.ts f) ++ Fm.frees (List.take x (Fm.l f)))) (Int.toNat (↑x_2 : Int))
                                                    (0 : Nat))
                                                   default))]
                                               (nat_lit 1) (nat_lit 16)) ∧
                                            ∃ (y : Nat),
                                             y ≤ List.length (tsN (Fm.ts f) ++ Fm.frees (Fm.l f)) ∧
                                              List.length (tsN (Fm.ts f) ++ Fm.frees (Fm.l f)) - y < List.length (tsN (Fm.ts f) ++ Fm.frees (Fm.l f)) - x_2 ∧
                                               (AV.ptr (0 : Nat) (0 : Nat) = AV.ptr (0 : Nat) (0 : Nat) ∧
                                                 List.map D.str (tsN (Fm.ts f) ++ Fm.frees (List.take x (Fm.l f))) =
                                                   List.map D.str (tsN (Fm.ts f) ++ Fm.frees (List.take x (Fm.l f))) ∧
                                                  List.map D.str (List.map (fun (x : Bd) => Bd.name x) (List.take x_1 (Fm.bs f))) =
                                                    List.map D.str (List.map (fun (x : Bd) => Bd.name x) (List.take x_1 (Fm.bs f))) ∧
                                                   List.map D.str
                                                       (List.foldl (addA (List.map (fun (x : Bd) => Bd.name x) (Fm.bs f))) []
                                                        (List.take x_2 (tsN (Fm.ts f) ++ Fm.frees (Fm.l f)))) ++
                                                      List.reverse
                                                       [(fun (x_3 : Sh × Nat) =>
                                                          match x_3 with
                                                          | (sh, j) =>
                                                           Sh.norm sh
                                                            (Option.getD
                                                             (cellAt (List.map D.str (tsN (Fm.ts f) ++ Fm.frees (List.take x (Fm.l f))))
                                                              (Int.toNat (↑x_2 : Int)) j)
                                                             default))
                                                         (Sh.str, (0 : Nat))] =
                                                     List.map D.str
                                                      (List.foldl (addA (List.map (fun (x : Bd) => Bd.name x) (Fm.bs f))) []
                                                       (List.take y (tsN (Fm.ts f) ++ Fm.frees (Fm.l f)))) ∧
                                                    IntKind.wrap IntKind.i64 ((↑x_2 : Int) + (1 : Int)) = (↑y : Int) ∧ True) ∧
                                                (Fm.kind f = Fm.kind f ∧
                                                  Fm.name f = Fm.name f ∧
                                                   Fm.n f = Fm.n f ∧
                                                    List.map Tm.d (Fm.ts f) = List.map Tm.d (Fm.ts f) ∧
                                                     List.map Bd.d (Fm.bs f) = List.map Bd.d (Fm.bs f) ∧
                                                      List.map Fm.d (Fm.l f) = List.map Fm.d (Fm.l f) ∧ True) ∧
                                                 List.length (tsN (Fm.ts f) ++ Fm.frees (List.take x (Fm.l f))) =
                                                   List.length (tsN (Fm.ts f) ++ Fm.frees (List.take x (Fm.l f))) ∧
                                                  x_1 = x_1 ∧
                                                   List.length
                                                       (List.map D.str
                                                        (List.foldl (addA (List.map (fun (x : Bd) => Bd.name x) (Fm.bs f))) []
                                                         (List.take x_2 (tsN (Fm.ts f) ++ Fm.frees (Fm.l f))))) +
                                                      List.length
                                                       (List.reverse
                                                        [(fun (x_3 : Sh × Nat) =>
                                                           match x_3 with
                                                           | (sh, j) =>
                                                            Sh.norm sh
                                                             (Option.getD
                                                              (cellAt (List.map D.str (tsN (Fm.ts f) ++ Fm.frees (List.take x (Fm.l f))))
                                                               (Int.toNat (↑x_2 : Int)) j)
                                                              default))
                                                          (Sh.str, (0 : Nat))]) =
                                                     List.length
                                                      (List.foldl (addA (List.map (fun (x : Bd) => Bd.name x) (Fm.bs f))) []
                                                       (List.take y (tsN (Fm.ts f) ++ Fm.frees (Fm.l f)))) ∧
                                                    True) ∧
                                         ((bif !b then !b_1 else false) = false →
                                          ∃ (y : Nat),
                                           y ≤ List.length (tsN (Fm.ts f) ++ Fm.frees (Fm.l f)) ∧
                                            List.length (tsN (Fm.ts f) ++ Fm.frees (Fm.l f)) - y < List.length (tsN (Fm.ts f) ++ Fm.frees (Fm.l f)) - x_2 ∧
                                             (AV.ptr (0 : Nat) (0 : Nat) = AV.ptr (0 : Nat) (0 : Nat) ∧
                                               List.map D.str (tsN (Fm.ts f) ++ Fm.frees (List.take x (Fm.l f))) =
                                                 List.map D.str (tsN (Fm.ts f) ++ Fm.frees (List.take x (Fm.l f))) ∧
                                                List.map D.str (List.map (fun (x : Bd) => Bd.name x) (List.take x_1 (Fm.bs f))) =
                                                  List.map D.str (List.map (fun (x : Bd) => Bd.name x) (List.take x_1 (Fm.bs f))) ∧
                                                 List.map D.str
                                                    (List.foldl (addA (List.map (fun (x : Bd) => Bd.name x) (Fm.bs f))) []
                                                     (List.take x_2 (tsN (Fm.ts f) ++ Fm.frees (Fm.l f)))) =
                                                   List.map D.str
                                                    (List.foldl (addA (List.map (fun (x : Bd) => Bd.name x) (Fm.bs f))) []
                                                     (List.take y (tsN (Fm.ts f) ++ Fm.frees (Fm.l f)))) ∧
                                                  IntKind.wrap IntKind.i64 ((↑x_2 : Int) + (1 : Int)) = (↑y : Int) ∧ True) ∧
                                              (Fm.kind f = Fm.kind f ∧
                                                Fm.name f = Fm.name f ∧
                                                 Fm.n f = Fm.n f ∧
                                                  List.map Tm.d (Fm.ts f) = List.map Tm.d (Fm.ts f) ∧
                                                   List.map Bd.d (Fm.bs f) = List.map Bd.d (Fm.bs f) ∧
                                                    List.map Fm.d (Fm.l f) = List.map Fm.d (Fm.l f) ∧ True) ∧
                                               List.length (tsN (Fm.ts f) ++ Fm.frees (List.take x (Fm.l f))) =
                                                 List.length (tsN (Fm.ts f) ++ Fm.frees (List.take x (Fm.l f))) ∧
                                                x_1 = x_1 ∧
                                                 List.length
                                                    (List.foldl (addA (List.map (fun (x : Bd) => Bd.name x) (Fm.bs f))) []
                                                     (List.take x_2 (tsN (Fm.ts f) ++ Fm.frees (Fm.l f)))) =
                                                   List.length
                                                    (List.foldl (addA (List.map (fun (x : Bd) => Bd.name x) (Fm.bs f))) []
                                                     (List.take y (tsN (Fm.ts f) ++ Fm.frees (Fm.l f)))) ∧
                                                  True)) ∧
                               (decide ((↑x_2 : Int) < (↑(List.length (List.map D.str (tsN (Fm.ts f) ++ Fm.frees (List.take x (Fm.l f))))) : Int)) = false →
                                [D.sl
                                   (List.map D.str
                                    (List.foldl (addA (List.map (fun (x : Bd) => Bd.name x) (Fm.bs f))) [] (List.take x_2 (tsN (Fm.ts f) ++ Fm.frees (Fm.l f)))))] =
                                 [D.sl (List.map D.str (Fm.free f))])))))
  · kernel_rfl
  have hw := f.wt_eq
  have hwl := wts_len f.l
  have htl := tsN_len f.ts
  have hfl := frees_len f.l
  refine ⟨0, Nat.zero_le _, ⟨⟨rfl, ⟨by simp [tsN], by simp⟩, rfl, trivial⟩, ⟨rfl, rfl, rfl, rfl, rfl, rfl, trivial⟩, trivial⟩, fun i hi => ⟨fun hlt => ?_, fun hge => ?_⟩⟩
  · simp only [List.length_map, decide_eq_true_eq] at hlt
    obtain ⟨z, hz, hm⟩ := get_nat (l := f.ts) (x := i) (by omega)
    dsimp only
    rw [Int.toNat_natCast, agg_tm hz, cell_tm0 hz, cell_tm1 hz]
    have e1 : Sh.norm Sh.str (Option.getD (some (D.str z.name)) default) = .str z.name := rfl
    have e2 : D.toStr (Option.getD (some (D.str z.name)) default) = z.name := rfl
    have e3 : D.toInt (Option.getD (some (D.int IntKind.i64 z.kind)) default) = z.kind := rfl
    rw [e1, e2, e3]
    have hnx := tsN_take_succ hz
    have h1 := tsN_len (f.ts.take i)
    rw [List.length_take] at h1
    refine ⟨⟨by omega, by simp [hz]⟩, fun hk => ⟨⟨by omega, by simp [hz]⟩, ⟨by simp, rfl, ?_, ?_⟩, i + 1, by omega, by omega, ⟨rfl, ?_, ?_, trivial⟩, ⟨rfl, rfl, rfl, rfl, rfl, rfl, trivial⟩, ?_, trivial⟩,
      fun hk => ⟨i + 1, by omega, by omega, ⟨rfl, ?_, ?_, trivial⟩, ⟨rfl, rfl, rfl, rfl, rfl, rfl, trivial⟩, ?_, trivial⟩⟩
    · simp [D.cells]
    · simp; omega
    · rw [hnx, hk]; simp
    · rw [wrap64 (by omega) (by omega)]; simp
    · rw [hnx, hk]; simp
    · rw [hnx, hk]; simp
    · rw [wrap64 (by omega) (by omega)]; simp
    · rw [hnx, hk]; simp
  simp only [List.length_map, decide_eq_false_iff_not] at hge
  rw [List.take_of_length_le (by omega : f.ts.length ≤ i)]
  refine ⟨0, Nat.zero_le _, ⟨⟨rfl, by simp [Fm.frees], rfl, trivial⟩, ⟨rfl, rfl, rfl, rfl, rfl, rfl, trivial⟩, by simp [Fm.frees], trivial⟩, fun j hj => ⟨fun hlt => ?_, fun hge2 => ?_⟩⟩
  · simp only [List.length_map, decide_eq_true_eq] at hlt
    obtain ⟨z, hz, hm⟩ := get_nat (l := f.l) (x := j) (by omega)
    rw [Int.toNat_natCast, agg_fm hz]
    refine ⟨⟨by omega, by simp [hz]⟩, ?_⟩
    have hzw := Fm.wt_lt hm
    refine (ih z hm (by omega)).mono ?_
    rintro rs rfl
    have hnx := frees_take_succ hz
    have h1 := frees_len (f.l.take (j + 1))
    have h2 := wtsTake f.l (j + 1)
    rw [hnx, List.length_append] at h1
    refine ⟨_, rfl, ⟨by simp, rfl, ?_, ?_⟩, j + 1, by omega, by omega, ⟨rfl, ?_, ?_, trivial⟩, ⟨rfl, rfl, rfl, rfl, rfl, rfl, trivial⟩, ?_, trivial⟩
    · have := cells_str (tsN f.ts ++ Fm.frees (f.l.take j) ++ z.free)
      simpa using this
    · simp; omega
    · rw [hnx]; simp
    · rw [wrap64 (by omega) (by omega)]; simp
    · rw [hnx]; simp; omega
  simp only [List.length_map, decide_eq_false_iff_not] at hge2
  rw [List.take_of_length_le (by omega : f.l.length ≤ j)]
  refine ⟨0, Nat.zero_le _, ⟨⟨rfl, rfl, ⟨by simp, by simp⟩, rfl, trivial⟩, ⟨rfl, rfl, rfl, rfl, rfl, rfl, trivial⟩, rfl, trivial⟩, fun k hk => ⟨fun hlt => ?_, fun hge3 => ?_⟩⟩
  · simp only [List.length_map, decide_eq_true_eq] at hlt
    obtain ⟨z, hz, hm⟩ := get_nat (l := f.bs) (x := k) (by omega)
    dsimp only
    rw [Int.toNat_natCast, agg_bd hz, cell_bd0 hz]
    have e1 : Sh.norm Sh.str (Option.getD (some (D.str z.name)) default) = .str z.name := rfl
    have e2 : D.toStr (Option.getD (some (D.str z.name)) default) = z.name := rfl
    rw [e1, e2]
    refine ⟨⟨by omega, by simp [hz]⟩, ⟨by simp; omega, rfl, ?_, ?_⟩, k + 1, by omega, by omega, ⟨rfl, rfl, ?_, ?_, trivial⟩, ⟨rfl, rfl, rfl, rfl, rfl, rfl, trivial⟩, rfl, ?_, trivial⟩
    · have := cells_str ((f.bs.take k).map (·.name) ++ [z.name])
      simpa using this
    · simp; omega
    · rw [List.take_add_one, hz]; simp
    · rw [wrap64 (by omega) (by omega)]; simp
    · simp; omega
  simp only [List.length_map, decide_eq_false_iff_not] at hge3
  rw [List.take_of_length_le (by omega : f.bs.length ≤ k)]
  generalize hall : tsN f.ts ++ Fm.frees f.l = all at *
  have hal : all.length ≤ f.wt := by rw [← hall, List.length_append]; omega
  refine ⟨0, Nat.zero_le _, ⟨⟨rfl, rfl, rfl, ⟨by simp, by simp⟩, rfl, trivial⟩, ⟨rfl, rfl, rfl, rfl, rfl, rfl, trivial⟩, rfl, rfl, trivial⟩, fun m hm => ⟨fun hlt => ?_, fun hge4 => ?_⟩⟩
  · simp only [List.length_map, decide_eq_true_eq] at hlt
    obtain ⟨z, hz, hmz⟩ := get_nat (l := all) (x := m) (by omega)
    dsimp only
    rw [Int.toNat_natCast, cell_str hz]
    have e1 : Sh.norm Sh.str (Option.getD (some (D.str z)) default) = .str z := rfl
    have e2 : D.toStr (Option.getD (some (D.str z)) default) = z := rfl
    rw [e1, e2]
    have hget : (List.map D.str all)[m]? = some (D.str z) := by simp [hz]
    have hol := addA_len (f.bs.map (·.name)) (all.take m) []
    rw [List.length_take, List.length_nil] at hol
    have hnx : (all.take (m + 1)).foldl (addA (f.bs.map (·.name))) [] = addA (f.bs.map (·.name)) ((all.take m).foldl (addA (f.bs.map (·.name))) []) z := by
      rw [List.take_add_one, hz]; simp [List.foldl_append]
    refine ⟨⟨by omega, hget⟩, ?_⟩
    refine (fn25 (f.bs.map (·.name)) z (by simp; omega)).mono ?_
    rintro rs rfl
    refine ⟨_, rfl, fun _ => ⟨by omega, hget⟩, ?_⟩
    refine (fn25 _ z (by omega)).mono ?_
    rintro rs rfl
    refine ⟨_, rfl, ?_⟩
    rw [bif_and]
    refine ⟨fun hyes => ⟨⟨by omega, hget⟩, ⟨by simp, rfl, ?_, ?_⟩, m + 1, by omega, by omega, ⟨rfl, rfl, rfl, ?_, ?_, trivial⟩, ⟨rfl, rfl, rfl, rfl, rfl, rfl, trivial⟩, rfl, rfl, ?_, trivial⟩,
      fun hno => ⟨m + 1, by omega, by omega, ⟨rfl, rfl, rfl, ?_, ?_, trivial⟩, ⟨rfl, rfl, rfl, rfl, rfl, rfl, trivial⟩, rfl, rfl, ?_, trivial⟩⟩
    · have := cells_str ((all.take m).foldl (addA (f.bs.map (·.name))) [] ++ [z])
      simpa using this
    · simp; omega
    · rw [hnx, addA_pos hyes]; simp
    · rw [wrap64 (by omega) (by omega)]; simp
    · rw [hnx, addA_pos hyes]; simp
    · rw [hnx, addA_neg hno]
    · rw [wrap64 (by omega) (by omega)]; simp
    · rw [hnx, addA_neg hno]
  · simp only [List.length_map, decide_eq_false_iff_not] at hge4
    rw [List.take_of_length_le (by omega), f.free_eq, hall]
end
end Go.Fo
