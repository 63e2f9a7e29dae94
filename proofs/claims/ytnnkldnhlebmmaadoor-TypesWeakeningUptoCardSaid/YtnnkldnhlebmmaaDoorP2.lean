/- Joined texts: the walk by computed conditions, the contracts of the functions, the plain laws. -/
import Derived.Test.YtnnkldnhlebmmaaDoorP1
import Derived.Deep.LoopGhost
import Derived.Laws.Cover3
import Derived.RangeFuncRecord
import Derived.Below
import Derived.Test.YtnnkldnhlebmmaaDoorProg
set_option linter.unusedVariables false
set_option linter.unusedSimpArgs false
/- Regions that draw their order: definitions, and what the bits of the edges say. -/
namespace Go.Sx
open Go

def maskStep (acc : List Nat) (o : Oper) : Nat :=
  o.after.toList.foldl (fun s e => if Region.binds .any e then (s ||| 2 ^ e.on) ||| acc.getD e.on 0 else s) 0

def masksFrom : List Oper → List Nat → List Nat
  | [], acc => acc
  | o :: r, acc => masksFrom r (acc ++ [maskStep acc o])

/-- For each operation the operations that the edges put before it, as bits. -/
def masks (ops : Array Oper) : List Nat := masksFrom ops.toList []

def bit (ops : Array Oper) (j i : Nat) : Bool := ((masks ops).getD j 0).testBit i

theorem maskStep_bit {acc : List Nat} {o : Oper} {i : Nat} (h : (maskStep acc o).testBit i = true) : ∃ e ∈ o.after.toList, Region.binds .any e = true ∧ (i = e.on ∨ (acc.getD e.on 0).testBit i = true) := by
  unfold maskStep at h
  have key : ∀ (es : List Edge) (s : Nat), (es.foldl (fun s e => if Region.binds .any e then (s ||| 2 ^ e.on) ||| acc.getD e.on 0 else s) s).testBit i = true →
      s.testBit i = true ∨ ∃ e ∈ es, Region.binds .any e = true ∧ (i = e.on ∨ (acc.getD e.on 0).testBit i = true) := by
    intro es
    induction es with
    | nil => intro s h; exact .inl h
    | cons e es ih =>
      intro s h
      simp only [List.foldl_cons] at h
      rcases ih _ h with h1 | ⟨e', he', h2⟩
      · split at h1
        · rename_i hb
          rw [Nat.testBit_or, Nat.testBit_or, Bool.or_eq_true, Bool.or_eq_true] at h1
          rcases h1 with (h1 | h1) | h1
          · exact .inl h1
          · right
            refine ⟨e, by simp, hb, .inl ?_⟩
            rw [Nat.testBit_two_pow] at h1
            simpa using (of_decide_eq_true h1).symm
          · exact .inr ⟨e, by simp, hb, .inr h1⟩
        · exact .inl h1
      · exact .inr ⟨e', by simp [he'], h2⟩
  rcases key _ 0 h with h1 | h1
  · simp at h1
  · exact h1

theorem masksFrom_get : ∀ (l : List Oper) (acc : List Nat) (j : Nat), (masksFrom l acc).length = acc.length + l.length ∧ (j < acc.length → (masksFrom l acc)[j]? = acc[j]?) ∧
    (∀ o, acc.length ≤ j → l[j - acc.length]? = some o → (masksFrom l acc)[j]? = some (maskStep ((masksFrom l acc).take j) o))
  | [], acc, j => by simp [masksFrom]
  | o :: l, acc, j => by
    obtain ⟨h1, h2, h3⟩ := masksFrom_get l (acc ++ [maskStep acc o]) j
    simp only [masksFrom]
    refine ⟨by rw [h1]; simp; omega, fun hj => ?_, fun p hj hp => ?_⟩
    · rw [h2 (by simp; omega), List.getElem?_append_left hj]
    · by_cases he : j = acc.length
      · subst he
        simp at hp
        subst hp
        have e1 := h2 (by simp)
        rw [e1]
        have htake : (masksFrom l (acc ++ [maskStep acc o])).take acc.length = acc := by
          apply List.ext_getElem?
          intro i
          by_cases hi : i < acc.length
          · rw [List.getElem?_take, if_pos hi, (masksFrom_get l (acc ++ [maskStep acc o]) i).2.1 (by simp; omega), List.getElem?_append_left hi]
          · rw [List.getElem?_take, if_neg hi, List.getElem?_eq_none (by omega)]
        rw [htake]
        simp
      · have : j - acc.length = (j - (acc ++ [maskStep acc o]).length) + 1 := by simp; omega
        rw [this] at hp
        simp only [List.getElem?_cons_succ] at hp
        exact h3 p (by simp; omega) hp

theorem bit_edge {ops : Array Oper} {j i : Nat} {o : Oper} (ho : ops[j]? = some o) (h : bit ops j i = true) : ∃ e ∈ o.after.toList, Region.binds .any e = true ∧ (i = e.on ∨ (e.on < j ∧ bit ops e.on i = true)) := by
  have ho' : ops.toList[j]? = some o := by simpa using ho
  have hg := (masksFrom_get ops.toList [] j).2.2 o (by simp) (by simpa using ho')
  unfold bit at h
  rw [List.getD_eq_getElem?_getD] at h
  unfold masks at h
  rw [hg] at h
  simp only [Option.getD_some] at h
  obtain ⟨e, he, hb, h1⟩ := maskStep_bit h
  refine ⟨e, he, hb, ?_⟩
  rcases h1 with h1 | h1
  · exact .inl h1
  · right
    rw [List.getD_eq_getElem?_getD, List.getElem?_take] at h1
    split at h1
    · rename_i hlt
      exact ⟨hlt, by unfold bit masks; rw [List.getD_eq_getElem?_getD]; exact h1⟩
    · simp at h1

/-- What is listed holds all that stands before it. -/
def Closed (ops : Array Oper) (listed : Array Bool) : Prop := ∀ j i, listed.getD j false = true → bit ops j i = true → listed.getD i false = true

theorem ready_bits {ops : Array Oper} {listed : Array Bool} {j : Nat} {o : Oper} (hc : Closed ops listed) (ho : ops[j]? = some o) (hr : j ∈ Region.ready .any ops listed) : ∀ i, bit ops j i = true → listed.getD i false = true := by
  intro i hi
  simp only [Region.ready, List.mem_filter, ho, Option.map_some, Option.getD_some, Bool.and_eq_true] at hr
  obtain ⟨e, he, hb, h1⟩ := bit_edge ho hi
  have he' : e ∈ o.after := by simpa using he
  have h2 := (Array.all_eq_true_iff_forall_mem.1 hr.2.2) e he'
  simp only [hb, Bool.not_true, Bool.false_or] at h2
  rcases h1 with rfl | ⟨_, h1⟩
  · exact h2
  · exact hc _ _ h2 h1

theorem Closed.add {ops : Array Oper} {listed : Array Bool} {j : Nat} {o : Oper} (hc : Closed ops listed) (ho : ops[j]? = some o) (hr : j ∈ Region.ready .any ops listed) : Closed ops (listed.setIfInBounds j true) := by
  have hup : ∀ i, listed.getD i false = true → (listed.setIfInBounds j true).getD i false = true := by
    intro i hi
    rw [Array.getD_eq_getD_getElem?] at hi ⊢
    rw [Array.getElem?_setIfInBounds]
    split
    · split <;> simp_all
    · exact hi
  intro k i hk hb
  by_cases e : k = j
  · subst e; exact hup i (ready_bits hc ho hr i hb)
  · have : listed.getD k false = true := by
      rw [Array.getD_eq_getD_getElem?] at hk ⊢
      rw [Array.getElem?_setIfInBounds] at hk
      rw [if_neg (fun h => e h.symm)] at hk
      exact hk
    exact hup i (hc k i this hb)

def isCallV : Op → Bool
  | .call { callee := .value _, .. } => true
  | _ => false

def isAllocO : Op → Bool
  | .alloc _ => true
  | _ => false

def isTail : Op → Bool
  | .store _ _ _ => true
  | .mapUpdate _ _ _ _ => true
  | .insert _ _ _ _ => true
  | .box _ _ => true
  | .makeMap _ _ => true
  | .call { callee := .builtin .append, .. } => true
  | _ => false

def headN (ops : Array Oper) : Nat := ops.toList.findIdx fun o => isTail o.op

def opAt (ops : Array Oper) (i : Nat) : Oper := ops.getD i default

/-- The slots that an operation may look at: what is set by operations before it, and what no operation of the region sets. -/
def hideFrom (m : Nat) : List Oper → Nat → List AV → List AV
  | [], _, tm => tm
  | o :: r, k, tm =>
    let tm' := hideFrom m r (k + 1) tm
    match o.dst with
    | some d => if m.testBit k && !isAllocO o.op then tm' else tm'.set d .any
    | none => tm'

def hide (ops : Array Oper) (j : Nat) (tm : List AV) : List AV := hideFrom ((masks ops).getD j 0) ops.toList 0 tm

def setN (tm : List AV) (d : Option Nat) (a : AV) : List AV :=
  match d with
  | some d => tm.set d a
  | none => tm

/-- The order of evaluation: whatever hangs on no call first, then the first call, and so on. -/
def eager (ops : Array Oper) : Nat → List Nat → List Nat → List Nat
  | 0, _, done => done
  | n + 1, todo, done =>
    match todo.find? fun i => !isCallV (opAt ops i).op && (todo.all fun k => !bit ops i k) with
    | some i => eager ops n (todo.erase i) (done ++ [i])
    | none => match todo.find? fun i => (todo.all fun k => !bit ops i k) with
      | some i => eager ops n (todo.erase i) (done ++ [i])
      | none => done

def heads (ops : Array Oper) : List Nat := (List.range (headN ops)).filter fun i => !isAllocO (opAt ops i).op

def ordOf (ops : Array Oper) : List Nat := eager ops (headN ops) (heads ops) []

def nodupB : List Nat → Bool
  | [] => true
  | x :: r => !r.contains x && nodupB r

def ordOk (ops : Array Oper) (hs : List Nat) : List Nat → List Nat → Bool
  | [], done => hs.all fun i => done.contains i
  | i :: r, done => hs.contains i && !done.contains i && (hs.all fun k => !bit ops i k || done.contains k) &&
      (!isCallV (opAt ops i).op || r.all fun k => bit ops k i) && ordOk ops hs r (done ++ [i])

def drawOk (ops : Array Oper) : Bool :=
  nodupB (ops.toList.filterMap (·.dst)) &&
  ((List.range ops.size).all fun j => (opAt ops j).after.toList.all fun e => !Region.binds .any e || decide (e.on < j)) &&
  ((List.range ops.size).all fun j => decide (j < headN ops) || (List.range j).all fun i => bit ops j i) &&
  ((List.range (headN ops)).all fun j => !isAllocO (opAt ops j).op || ((opAt ops j).guard.isNone && (opAt ops j).dst.isSome)) &&
  ordOk ops (heads ops) (ordOf ops) []
end Go.Sx
/- Regions that draw their order: what is to be shown; single steps. -/
namespace Go.Sx
open Go

def stepD (P : Program) (G : Nat → Option (List D)) (ops : Array Oper) (i : Nat) (tv : List AV) (H : List Box) (K : AV → AV → List Box → Prop) : Prop :=
  match (opAt ops i).guard with
  | none => opW P G (opAt ops i) [] True tv H fun av H' => K av (dull av) H'
  | some (j, p) =>
    match (ops[j]?).bind (·.dst) with
    | some g =>
      if (opAt ops i).dst = some g then False else
      match chain 9 tv g p with
      | some (tags, C) => opW P G (opAt ops i) tags C tv H fun av H' => K av (.opt g p (dull av)) H'
      | none => False
    | none => False

def ordW (P : Program) (G : Nat → Option (List D)) (ops : Array Oper) : List Nat → List AV → List Box → (List AV → Prop) → Prop
  | [], tm, _, K => K tm
  | i :: r, tm, H, K => stepD P G ops i (hide ops i tm) H fun _ a _ => ordW P G ops r (setN tm (opAt ops i).dst a) H K

def adoptFrom (P : Program) (ops : Array Oper) : List Nat → List AV → List Box → (List AV → List Box → Prop) → Prop
  | [], tm, H, K => K tm H
  | i :: r, tm, H, K =>
    match (opAt ops i).op with
    | .alloc T => match zeroV P T with
      | some z => adoptFrom P ops r (setN tm (opAt ops i).dst (.ptr H.length 0)) (H ++ [.cells T (z.cells.toList.map zeroCell)]) K
      | none => False
    | _ => False

def allocsOf (ops : Array Oper) : List Nat := (List.range (headN ops)).filter fun i => isAllocO (opAt ops i).op

def noOptB : AV → Bool
  | .opt _ _ _ => false
  | _ => true

def drawW (P : Program) (G : Nat → Option (List D)) (ops : Array Oper) (tm : List AV) (H : List Box) (K : List AV → List Box → Prop) : Prop :=
  if drawOk ops && tm.all noOptB && (ops.toList.all fun o => match o.dst with | some d => decide (d < tm.length) | none => true) && (ops.toList.all fun o => match o.op with | .alloc T => (zeroV P T).isSome | _ => true) then
    ordW P G ops (ordOf ops) tm H fun tm1 => adoptFrom P ops (allocsOf ops) (clearOpt tm1) H fun tm2 H2 => opsW P G ops (ops.toList.drop (headN ops)) tm2 H2 K
  else False

section
variable {P : Program} {G : Nat → Option (List D)} {nb : Nat} {rd : Option Nat} {c : Cx} {H : List Box} {w : World} {tm : List AV} {a : Act} {ops : Array Oper}

theorem hopF_head {e : Operand → AV} {o : Op} (h1 : isTail o = false) (h2 : isAllocO o = false) : hopF P e H o = none := by
  cases o with
  | call cc =>
    obtain ⟨callee, args, types⟩ := cc
    cases callee with
    | builtin b => cases b <;> first | rfl | (simp [isTail] at h1)
    | _ => rfl
  | _ => first | rfl | (simp [isTail] at h1; done) | (simp [isAllocO] at h2; done)

theorem exTys_mono : ∀ (l : List TypeId) (K1 K2 : List D → Prop), (∀ ds, K1 ds → K2 ds) → exTys P l K1 → exTys P l K2 := by
  have kS : ∀ (s : Sh) (K1 K2 : D → Prop), (∀ d, K1 d → K2 d) → exSh s K1 → exSh s K2 := by
    intro s K1 K2 hk h
    cases s <;> (obtain ⟨x, hx⟩ := h; exact ⟨x, hk _ hx⟩)
  have kSs : ∀ (l : List Sh) (K1 K2 : List D → Prop), (∀ d, K1 d → K2 d) → exShs l K1 → exShs l K2 := by
    intro l
    induction l with
    | nil => intro K1 K2 hk h; exact hk _ h
    | cons s l ih => intro K1 K2 hk h; exact kS s _ _ (fun d hd => ih _ _ (fun ds hds => hk _ hds) hd) h
  intro l
  induction l with
  | nil => intro K1 K2 hk h; exact hk _ h
  | cons T l ih =>
    intro K1 K2 hk h
    simp only [exTys, exTy] at h ⊢
    split at h
    · exact kSs _ _ _ (fun cs hcs => ih _ _ (fun ds hds => hk _ hds) hcs) h
    · exact h.elim

/-- The ways of an operation of a head: a value, or a call. -/
theorem opW_ways {o : Oper} {tags : List (Nat × Bool)} {C : Prop} {K : AV → List Box → Prop} (h1 : isTail o.op = false) (h2 : isAllocO o.op = false) (h : opW P G o tags C tm H K) :
    (∃ av, K av H ∧ ∀ K2 : AV → List Box → Prop, K2 av H → opW P G o tags C tm H K2) ∨
    (isCallV o.op = true ∧ ∀ K2 : AV → List Box → Prop, (∀ av, K av H → K2 av H) → opW P G o tags C tm H K2) := by
  unfold opW at h
  split at h
  · rename_i g x y hop
    split at h
    · rename_i t p q hg hx hy
      refine .inl ⟨_, h, fun K2 hk => ?_⟩
      unfold opW
      rw [hop]
      simp only [hg, hx, hy]
      exact hk
    · exact h.elim
  · rename_i f args types hop
    right
    refine ⟨by rw [hop]; rfl, fun K2 hk => ?_⟩
    unfold opW
    rw [hop]
    split at h
    · rename_i k fi ca hcal
      simp only [hcal]
      split at h
      · rename_i hok
        rw [if_pos hok]
        split at h
        · rename_i ds hds
          exact h.mono fun rs hrs => exTys_mono _ _ _ (fun ds hd => ⟨hd.1, hk _ hd.2⟩) hrs
        · unfold pureW at h ⊢
          split at h
          · rename_i hsee
            rw [if_pos hsee]
            exact h.mono fun rs H' hrs => ⟨hrs.1, exTys_mono _ _ _ (fun ds hd => ⟨hd.1, hk _ hd.2⟩) hrs.2⟩
          · exact h.elim
      · exact h.elim
    · exact h.elim
  · rename_i op hp hc
    left
    have e : ∀ K2 : AV → List Box → Prop, opW P G o tags C tm H K2 = restW P (ev G (getT tags tm)) H o.op tags C K2 := by
      intro K2
      unfold opW
      split
      · rename_i h3; exact absurd h3 (hp _ _ _)
      · rename_i h3; exact absurd h3 (hc _ _ _)
      · rfl
    unfold restW at h
    cases hf : opF P (ev G (getT tags tm)) H o.op with
    | none =>
      rw [hf] at h
      simp only [hopF_head h1 h2] at h
      cases tags <;> exact h.elim
    | some q =>
      obtain ⟨av, F⟩ := q
      rw [hf] at h
      simp only at h
      cases htr : triv (ev G (getT tags tm)) o.op with
      | true =>
        rw [htr] at h
        refine ⟨av, by simpa using h, fun K2 hk => ?_⟩
        rw [e]
        unfold restW
        rw [hf]
        simp only [htr, if_true]
        exact hk
      | false =>
        rw [htr] at h
        simp only [Bool.false_eq_true, if_false] at h
        have h3 : K av H := by cases tags <;> exact h.2
        refine ⟨av, h3, fun K2 hk => ?_⟩
        rw [e]
        unfold restW
        rw [hf]
        simp only [htr, Bool.false_eq_true, if_false]
        cases tags <;> exact ⟨h.1, hk⟩

/-- Of an operation of a head nothing is said on boxes: they stay. -/
theorem opW_same {o : Oper} {tags : List (Nat × Bool)} {C : Prop} {K : AV → List Box → Prop} (h1 : isTail o.op = false) (h2 : isAllocO o.op = false) (h : opW P G o tags C tm H K) : opW P G o tags C tm H fun av H' => H' = H ∧ K av H' := by
  rcases opW_ways h1 h2 h with ⟨av, h3, h4⟩ | ⟨_, h4⟩
  · exact h4 _ ⟨rfl, h3⟩
  · exact h4 _ fun av h => ⟨rfl, h⟩

theorem stepD_one {i : Nat} {tv : List AV} {K : AV → AV → List Box → Prop} (h0 : isCallV (opAt ops i).op = false) (h1 : isTail (opAt ops i).op = false) (h2 : isAllocO (opAt ops i).op = false) (h : stepD P G ops i tv H K) :
    ∃ av a', K av a' H ∧ stepD P G ops i tv H fun _ a2 H2 => H2 = H ∧ a2 = a' := by
  unfold stepD at h
  split at h
  · rename_i hg
    rcases opW_ways h1 h2 h with ⟨av, h3, h4⟩ | ⟨h4, _⟩
    · refine ⟨av, dull av, h3, ?_⟩
      unfold stepD
      rw [hg]
      exact h4 _ ⟨rfl, rfl⟩
    · rw [h0] at h4; cases h4
  · rename_i j p hg
    split at h
    · rename_i g hgd
      split at h
      · exact h.elim
      · rename_i hne
        split at h
        · rename_i tags C hch
          rcases opW_ways h1 h2 h with ⟨av, h3, h4⟩ | ⟨h4, _⟩
          · refine ⟨av, .opt g p (dull av), h3, ?_⟩
            unfold stepD
            rw [hg]
            simp only [hgd, if_neg hne, hch]
            exact h4 _ ⟨rfl, rfl⟩
          · rw [h0] at h4; cases h4
        · exact h.elim
    · exact h.elim

/-- The step, run: whatever its guard. -/
theorem stepD_sound {i : Nat} {o : Oper} {tv : List AV} {K : AV → AV → List Box → Prop} {Q : Exit → Act → World → Prop} {next : Act → World → Prop} (ho : ops[i]? = some o) (hR : Rep G nb c H w tv a) (h1 : isTail o.op = false) (h2 : isAllocO o.op = false)
    (h : stepD P G ops i tv H K)
    (hn : ∀ v w' c' av a', K av a' H → Ext c w c' w' → Keep c H c' H → HR c' H w' → SlotR c' H w' (a.put o.dst v).tmps a' v → next (a.put o.dst v) w') :
    wpOpIn (Fen rd) 0 P ops Q i next a w := by
  have hoa : opAt ops i = o := by simp [opAt, Array.getD_eq_getD_getElem?, ho]
  unfold stepD at h
  rw [hoa] at h
  unfold wpOpIn
  rw [ho]
  simp only
  split at h
  · rename_i hg
    have hw : Region.wanted o (yielded ops a.tmps) = true := by simp [Region.wanted, hg]
    rw [if_pos hw]
    refine opW_sound hR (fun g p h => by simp [hasTag] at h) trivial (opW_same h1 h2 h) ?_
    intro v w' c' av H' hk e k hr hra
    obtain ⟨rfl, hk⟩ := hk
    exact hn v w' c' av _ hk e k hr (slot_dull hra)
  · rename_i j p hg
    split at h
    · rename_i g hgd
      split at h
      · exact h.elim
      · rename_i hne
        split at h
        · rename_i tags C hch
          have hyield : yielded ops a.tmps j = match a.tmps[g]? with | some (.bool b) => some b | _ => none := by
            unfold yielded
            rw [hgd]
            rfl
          have hgp : ∀ v, (a.put o.dst v).tmps[g]? = a.tmps[g]? := by
            intro v
            cases hd : o.dst with
            | none => rfl
            | some d =>
              rw [put_tmps, Array.getElem?_setIfInBounds]
              have : d ≠ g := fun e => hne (by rw [hd, e])
              simp [this]
          by_cases hw : Region.wanted o (yielded ops a.tmps) = true
          · rw [if_pos hw]
            have hgt : a.tmps[g]? = some (.bool p) := by
              simp only [Region.wanted, hg, hyield] at hw
              split at hw
              · rename_i b hb; simp at hw; subst hw; exact hb
              · simp at hw
            obtain ⟨hC, htags, _⟩ := chain_sound hR 9 g p tags C hgt hch
            refine opW_sound hR htags hC (opW_same h1 h2 h) ?_
            intro v w' c' av H' hk e k hr hra
            obtain ⟨rfl, hk⟩ := hk
            refine hn v w' c' av _ hk e k hr ⟨fun _ => hra.dull, fun hno => ?_⟩
            rw [hgp] at hno
            exact absurd hgt hno
          · rw [if_neg hw]
            refine ⟨fun _ _ => trivial, ?_⟩
            have hne' : tags ≠ [] := by
              intro h0
              subst h0
              simp only [chain] at hch
              split at hch
              · cases hch
              · split at hch
                · cases hch
                · cases hch
              · cases hch
            obtain ⟨av, hk⟩ := opW_some h hne'
            refine hn undef w c av _ hk (Ext.refl _ _) (Keep.refl _ _) hR.hr ⟨fun hyes => ?_, fun _ => rfl⟩
            rw [hgp] at hyes
            exact absurd (by simp [Region.wanted, hg, hyield, hyes]) hw
        · exact h.elim
    · exact h.elim
end
end Go.Sx
/- Regions that draw their order: whatever the order. -/
namespace Go.Sx
open Go

theorem nodupB_spec : ∀ {l : List Nat}, nodupB l = true → l.Nodup
  | [], _ => List.nodup_nil
  | x :: r, h => by
    simp only [nodupB, Bool.and_eq_true, Bool.not_eq_true'] at h
    refine List.nodup_cons.2 ⟨fun hm => ?_, nodupB_spec h.2⟩
    have := h.1
    simp only [List.contains_iff_mem.2 hm] at this
    cases this

structure DOk (ops : Array Oper) : Prop where
  nodup : (ops.toList.filterMap (·.dst)).Nodup
  edges : ∀ j o, ops[j]? = some o → ∀ e ∈ o.after.toList, Region.binds .any e = true → e.on < j
  tails : ∀ j, j < ops.size → headN ops ≤ j → ∀ i, i < j → bit ops j i = true
  allocs : ∀ j o, ops[j]? = some o → j < headN ops → isAllocO o.op = true → o.guard = none ∧ ∃ d, o.dst = some d
  ord : ordOk ops (heads ops) (ordOf ops) [] = true

theorem opAt_get {ops : Array Oper} {i : Nat} {o : Oper} (h : ops[i]? = some o) : opAt ops i = o := by simp [opAt, Array.getD_eq_getD_getElem?, h]
theorem get_opAt {ops : Array Oper} {i : Nat} (h : i < ops.size) : ops[i]? = some (opAt ops i) := by simp [opAt, Array.getD_eq_getD_getElem?, h]
theorem lt_of_get {ops : Array Oper} {i : Nat} {o : Oper} (h : ops[i]? = some o) : i < ops.size := by
  rcases Nat.lt_or_ge i ops.size with h' | h'
  · exact h'
  · simp [Array.getElem?_eq_none h'] at h

theorem headN_le (ops : Array Oper) : headN ops ≤ ops.size := by
  unfold headN
  have := List.findIdx_le_length (p := fun (o : Oper) => isTail o.op) (xs := ops.toList)
  simpa using this

theorem head_not_tail {ops : Array Oper} {i : Nat} {o : Oper} (ho : ops[i]? = some o) (hi : i < headN ops) : isTail o.op = false := by
  have h := List.not_of_lt_findIdx (p := fun (o : Oper) => isTail o.op) (xs := ops.toList) (i := i) hi
  have e : ops.toList[i]'(by have := headN_le ops; simp; omega) = o := by
    have := lt_of_get ho
    simp [this] at ho
    simpa using ho
  rw [e] at h
  exact h

theorem drawOk_spec {ops : Array Oper} (h : drawOk ops = true) : DOk ops := by
  simp only [drawOk, Bool.and_eq_true] at h
  obtain ⟨⟨⟨⟨h1, h2⟩, h3⟩, h4⟩, h5⟩ := h
  refine ⟨nodupB_spec h1, fun j o ho e he hb => ?_, fun j hj hh i hi => ?_, fun j o ho hj ha => ?_, h5⟩
  · have := List.all_eq_true.1 h2 j (by simp; exact lt_of_get ho)
    rw [opAt_get ho] at this
    have := List.all_eq_true.1 this e he
    simpa [hb] using this
  · have := List.all_eq_true.1 h3 j (by simpa using hj)
    simp only [Bool.or_eq_true, decide_eq_true_eq] at this
    rcases this with h | h
    · omega
    · exact List.all_eq_true.1 h i (by simpa using hi)
  · have := List.all_eq_true.1 h4 j (by simpa using hj)
    rw [opAt_get ho] at this
    simp only [ha, Bool.not_true, Bool.false_or, Bool.and_eq_true] at this
    exact ⟨by simpa using this.1, Option.isSome_iff_exists.1 this.2⟩

theorem bit_lt {ops : Array Oper} (hd : DOk ops) : ∀ (j i : Nat), bit ops j i = true → i < j := by
  intro j
  induction j using Nat.strongRecOn with
  | _ j ih =>
    intro i hb
    have hj : j < ops.size := by
      rcases Nat.lt_or_ge j ops.size with h | h
      · exact h
      · unfold bit masks at hb
        rw [List.getD_eq_getElem?_getD, List.getElem?_eq_none (by rw [(masksFrom_get ops.toList [] j).1]; simpa using h)] at hb
        simp at hb
    obtain ⟨e, he, hbe, h1⟩ := bit_edge (get_opAt hj) hb
    have := hd.edges j _ (get_opAt hj) e he hbe
    rcases h1 with rfl | ⟨_, h1⟩
    · exact this
    · have := ih e.on this i h1
      omega

theorem dst_inj {ops : Array Oper} (hd : DOk ops) {i j d : Nat} {oi oj : Oper} (hi : ops[i]? = some oi) (hj : ops[j]? = some oj) (h1 : oi.dst = some d) (h2 : oj.dst = some d) : i = j := by
  have key : ∀ (l : List Oper) (i j : Nat) (oi oj : Oper), (l.filterMap (·.dst)).Nodup → l[i]? = some oi → l[j]? = some oj → oi.dst = some d → oj.dst = some d → i = j := by
    intro l
    induction l with
    | nil => intro i j oi oj _ h; simp at h
    | cons o l ih =>
      intro i j oi oj hn hi hj h1 h2
      have hmem : ∀ (k : Nat) (ok : Oper), l[k]? = some ok → ok.dst = some d → d ∈ l.filterMap (·.dst) := fun k ok hk hdk => List.mem_filterMap.2 ⟨ok, List.mem_of_getElem? hk, hdk⟩
      cases i with
      | zero =>
        simp at hi; subst hi
        cases j with
        | zero => rfl
        | succ j =>
          simp at hj
          rw [List.filterMap_cons_some h1, List.nodup_cons] at hn
          exact absurd (hmem j oj hj h2) hn.1
      | succ i =>
        simp at hi
        cases j with
        | zero =>
          simp at hj; subst hj
          rw [List.filterMap_cons_some h2, List.nodup_cons] at hn
          exact absurd (hmem i oi hi h1) hn.1
        | succ j =>
          simp at hj
          have hn' : (l.filterMap (·.dst)).Nodup := by
            cases hod : o.dst with
            | none => rw [List.filterMap_cons_none hod] at hn; exact hn
            | some x => rw [List.filterMap_cons_some hod, List.nodup_cons] at hn; exact hn.2
          rw [ih i j oi oj hn' hi hj h1 h2]
  exact key ops.toList i j oi oj hd.nodup (by simpa using hi) (by simpa using hj) h1 h2

/-- A slot that the j-th operation may not look at. -/
def Hid (ops : Array Oper) (j t : Nat) : Prop := ∃ (k : Nat) (o : Oper), ops[k]? = some o ∧ o.dst = some t ∧ ¬ (bit ops j k = true ∧ isAllocO o.op = false)

theorem hideFrom_get (m : Nat) : ∀ (l : List Oper) (k : Nat) (tm : List AV) (t : Nat), (hideFrom m l k tm).length = tm.length ∧
    ((∃ (i : Nat) (o : Oper), l[i]? = some o ∧ o.dst = some t ∧ ¬ (m.testBit (k + i) = true ∧ isAllocO o.op = false)) → (hideFrom m l k tm)[t]? = (tm[t]?).map fun _ => .any) ∧
    ((¬ ∃ (i : Nat) (o : Oper), l[i]? = some o ∧ o.dst = some t ∧ ¬ (m.testBit (k + i) = true ∧ isAllocO o.op = false)) → (hideFrom m l k tm)[t]? = tm[t]?)
  | [], k, tm, t => by simp [hideFrom]
  | o :: l, k, tm, t => by
    obtain ⟨h1, h2, h3⟩ := hideFrom_get m l (k + 1) tm t
    have shift : (∃ (i : Nat) (o' : Oper), (o :: l)[i]? = some o' ∧ o'.dst = some t ∧ ¬ (m.testBit (k + i) = true ∧ isAllocO o'.op = false)) ↔
        (o.dst = some t ∧ ¬ (m.testBit k = true ∧ isAllocO o.op = false)) ∨ (∃ (i : Nat) (o' : Oper), l[i]? = some o' ∧ o'.dst = some t ∧ ¬ (m.testBit (k + 1 + i) = true ∧ isAllocO o'.op = false)) := by
      constructor
      · rintro ⟨i, o', hi, hd, hn⟩
        cases i with
        | zero => simp at hi; subst hi; exact .inl ⟨hd, by simpa using hn⟩
        | succ i => simp at hi; exact .inr ⟨i, o', hi, hd, by rw [show k + 1 + i = k + (i + 1) by omega]; exact hn⟩
      · rintro (⟨hd, hn⟩ | ⟨i, o', hi, hd, hn⟩)
        · exact ⟨0, o, rfl, hd, by simpa using hn⟩
        · exact ⟨i + 1, o', by simpa using hi, hd, by rw [show k + (i + 1) = k + 1 + i by omega]; exact hn⟩
    rw [shift]
    simp only [hideFrom]
    cases hod : o.dst with
    | none =>
      simp only
      refine ⟨h1, fun h => h2 (h.resolve_left (by simp)), fun h => h3 (fun h' => h (.inr h'))⟩
    | some d =>
      simp only
      by_cases hb : (m.testBit k && !isAllocO o.op) = true
      · rw [if_pos hb]
        have hb' : m.testBit k = true ∧ isAllocO o.op = false := by simpa using hb
        refine ⟨h1, fun h => h2 (h.resolve_left (fun h' => h'.2 hb')), fun h => h3 (fun h' => h (.inr h'))⟩
      · rw [if_neg hb]
        have hb' : ¬ (m.testBit k = true ∧ isAllocO o.op = false) := by simpa using hb
        refine ⟨by simp [h1], fun h => ?_, fun h => ?_⟩
        · by_cases hdt : d = t
          · subst hdt
            rw [List.getElem?_set]
            simp only [if_true, h1]
            by_cases hlt : d < tm.length
            · simp [hlt]
            · simp [hlt]
          · rw [set_other hdt]
            exact h2 (h.resolve_left (fun h' => hdt (by simpa using h'.1)))
        · have hdt : d ≠ t := fun e => h (.inl ⟨by rw [e], hb'⟩)
          rw [set_other hdt]
          exact h3 (fun h' => h (.inr h'))

theorem hide_get {ops : Array Oper} {j t : Nat} {tm : List AV} : (hide ops j tm).length = tm.length ∧ (Hid ops j t → (hide ops j tm)[t]? = (tm[t]?).map fun _ => .any) ∧ (¬ Hid ops j t → (hide ops j tm)[t]? = tm[t]?) := by
  obtain ⟨h1, h2, h3⟩ := hideFrom_get ((masks ops).getD j 0) ops.toList 0 tm t
  refine ⟨h1, fun h => h2 ?_, fun h => h3 fun h' => h ?_⟩
  · obtain ⟨k, o, hk, hd, hn⟩ := h
    exact ⟨k, o, by simpa using hk, hd, by simpa [bit] using hn⟩
  · obtain ⟨k, o, hk, hd, hn⟩ := h'
    exact ⟨k, o, by simpa using hk, hd, by simpa [bit] using hn⟩

theorem hide_set {ops : Array Oper} {j d : Nat} {tm : List AV} {x : AV} (h : Hid ops j d) : hide ops j (tm.set d x) = hide ops j tm := by
  apply List.ext_getElem?
  intro t
  by_cases ht : Hid ops j t
  · rw [hide_get.2.1 ht, hide_get.2.1 ht]
    by_cases e : d = t
    · subst e
      rw [List.getElem?_set]
      by_cases hlt : d < tm.length
      · simp [hlt]
      · simp [hlt]
    · rw [set_other e]
  · have e : d ≠ t := fun e => ht (e ▸ h)
    rw [hide_get.2.2 ht, hide_get.2.2 ht, set_other e]
end Go.Sx
/- Regions that draw their order: the invariant, and its steps. -/
namespace Go.Sx
open Go

/-- A block that an alloc of the region has made, and that no box stands for yet. -/
def Owned (P : Program) (c : Cx) (w : World) (b : Nat) (T : TypeId) : Prop :=
  b < w.heap.size ∧ (∃ z, zeroV P T = some z ∧ w.heap[b]? = some (.cells z.cells T (0, 0))) ∧ (∀ l k : Nat, c.ρ[l]? ≠ some (some (b, k))) ∧ (∀ o, ¬ c.I b o) ∧ ¬ c.J b

theorem Owned.ext {P c w c' w' b T} (e : Ext c w c' w') (h : Owned P c w b T) : Owned P c' w' b T := by
  obtain ⟨h1, ⟨z, h2, h3⟩, h4, h5, h6⟩ := h
  refine ⟨Nat.lt_of_lt_of_le h1 e.size, ⟨z, h2, by rw [e.frame b h1 h4]; exact h3⟩, fun l k hl => ?_, fun o ho => ?_, fun hj => ?_⟩
  · rcases e.fresh l b k hl with ⟨l', k', h⟩ | h
    · exact h4 l' k' h
    · omega
  · rcases e.inew b o ho with h | h | ⟨l, k, h⟩
    · exact h5 o h
    · omega
    · exact h4 l k h
  · rcases e.jnew b hj with h | h
    · exact h6 h
    · omega

section
variable {P : Program} {G : Nat → Option (List D)} {nb : Nat} {rd : Option Nat} {ops : Array Oper} {H : List Box} {c0 : Cx} {w0 : World} {Kend : List AV → Prop}

def lst (listed : Array Bool) (i : Nat) : Bool := listed.getD i false

def Pend (P : Program) (G : Nat → Option (List D)) (ops : Array Oper) (i : Nat) (tm : List AV) (H : List Box) : Prop :=
  stepD P G ops i (hide ops i tm) H fun _ a2 H2 => H2 = H ∧ ∀ d, (opAt ops i).dst = some d → d < tm.length → tm[d]? = some a2

/-- The state in the middle of a region's head, without the last word on what is evaluated next. -/
structure Din (P : Program) (G : Nat → Option (List D)) (nb : Nat) (ops : Array Oper) (H : List Box) (c0 : Cx) (w0 : World) (Kend : List AV → Prop) (listed : Array Bool) (a : Act) (w : World) (c : Cx) (tm : List AV) (done r : List Nat) (B : Nat → Nat) (X : Nat → Prop) : Prop where
  hr : HR c H w
  gr : GR G c w
  ext : Ext c0 w0 c w
  keep : Keep c0 H c H
  df : Dfs nb c w a.defers
  lsz : listed.size = ops.size
  closed : Closed ops listed
  len : tm.length = a.tmps.size
  rng : ∀ (k : Nat) o d, ops[k]? = some o → o.dst = some d → d < tm.length
  slot : ∀ (t : Nat) x v, tm[t]? = some x → a.tmps[t]? = some v → (∀ (k : Nat) o, ops[k]? = some o → o.dst = some t → headN ops ≤ k ∨ (lst listed k = true ∧ isAllocO o.op = false)) → SlotR c H w a.tmps x v
  opt : ∀ (t g : Nat) p x, tm[t]? = some (.opt g p x) → ∃ (i j : Nat) (oi oj : Oper), ops[i]? = some oi ∧ ops[j]? = some oj ∧ oi.dst = some t ∧ oj.dst = some g ∧ bit ops i j = true ∧ i < headN ops
  v : ordW P G ops r tm H Kend
  ord : ordOk ops (heads ops) r done = true
  dn : ∀ k ∈ done, ∀ i ∈ heads ops, bit ops k i = true → i ∈ done
  dh : ∀ k ∈ done, k ∈ heads ops
  unl : ∀ i ∈ r, lst listed i = false
  pend : ∀ i ∈ done, lst listed i = false → ¬ X i → Pend P G ops i tm H
  fresh : ∀ (i : Nat) o T, ops[i]? = some o → o.op = .alloc T → i < headN ops → lst listed i = true → ∃ d, o.dst = some d ∧ a.tmps[d]? = some (.pointer (some ⟨B i, 0, none⟩)) ∧ Owned P c w (B i) T ∧ w0.heap.size ≤ B i
  binj : ∀ (i i' : Nat) o o' T T', ops[i]? = some o → ops[i']? = some o' → o.op = .alloc T → o'.op = .alloc T' → i < headN ops → i' < headN ops → lst listed i = true → lst listed i' = true → B i = B i' → i = i'
  tail : ∀ j, headN ops ≤ j → lst listed j = false

theorem ordOk_mem {hs : List Nat} : ∀ {r done : List Nat}, ordOk ops hs r done = true → ∀ i ∈ r, i ∈ hs ∧ i ∉ done
  | [], _, _, i, hi => by simp at hi
  | j :: r, done, h, i, hi => by
    simp only [ordOk, Bool.and_eq_true, Bool.not_eq_true'] at h
    obtain ⟨⟨⟨⟨h1, h2⟩, _⟩, _⟩, h5⟩ := h
    rcases List.mem_cons.1 hi with rfl | hi
    · exact ⟨List.contains_iff_mem.1 h1, fun hm => by rw [List.contains_iff_mem.2 hm] at h2; cases h2⟩
    · obtain ⟨a, b⟩ := ordOk_mem h5 i hi
      exact ⟨a, fun hm => b (by simp [hm])⟩

theorem ordOk_all {hs : List Nat} : ∀ {r done : List Nat}, ordOk ops hs r done = true → ∀ i ∈ hs, i ∈ done ∨ i ∈ r
  | [], done, h, i, hi => by
    simp only [ordOk] at h
    exact .inl (List.contains_iff_mem.1 (List.all_eq_true.1 h i hi))
  | j :: r, done, h, i, hi => by
    simp only [ordOk, Bool.and_eq_true] at h
    rcases ordOk_all h.2 i hi with h1 | h1
    · rcases List.mem_append.1 h1 with h1 | h1
      · exact .inl h1
      · right; simp at h1; simp [h1]
    · right; simp [h1]

theorem heads_mem {i : Nat} : i ∈ heads ops ↔ i < headN ops ∧ isAllocO (opAt ops i).op = false := by simp [heads]

theorem head_get {i : Nat} (h : i ∈ heads ops) : ops[i]? = some (opAt ops i) := get_opAt (Nat.lt_of_lt_of_le (heads_mem.1 h).1 (headN_le ops))

theorem setN_get {tm : List AV} {d : Option Nat} {x : AV} {t : Nat} (h : d ≠ some t) : (setN tm d x)[t]? = tm[t]? := by
  cases d with
  | none => rfl
  | some d => exact set_other (fun e => h (by rw [e]))

theorem setN_len {tm : List AV} {d : Option Nat} {x : AV} : (setN tm d x).length = tm.length := by cases d <;> simp [setN]

/-- Whatever an operation sets it may not itself look at. -/
theorem hid_self {i j d : Nat} {o : Oper} (ho : ops[i]? = some o) (hdst : o.dst = some d) (hb : bit ops j i = false) : Hid ops j d := ⟨i, o, ho, hdst, fun h => by rw [hb] at h; cases h.1⟩

theorem hide_setN {i j : Nat} {o : Oper} {tm : List AV} {x : AV} (ho : ops[i]? = some o) (hb : bit ops j i = false) : hide ops j (setN tm o.dst x) = hide ops j tm := by
  cases hdst : o.dst with
  | none => rfl
  | some d => exact hide_set (hid_self ho hdst hb)

theorem bit_self (hd : DOk ops) (i : Nat) : bit ops i i = false := by
  cases h : bit ops i i with
  | false => rfl
  | true => exact absurd (bit_lt hd i i h) (Nat.lt_irrefl _)

/-- The value that a guarded step sets names a slot that it looked at. -/
theorem stepD_opt {i : Nat} {tm : List AV} {K : AV → AV → List Box → Prop} (h : stepD P G ops i (hide ops i tm) H K) : ∀ (g : Nat) (p : Bool), (∃ j, (opAt ops i).guard = some (j, p) ∧ (ops[j]?).bind (·.dst) = some g) → ∃ (j : Nat) (oj : Oper), ops[j]? = some oj ∧ oj.dst = some g ∧ bit ops i j = true := by
  rintro g p ⟨j, hg, hgd⟩
  unfold stepD at h
  rw [hg] at h
  simp only [hgd] at h
  split at h
  · exact h.elim
  · split at h
    · rename_i tags C hch
      cases hoj : ops[j]? with
      | none => rw [hoj] at hgd; simp at hgd
      | some oj =>
        rw [hoj] at hgd
        simp only [Option.bind_some] at hgd
        refine ⟨j, oj, hoj, hgd, ?_⟩
        by_cases hh : Hid ops i g
        · exfalso
          have hget := (hide_get (tm := tm)).2.1 hh
          have : (hide ops i tm).getD g .any = .any := by
            rw [List.getD_eq_getElem?_getD, hget]
            cases tm[g]? <;> rfl
          simp only [chain, this] at hch
          cases hch
        · rcases Classical.em (bit ops i j = true) with hb | hb
          · exact hb
          · exact absurd ⟨j, oj, hoj, hgd, fun h => hb h.1⟩ hh
    · exact h.elim

theorem stepD_form {i : Nat} {tv : List AV} {K : AV → AV → List Box → Prop} (h : stepD P G ops i tv H K) : stepD P G ops i tv H fun av a' H' => K av a' H' ∧ ∀ g p x, a' = .opt g p x → ∃ j, (opAt ops i).guard = some (j, p) ∧ (ops[j]?).bind (·.dst) = some g := by
  have mono : ∀ (o : Oper) (tags : List (Nat × Bool)) (C : Prop) (K1 K2 : AV → List Box → Prop), (∀ av H', K1 av H' → K2 av H') → opW P G o tags C tv H K1 → opW P G o tags C tv H K2 := by
    intro o tags C K1 K2 hk h
    unfold opW at h ⊢
    split at h
    · rename_i hop
      split at h
      · exact hk _ _ h
      · exact h
    · split at h
      · rename_i hcal
        split at h
        · rename_i hok
          rw [if_pos hok]
          split at h
          · exact h.mono fun rs hrs => exTys_mono _ _ _ (fun ds hd => ⟨hd.1, hk _ _ hd.2⟩) hrs
          · unfold pureW at h ⊢
            split at h
            · rename_i hsee
              rw [if_pos hsee]
              exact h.mono fun rs H' hrs => ⟨hrs.1, exTys_mono _ _ _ (fun ds hd => ⟨hd.1, hk _ _ hd.2⟩) hrs.2⟩
            · exact h.elim
        · exact h.elim
      · exact h.elim
    · unfold restW at h ⊢
      cases hf : opF P (ev G (getT tags tv)) H o.op with
      | none =>
        rw [hf] at h
        simp only at h ⊢
        cases tags with
        | nil =>
          simp only at h ⊢
          cases hh : hopF P (ev G (getT [] tv)) H o.op with
          | none => rw [hh] at h; exact h
          | some q =>
            obtain ⟨av, H', F⟩ := q
            rw [hh] at h
            simp only at h ⊢
            split at h
            · rename_i ht; rw [if_pos ht]; exact hk _ _ h
            · rename_i ht; rw [if_neg ht]; exact ⟨h.1, hk _ _ h.2⟩
        | cons t ts => exact h
      | some q =>
        obtain ⟨av, F⟩ := q
        rw [hf] at h
        simp only at h ⊢
        split at h
        · rename_i ht; rw [if_pos ht]; exact hk _ _ h
        · rename_i ht; rw [if_neg ht]; cases tags <;> exact ⟨h.1, hk _ _ h.2⟩
  unfold stepD at h ⊢
  split at h
  · exact mono _ _ _ _ _ (fun av H' hk => ⟨hk, fun g p x hx => by cases av <;> simp [dull] at hx⟩) h
  · rename_i j p hg
    split at h
    · rename_i g hgd
      split at h
      · exact h.elim
      · rename_i hne
        simp only [if_neg hne]
        split at h
        · rename_i tags C hch
          exact mono _ _ _ _ _ (fun av H' hk => ⟨hk, fun g' p' x hx => by cases hx; exact ⟨j, hg, hgd⟩⟩) h
        · exact h.elim
    · exact h.elim
end
end Go.Sx
/- Regions that draw their order: evaluating on, and the runs of single operations. -/
namespace Go.Sx
open Go

section
variable {P : Program} {G : Nat → Option (List D)} {nb : Nat} {rd : Option Nat} {ops : Array Oper} {H : List Box} {c0 : Cx} {w0 : World} {Kend : List AV → Prop} {listed : Array Bool} {a : Act} {w : World} {c : Cx} {tm : List AV} {done r : List Nat} {B : Nat → Nat} {X : Nat → Prop}

/-- The abstract side goes on by one operation that is not run yet. -/
theorem Din.note {i : Nat} {r' : List Nat} {a2 : AV} (hd : DOk ops) (h : Din P G nb ops H c0 w0 Kend listed a w c tm done (i :: r') B X) (hv : ordW P G ops r' (setN tm (opAt ops i).dst a2) H Kend)
    (hopt : ∀ g p x, a2 = .opt g p x → ∃ (j : Nat) (oj : Oper), ops[j]? = some oj ∧ oj.dst = some g ∧ bit ops i j = true)
    (hp : lst listed i = false → ¬ X i → Pend P G ops i (setN tm (opAt ops i).dst a2) H) : Din P G nb ops H c0 w0 Kend listed a w c (setN tm (opAt ops i).dst a2) (done ++ [i]) r' B X := by
  obtain ⟨hih, hid⟩ := ordOk_mem h.ord i (by simp)
  have hoi := head_get hih
  have hul := h.unl i (by simp)
  have hord := h.ord
  simp only [ordOk, Bool.and_eq_true, Bool.not_eq_true'] at hord
  obtain ⟨⟨⟨⟨_, _⟩, hpre⟩, _⟩, hrest⟩ := hord
  refine { hr := h.hr, gr := h.gr, ext := h.ext, keep := h.keep, df := h.df, lsz := h.lsz, closed := h.closed, len := by rw [setN_len]; exact h.len, rng := by rw [setN_len]; exact h.rng, slot := ?_, opt := ?_, v := hv, ord := hrest, dn := ?_, dh := ?_, unl := fun k hk => h.unl k (by simp [hk]), pend := ?_, fresh := h.fresh, binj := h.binj, tail := h.tail }
  · intro t x v hx hv hall
    have hne : (opAt ops i).dst ≠ some t := fun e => by
      rcases hall i _ hoi e with h1 | ⟨h1, _⟩
      · have := (heads_mem.1 hih).1; omega
      · rw [hul] at h1; cases h1
    rw [setN_get hne] at hx
    exact h.slot t x v hx hv hall
  · intro t g p x hx
    by_cases e : (opAt ops i).dst = some t
    · have hx2 : a2 = .opt g p x := by
        rw [e] at hx
        simp only [setN] at hx
        rw [List.getElem?_set] at hx
        simp only [if_true] at hx
        split at hx
        · simpa using hx
        · simp at hx
      obtain ⟨j, oj, h1, h2, h3⟩ := hopt g p x hx2
      exact ⟨i, j, _, oj, hoi, h1, e, h2, h3, (heads_mem.1 hih).1⟩
    · rw [setN_get e] at hx
      exact h.opt t g p x hx
  · intro k hk m hm hb
    rcases List.mem_append.1 hk with hk | hk
    · exact List.mem_append.2 (.inl (h.dn k hk m hm hb))
    · simp at hk; subst hk
      have := List.all_eq_true.1 hpre m hm
      simp only [hb, Bool.not_true, Bool.false_or] at this
      exact List.mem_append.2 (.inl (List.contains_iff_mem.1 this))
  · intro k hk
    rcases List.mem_append.1 hk with hk | hk
    · exact h.dh k hk
    · simp at hk; subst hk; exact hih
  · intro k hk hkl hkx
    rcases List.mem_append.1 hk with hk | hk
    · have hki : k ≠ i := fun e => hid (e ▸ hk)
      have hb : bit ops k i = false := by
        cases hbb : bit ops k i with
        | false => rfl
        | true => exact absurd (h.dn k hk i hih hbb) hid
      have hp := h.pend k hk hkl hkx
      unfold Pend at hp ⊢
      rw [hide_setN hoi hb]
      have hok := head_get (h.dh k hk)
      have hform := stepD_form hp
      revert hp
      have : (fun (_ : AV) (a3 : AV) (H2 : List Box) => H2 = H ∧ ∀ d, (opAt ops k).dst = some d → d < tm.length → tm[d]? = some a3) = fun _ a3 H2 => H2 = H ∧ ∀ d, (opAt ops k).dst = some d → d < (setN tm (opAt ops i).dst a2).length → (setN tm (opAt ops i).dst a2)[d]? = some a3 := by
        funext _ a3 H2
        rw [setN_len]
        refine propext (and_congr_right fun _ => forall_congr' fun d => forall_congr' fun hd' => ?_)
        rw [setN_get (fun e => hki (dst_inj hd hok hoi hd' e))]
      rw [← this]
      exact fun h => h
    · simp at hk; subst hk; exact hp hkl hkx

/-- Evaluate whatever is no call. -/
theorem Din.advance (hd : DOk ops) : ∀ {r : List Nat} {tm : List AV} {done : List Nat}, Din P G nb ops H c0 w0 Kend listed a w c tm done r B X →
    ∃ tm' done' r', Din P G nb ops H c0 w0 Kend listed a w c tm' done' r' B X ∧ (r' = [] ∨ ∃ i r'', r' = i :: r'' ∧ isCallV (opAt ops i).op = true)
  | [], tm, done, h => ⟨tm, done, [], h, .inl rfl⟩
  | i :: r, tm, done, h => by
    cases hc : isCallV (opAt ops i).op with
    | true => exact ⟨tm, done, i :: r, h, .inr ⟨i, r, rfl, hc⟩⟩
    | false =>
      obtain ⟨hih, hid⟩ := ordOk_mem h.ord i (by simp)
      have hoi := head_get hih
      have hv := h.v
      simp only [ordW] at hv
      have ht : isTail (opAt ops i).op = false := head_not_tail hoi (heads_mem.1 hih).1
      have ha : isAllocO (opAt ops i).op = false := (heads_mem.1 hih).2
      obtain ⟨av, a2, ⟨hk, hform⟩, hpend⟩ := stepD_one hc ht ha (stepD_form hv)
      refine Din.advance hd (h.note hd hk (fun g p x hx => ?_) fun _ _ => ?_)
      · obtain ⟨j, hj1, hj2⟩ := hform g p x hx
        exact stepD_opt hv g p ⟨j, hj1, hj2⟩
      · unfold Pend
        rw [hide_setN hoi (bit_self hd i)]
        have hkk : ∀ (a3 : AV) (H2 : List Box), (H2 = H ∧ a3 = a2) → (H2 = H ∧ ∀ d, (opAt ops i).dst = some d → d < (setN tm (opAt ops i).dst a2).length → (setN tm (opAt ops i).dst a2)[d]? = some a3) := by
          rintro a3 H2 ⟨rfl, rfl⟩
          refine ⟨rfl, fun d hdd hlt => ?_⟩
          rw [setN_len] at hlt
          rw [hdd]
          simp [setN, hlt]
        have hs := stepD_one hc ht ha hpend
        obtain ⟨av', a', ⟨h1, h2⟩, h3⟩ := hs
        subst h2
        -- the step gives just this value
        have mono := stepD_form h3
        unfold stepD at h3 ⊢
        split at h3
        · rcases opW_ways ht ha h3 with ⟨av2, h4, h5⟩ | ⟨h4, _⟩
          · exact h5 _ (hkk _ _ h4)
          · rw [hc] at h4; cases h4
        · split at h3
          · split at h3
            · exact h3.elim
            · rename_i hne
              rw [if_neg hne]
              split at h3
              · rcases opW_ways ht ha h3 with ⟨av2, h4, h5⟩ | ⟨h4, _⟩
                · exact h5 _ (hkk _ _ h4)
                · rw [hc] at h4; cases h4
              · exact h3.elim
          · exact h3.elim

theorem lst_set (hs : listed.size = ops.size) {i k : Nat} (hi : i < ops.size) : lst (listed.setIfInBounds i true) k = if k = i then true else lst listed k := by
  unfold lst
  rw [Array.getD_eq_getD_getElem?, Array.getElem?_setIfInBounds, Array.getD_eq_getD_getElem?]
  by_cases e : k = i
  · subst e; simp [hs, hi]
  · simp [e, Ne.symm e]

/-- All that an operation looks at stands. -/
theorem Din.rep (h : Din P G nb ops H c0 w0 Kend listed a w c tm done r B X) {i : Nat} (hb : ∀ k, bit ops i k = true → lst listed k = true) : Rep G nb c H w (hide ops i tm) a := by
  refine ⟨h.hr, h.gr, ⟨by rw [hide_get (t := 0).1, h.len]; simp, fun t v x hv hx => ?_⟩, h.df⟩
  simp only [Array.getElem?_toList] at hv
  by_cases hh : Hid ops i t
  · rw [hide_get.2.1 hh] at hx
    cases hy : tm[t]? with
    | none => rw [hy] at hx; simp at hx
    | some y => rw [hy] at hx; simp at hx; subst hx; exact RA.any v
  · rw [hide_get.2.2 hh] at hx
    refine h.slot t x v hx hv fun k o hk hdst => ?_
    have : bit ops i k = true ∧ isAllocO o.op = false := by
      rcases Classical.em (bit ops i k = true ∧ isAllocO o.op = false) with h1 | h1
      · exact h1
      · exact absurd ⟨k, o, hk, hdst, h1⟩ hh
    exact .inr ⟨hb k this.1, this.2⟩

theorem Closed.add' {i : Nat} (hs : listed.size = ops.size) (hi : i < ops.size) (hc : Closed ops listed) (hb : ∀ k, bit ops i k = true → lst listed k = true) : Closed ops (listed.setIfInBounds i true) := by
  intro j k hj hbjk
  have hj' : lst (listed.setIfInBounds i true) j = true := hj
  show lst (listed.setIfInBounds i true) k = true
  rw [lst_set hs hi] at hj' ⊢
  split
  · rfl
  · by_cases e : j = i
    · subst e; exact hb k hbjk
    · rw [if_neg e] at hj'; exact hc j k hj' hbjk

/-- An operation whose value stands on the abstract side is run. -/
theorem Din.ran {i : Nat} {v : Value} {c' : Cx} {w' : World} {a2 : AV} (hd : DOk ops) (h : Din P G nb ops H c0 w0 Kend listed a w c tm done r B X) (hX : ∀ m, X m → m = i) (hdone : i ∈ done) (hul : lst listed i = false) (hb : ∀ k, bit ops i k = true → lst listed k = true)
    (ha2 : ∀ d, (opAt ops i).dst = some d → d < tm.length → tm[d]? = some a2) (e : Ext c w c' w') (k : Keep c H c' H) (hr : HR c' H w') (hs : SlotR c' H w' (a.put (opAt ops i).dst v).tmps a2 v) :
    Din P G nb ops H c0 w0 Kend (listed.setIfInBounds i true) (a.put (opAt ops i).dst v) w' c' tm done r B (fun _ => False) := by
  have hih := h.dh i hdone
  have hoi := head_get hih
  have hi : i < ops.size := lt_of_get hoi
  have hoth : ∀ t, (opAt ops i).dst ≠ some t → (a.put (opAt ops i).dst v).tmps[t]? = a.tmps[t]? := by
    intro t hne
    cases hdst : (opAt ops i).dst with
    | none => rfl
    | some d =>
      rw [put_tmps, Array.getElem?_setIfInBounds]
      have : d ≠ t := fun e => hne (by rw [hdst, e])
      simp [this]
  refine { hr := hr, gr := h.gr.ext e, ext := h.ext.trans e, keep := h.keep.trans k, df := ?_, lsz := by simp [h.lsz], closed := Closed.add' h.lsz hi h.closed hb, len := ?_, rng := h.rng, slot := ?_, opt := h.opt, v := h.v, ord := h.ord, dn := h.dn, dh := h.dh, unl := ?_, pend := ?_, fresh := ?_, binj := ?_, tail := ?_ }
  · cases hdst : (opAt ops i).dst <;> exact h.df.ext e
  · rw [h.len]
    cases hdst : (opAt ops i).dst with
    | none => rfl
    | some d => rw [put_tmps]; simp
  · intro t x u hx hu hall
    by_cases et : (opAt ops i).dst = some t
    · have hlt : t < tm.length := by rcases Nat.lt_or_ge t tm.length with h' | h'; exact h'; simp [List.getElem?_eq_none h'] at hx
      rw [ha2 t et hlt] at hx
      simp at hx; subst hx
      have : u = v := by
        rw [et, put_tmps, Array.getElem?_setIfInBounds] at hu
        simp only [if_true] at hu
        split at hu
        · simpa using hu.symm
        · rename_i hge; rw [h.len] at hlt; exact absurd hlt hge
      subst this
      exact hs
    · rw [hoth t et] at hu
      have h1 := h.slot t x u hx hu fun m o hm hdm => by
        rcases hall m o hm hdm with h4 | ⟨h2, h3⟩
        · exact .inl h4
        · rw [lst_set h.lsz hi] at h2
          have : m ≠ i := fun e' => et (by rw [e'] at hm; rw [hm] at hoi; simp at hoi; rw [← hoi]; exact hdm)
          rw [if_neg this] at h2
          exact .inr ⟨h2, h3⟩
      have h2 := h1.ext e k
      cases x <;> first
        | exact h2
        | skip
      rename_i g p y
      simp only [SlotR] at h2 ⊢
      have hg : (a.put (opAt ops i).dst v).tmps[g]? = a.tmps[g]? := by
        refine hoth g fun eg => ?_
        obtain ⟨i1, j1, oi1, oj1, a1, a2', a3, a4, a5, a6⟩ := h.opt t g p y hx
        have hl := ((hall i1 oi1 a1 a3).resolve_left (by omega)).1
        have hi1 : i1 ≠ i := fun e' => et (by rw [e'] at a1; rw [a1] at hoi; simp at hoi; rw [← hoi]; exact a3)
        rw [lst_set h.lsz hi, if_neg hi1] at hl
        have hj := h.closed i1 j1 hl a5
        have : j1 = i := dst_inj hd a2' hoi a4 eg
        rw [this] at hj
        have hj' : lst listed i = true := hj
        rw [hul] at hj'; cases hj'
      rw [hg]
      exact h2
  · intro m hm
    rw [lst_set h.lsz hi]
    have hne : m ≠ i := fun e' => by
      have := (ordOk_mem h.ord m hm).2
      exact this (e' ▸ hdone)
    rw [if_neg hne]
    exact h.unl m hm
  · intro m hm hml _
    rw [lst_set h.lsz hi] at hml
    split at hml
    · cases hml
    · rename_i hmi; exact h.pend m hm hml (fun hx => hmi (hX m hx))
  · intro m o T hm hop hmh hml
    have hne : m ≠ i := fun e' => by
      have h1 := (heads_mem.1 hih).2
      rw [e'] at hm
      rw [opAt_get hm, hop] at h1
      simp [isAllocO] at h1
    rw [lst_set h.lsz hi, if_neg hne] at hml
    obtain ⟨d, h1, h2, h3⟩ := h.fresh m o T hm hop hmh hml
    refine ⟨d, h1, ?_, h3.1.ext e, h3.2⟩
    rw [hoth d fun e' => hne (dst_inj hd hm hoi h1 e')]
    exact h2
  · intro m m' o o' T T' hm hm' h1 h2 h3 h4 h5 h6 h7
    have key : ∀ (q : Nat) oq Tq, ops[q]? = some oq → oq.op = .alloc Tq → q ≠ i := fun q oq Tq hq hoq e' => by
      have h1 := (heads_mem.1 hih).2
      rw [e'] at hq
      rw [opAt_get hq, hoq] at h1
      simp [isAllocO] at h1
    rw [lst_set h.lsz hi, if_neg (key m o T hm h1)] at h5
    rw [lst_set h.lsz hi, if_neg (key m' o' T' hm' h2)] at h6
    exact h.binj m m' o o' T T' hm hm' h1 h2 h3 h4 h5 h6 h7
  · intro j hj
    rw [lst_set h.lsz hi]
    have : j ≠ i := fun e' => by have := (heads_mem.1 hih).1; omega
    rw [if_neg this]
    exact h.tail j hj
end
end Go.Sx
/- Regions that draw their order: the runs, all together. -/
namespace Go.Sx
open Go

section
variable {P : Program} {G : Nat → Option (List D)} {nb : Nat} {rd : Option Nat} {ops : Array Oper} {H : List Box} {c0 : Cx} {w0 : World} {Kend : List AV → Prop} {listed : Array Bool} {a : Act} {w : World} {c : Cx} {tm : List AV} {done r : List Nat} {B : Nat → Nat}

/-- Somewhere in the head. -/
def Mid (P : Program) (G : Nat → Option (List D)) (nb : Nat) (ops : Array Oper) (H : List Box) (c0 : Cx) (w0 : World) (Kend : List AV → Prop) (listed : Array Bool) (a : Act) (w : World) : Prop :=
  ∃ c tm done r B, Din P G nb ops H c0 w0 Kend listed a w c tm done r B (fun _ => False) ∧ (r = [] ∨ ∃ i r', r = i :: r' ∧ isCallV (opAt ops i).op = true)

theorem run_alloc_op {o : Oper} {T : TypeId} {z : Value} (ho : o.op = .alloc T) (hz : zeroV P T = some z) (ev : Operand → Value) : (execOp ev o).run P w = .ok (.value (.pointer (some ⟨w.heap.size, 0, none⟩))) { w with heap := w.heap.push (.cells z.cells T) } := by
  simp [execOp, ho, Instr.alloc, run_zeroV hz, newVar, newRow]

theorem Ext.push_free (c : Cx) (w : World) (o : Obj) (hi : ∀ b o, c.I b o → b < w.heap.size) (hj : ∀ r, c.J r → r < w.heap.size) : Ext c w c { w with heap := w.heap.push o } where
  os := rfl
  tape := rfl
  output := rfl
  isub _ _ h := h
  jsub _ h := h
  icell b o h := cell_of_heap (heap_push_lt (hi b o h)) _ _
  jobj r h := heap_push_lt (hj r h)
  size := by simp
  frame b hb _ := heap_push_lt hb
  inew _ _ h := .inl h
  jnew _ h := .inl h
  fresh l b k h := .inl ⟨l, k, h⟩

theorem HR.push_free {c : Cx} (h : HR c H w) (o : Obj) : HR c H { w with heap := w.heap.push o } where
  len := h.len
  inj := h.inj
  box l b k x h1 h2 := (h.box l b k x h1 h2).ext (Ext.push_free c w o h.ilt h.jlt) (Keep.refl _ _) (heap_push_lt (h.lt l b k h1))
  non := h.non
  lt l b k h1 := by have := h.lt l b k h1; simp; omega
  ilt b o hi := by have := h.ilt b o hi; simp; omega
  jlt r hr := by have := h.jlt r hr; simp; omega
  iap := h.iap
  jap := h.jap

/-- An alloc of the head is run. -/
theorem Din.alloc {i : Nat} {T : TypeId} {z : Value} (hd : DOk ops) (h : Din P G nb ops H c0 w0 Kend listed a w c tm done r B (fun _ => False)) (hi : i < headN ops) (hop : (opAt ops i).op = .alloc T) (hz : zeroV P T = some z) (hul : lst listed i = false) (hb : ∀ k, bit ops i k = true → lst listed k = true) :
    Din P G nb ops H c0 w0 Kend (listed.setIfInBounds i true) (a.put (opAt ops i).dst (.pointer (some ⟨w.heap.size, 0, none⟩))) { w with heap := w.heap.push (.cells z.cells T) } c tm done r (fun k => if k = i then w.heap.size else B k) (fun _ => False) := by
  have hisz : i < ops.size := Nat.lt_of_lt_of_le hi (headN_le ops)
  have hoi := get_opAt hisz
  obtain ⟨_, d, hdst⟩ := hd.allocs i _ hoi hi (by rw [hop]; rfl)
  have e := Ext.push_free c w (.cells z.cells T) h.hr.ilt h.hr.jlt
  have hoth : ∀ t, d ≠ t → (a.put (opAt ops i).dst (.pointer (some ⟨w.heap.size, 0, none⟩))).tmps[t]? = a.tmps[t]? := by
    intro t hne
    rw [hdst, put_tmps, Array.getElem?_setIfInBounds]
    simp [hne]
  have hnd : ∀ k ∈ done, k ≠ i := fun k hk e' => by
    have := (heads_mem.1 (h.dh k hk)).2
    rw [e', hop] at this; simp [isAllocO] at this
  have hnr : ∀ k ∈ r, k ≠ i := fun k hk e' => by
    have := (heads_mem.1 (ordOk_mem h.ord k hk).1).2
    rw [e', hop] at this; simp [isAllocO] at this
  refine { hr := h.hr.push_free _, gr := h.gr.ext e, ext := h.ext.trans e, keep := h.keep, df := ?_, lsz := by simp [h.lsz], closed := Closed.add' h.lsz hisz h.closed hb, len := ?_, rng := h.rng, slot := ?_, opt := h.opt, v := h.v, ord := h.ord, dn := h.dn, dh := h.dh, unl := ?_, pend := ?_, fresh := ?_, binj := ?_, tail := ?_ }
  · rw [hdst]; exact h.df.ext e
  · rw [h.len, hdst, put_tmps]; simp
  · intro t x u hx hu hall
    have hne : d ≠ t := fun e' => by
      have := ((hall i _ hoi (by rw [hdst, e'])).resolve_left (by omega)).2
      rw [hop] at this; simp [isAllocO] at this
    rw [hoth t hne] at hu
    have h1 := h.slot t x u hx hu fun m o hm hdm => by
      rcases hall m o hm hdm with h4 | ⟨h2, h3⟩
      · exact .inl h4
      · rw [lst_set h.lsz hisz] at h2
        have : m ≠ i := fun e' => by rw [e', hoi] at hm; simp at hm; rw [← hm, hdst] at hdm; simp at hdm; exact hne hdm
        rw [if_neg this] at h2
        exact .inr ⟨h2, h3⟩
    have h2 := h1.ext e (Keep.refl c H)
    cases x <;> first
      | exact h2
      | skip
    rename_i g p y
    simp only [SlotR] at h2 ⊢
    have hg : (a.put (opAt ops i).dst (.pointer (some ⟨w.heap.size, 0, none⟩))).tmps[g]? = a.tmps[g]? := by
      refine hoth g fun eg => ?_
      obtain ⟨i1, j1, oi1, oj1, a1, a2', a3, a4, a5, a6⟩ := h.opt t g p y hx
      have hl := ((hall i1 oi1 a1 a3).resolve_left (by omega)).1
      have hi1 : i1 ≠ i := fun e' => by rw [e', hoi] at a1; simp at a1; rw [← a1, hdst] at a3; simp at a3; exact hne a3
      rw [lst_set h.lsz hisz, if_neg hi1] at hl
      have hj := h.closed i1 j1 hl a5
      have : j1 = i := dst_inj hd a2' hoi a4 (by rw [hdst, eg])
      rw [this] at hj
      have hj' : lst listed i = true := hj
      rw [hul] at hj'; cases hj'
    rw [hg]
    exact h2
  · intro m hm
    rw [lst_set h.lsz hisz, if_neg (hnr m hm)]
    exact h.unl m hm
  · intro m hm hml hx
    rw [lst_set h.lsz hisz, if_neg (hnd m hm)] at hml
    exact h.pend m hm hml hx
  · intro m o T' hm hop' hmh hml
    by_cases e' : m = i
    · subst e'
      rw [hoi] at hm
      simp at hm
      subst hm
      rw [hop] at hop'
      cases hop'
      refine ⟨d, hdst, ?_, ?_⟩
      · rw [hdst, put_tmps, Array.getElem?_setIfInBounds]
        have hlt : d < a.tmps.size := by have := h.rng m _ d hoi hdst; rw [h.len] at this; exact this
        simp [hlt]
      · simp only [if_true]
        refine ⟨⟨by simp, ⟨z, hz, by simp⟩, fun l k hl => ?_, fun o ho => ?_, fun hj => ?_⟩, h.ext.size⟩
        · have := h.hr.lt l _ k hl; omega
        · have := h.hr.ilt _ o ho; omega
        · have := h.hr.jlt _ hj; omega
    · rw [lst_set h.lsz hisz, if_neg e'] at hml
      obtain ⟨d', h1, h2, h3⟩ := h.fresh m o T' hm hop' hmh hml
      simp only [if_neg e']
      refine ⟨d', h1, ?_, h3.1.ext e, h3.2⟩
      rw [hoth d' fun e2 => e' (dst_inj hd hm hoi h1 (by rw [hdst, e2]))]
      exact h2
  · intro m m' o o' T1 T2 hm hm' h1 h2 h3 h4 h5 h6 h7
    rw [lst_set h.lsz hisz] at h5 h6
    by_cases e1 : m = i <;> by_cases e2 : m' = i
    · omega
    · rw [if_pos e1, if_neg e2] at h7
      rw [if_neg e2] at h6
      obtain ⟨_, _, _, h8⟩ := h.fresh m' o' T2 hm' h2 h4 h6
      have := h8.1.1; omega
    · rw [if_neg e1, if_pos e2] at h7
      rw [if_neg e1] at h5
      obtain ⟨_, _, _, h8⟩ := h.fresh m o T1 hm h1 h3 h5
      have := h8.1.1; omega
    · rw [if_neg e1, if_neg e2] at h7
      rw [if_neg e1] at h5
      rw [if_neg e2] at h6
      exact h.binj m m' o o' T1 T2 hm hm' h1 h2 h3 h4 h5 h6 h7
  · intro j hj
    rw [lst_set h.lsz hisz]
    have : j ≠ i := fun e' => by omega
    rw [if_neg this]
    exact h.tail j hj

theorem wpOp_at {i : Nat} {o : Oper} {K : Act → World → Prop} {Q : Exit → Act → World → Prop} (ho : ops[i]? = some o) (hg : o.guard = none) (h : o.wpIn (Fen rd) 0 P a w K Q) : wpOpIn (Fen rd) 0 P ops Q i K a w := by
  unfold wpOpIn
  rw [ho]
  simp only
  have hw : Region.wanted o (yielded ops a.tmps) = true := by simp [Region.wanted, hg]
  rw [if_pos hw]
  exact h

/-- Any operation of the head that is ready is run. -/
theorem Mid.step {Q : Exit → Act → World → Prop} {i : Nat} (hd : DOk ops) (hal : ∀ (k : Nat) o T, ops[k]? = some o → o.op = .alloc T → k < headN ops → ∃ z, zeroV P T = some z) (h : Mid P G nb ops H c0 w0 Kend listed a w) (hi : i < headN ops) (hul : lst listed i = false) (hb : ∀ k, bit ops i k = true → lst listed k = true) :
    wpOpIn (Fen rd) 0 P ops Q i (fun a' w' => Mid P G nb ops H c0 w0 Kend (listed.setIfInBounds i true) a' w') a w := by
  obtain ⟨c, tm, done, r, B, hD, hrc⟩ := h
  have hisz : i < ops.size := Nat.lt_of_lt_of_le hi (headN_le ops)
  have hoi := get_opAt hisz
  cases ha : isAllocO (opAt ops i).op with
  | true =>
    cases hop : (opAt ops i).op <;> rw [hop] at ha <;> simp [isAllocO] at ha
    rename_i T
    obtain ⟨z, hz⟩ := hal i _ T hoi hop hi
    refine wpOp_at hoi (hd.allocs i _ hoi hi (by rw [hop]; rfl)).1 ?_
    refine ⟨fun _ _ => trivial, ?_⟩
    rw [Oper.semAt_eq _ _ _ (by rw [hop]; intro d hd; cases hd), run_alloc_op hop hz]
    exact ⟨c, tm, done, r, _, hD.alloc hd hi hop hz hul hb, hrc⟩
  | false =>
    have hih : i ∈ heads ops := heads_mem.2 ⟨hi, ha⟩
    have ht : isTail (opAt ops i).op = false := head_not_tail hoi hi
    have hrep := hD.rep hb
    rcases ordOk_all hD.ord i hih with hdone | hr
    · have hp := hD.pend i hdone hul (fun h => h)
      refine stepD_sound hoi hrep ht ha hp fun v w' c' av a2 hk e k hr hs => ?_
      exact ⟨c', tm, done, r, B, hD.ran hd (fun m hm => hm.elim) hdone hul hb hk.2 e k hr hs, hrc⟩
    · rcases hrc with rfl | ⟨i0, r', rfl, hcall⟩
      · simp at hr
      · have hi0 : i = i0 := by
          rcases List.mem_cons.1 hr with e | hr'
          · exact e
          · have hord := hD.ord
            simp only [ordOk, Bool.and_eq_true] at hord
            have h1 := hord.1.2
            simp only [hcall, Bool.not_true, Bool.false_or] at h1
            have h2 := List.all_eq_true.1 h1 i hr'
            have h3 := hb i0 h2
            have h4 := hD.unl i0 (by simp)
            rw [h3] at h4; cases h4
        subst hi0
        have hv := hD.v
        simp only [ordW] at hv
        refine stepD_sound hoi hrep ht ha (stepD_form hv) fun v w' c' av a2 hk e k hr2 hs => ?_
        obtain ⟨hk, hform⟩ := hk
        have hDX : Din P G nb ops H c0 w0 Kend listed a w c tm done (i :: r') B (fun m => m = i) := { hD with pend := fun m hm hml hx => hD.pend m hm hml (fun h => h) }
        have hN := hDX.note hd hk (fun g p x hx => by
          obtain ⟨j, hj1, hj2⟩ := hform g p x hx
          exact stepD_opt hv g p ⟨j, hj1, hj2⟩) (fun _ hx => absurd rfl hx)
        have hRan := hN.ran hd (fun m hm => hm) (by simp) hul hb (fun d hdd hlt => by
          rw [setN_len] at hlt
          rw [hdd]
          simp [setN, hlt]) e k hr2 hs
        obtain ⟨tm3, done3, r3, hD3, hrc3⟩ := hRan.advance hd
        exact ⟨c', tm3, done3, r3, B, hD3, hrc3⟩
end
end Go.Sx
/- Regions that draw their order: behind the head. -/
namespace Go.Sx
open Go

section
variable {P : Program} {G : Nat → Option (List D)} {nb : Nat} {rd : Option Nat} {ops : Array Oper} {H : List Box} {c0 : Cx} {w0 : World} {Kend : List AV → Prop} {listed : Array Bool} {a : Act} {w : World} {c : Cx} {tm : List AV} {done r : List Nat} {B : Nat → Nat}

theorem RA.grow {b k : Nat} {x : Box} (hl : c.ρ.length = H.length) {av : AV} {v : Value} (h : RA c H w av v) : RA (c.grow b k) (H ++ [x]) w av v := by
  have kp := Keep.grow c H b k x hl
  induction h with
  | d h => exact .d h
  | @ptr l o b q T cs hH h =>
    obtain ⟨⟨cs', h1⟩, h2⟩ := kp l _ hH
    exact .ptr h1 (by rw [h2]; exact h)
  | iptr h => exact .iptr h
  | clo hf hc _ _ ih1 ih2 => exact .clo hf hc ih1 ih2
  | full h => exact .full h
  | nils => exact .nils
  | @vec l n sz ds a m q h hH hn he =>
    obtain ⟨n', a', b', e'⟩ := kp l _ hH
    refine .vec h a' (by omega) fun hl => ?_
    have e1 : n = n' := by omega
    rcases he (by omega) with h1 | ⟨b, h1, h2⟩
    · exact .inl h1
    · exact .inr ⟨b, h1, by rw [e' e1]; exact h2⟩
  | @map l b q es hH h =>
    obtain ⟨⟨cs', h1⟩, h2⟩ := kp l _ hH
    exact .map h1 (by rw [h2]; exact h)
  | tup hl _ ih => exact .tup hl ih
  | agg hl _ ih => exact .agg hl ih
  | any v => exact .any v
  | opt g p x v => exact .opt g p x v
  | yld h1 h2 => exact .yld (get_snoc_some h1) (get_snoc_some h2)

theorem SlotR.grow {b k : Nat} {x : Box} {tmps : Array Value} (hl : c.ρ.length = H.length) {av : AV} {v : Value} (h : SlotR c H w tmps av v) : SlotR (c.grow b k) (H ++ [x]) w tmps av v := by
  cases av <;> simp only [SlotR] at h ⊢ <;> first
    | exact RA.grow hl h
    | exact ⟨fun hg => RA.grow hl (h.1 hg), h.2⟩

theorem Dfs.grow {T : TypeId} {b k : Nat} {ds : List Deferred} (h : Dfs nb c w ds) (hb : ∃ z : Value, zeroV P T = some z ∧ w.heap[b]? = some (.cells z.cells T (0, 0))) : Dfs nb (c.grow b k) w ds := by
  obtain ⟨h0, ms, h1, h2, h3⟩ := h
  refine ⟨h0, ms, h1, h2, fun m hm => ?_⟩
  obtain ⟨a1, a2, a3, a4, a5⟩ := h3 m hm
  refine ⟨a1, a2, fun l k' hl => ?_, a4, a5⟩
  rcases get_snoc_cases hl with hl | ⟨_, hl⟩
  · exact a3 l k' hl
  · simp at hl
    obtain ⟨rfl, _⟩ := hl
    obtain ⟨z, _, hz⟩ := hb
    rw [a2] at hz; cases hz

/-- A block of one's own becomes a box. -/
theorem HR.adopt {b : Nat} {T : TypeId} {z : Value} (hR : HR c H w) (ho : Owned P c w b T) (hz : zeroV P T = some z) : HR (c.grow b 0) (H ++ [.cells T (z.cells.toList.map zeroCell)]) w := by
  obtain ⟨h1, ⟨z', h2, h3⟩, h4, h5, h6⟩ := ho
  rw [hz] at h2; simp at h2; subst h2
  refine ⟨by simp [Cx.grow, hR.len], ?_, ?_, ?_, ?_, hR.ilt, hR.jlt, ?_, ?_⟩
  · intro l l' b' k k' e1 e2
    rcases get_snoc_cases e1 with f1 | ⟨l1, f1⟩ <;> rcases get_snoc_cases e2 with f2 | ⟨l2, f2⟩
    · exact hR.inj l l' b' k k' f1 f2
    · simp at f2; obtain ⟨rfl, _⟩ := f2; exact absurd f1 (h4 l k)
    · simp at f1; obtain ⟨rfl, _⟩ := f1; exact absurd f2 (h4 l' k')
    · omega
  · intro l b' k y e1 e2
    rcases get_snoc_cases e1 with e1 | ⟨l1, e1⟩
    · rcases get_snoc_cases e2 with e2 | ⟨l2, e2⟩
      · have h7 := hR.box l b' k y e1 e2
        cases y with
        | cells T' cs => obtain ⟨vs, h8, h9⟩ := h7; exact ⟨vs, h8, h9.mono fun _ _ h => h.grow hR.len⟩
        | map es => exact h7
        | vec n sz => exact h7
        | dead => trivial
        | loop tm ps asn bd pend st => obtain ⟨r, h8, h9, h10, h11, h12, h13, h14⟩ := h7; exact ⟨r, h8, h9, h10, h11, h12, h13, h14.mono fun _ _ h => h.grow hR.len⟩
      · have := hR.len
        rw [List.getElem?_eq_none (by omega)] at e1; simp at e1
    · rcases get_snoc_cases e2 with e2 | ⟨l2, e2⟩
      · have := hR.len
        rw [List.getElem?_eq_none (by omega)] at e2; simp at e2
      · simp at e1; obtain ⟨rfl, rfl⟩ := e1
        subst e2
        exact ⟨z.cells.toList, by simpa using h3, All2.zero _⟩
  · intro l y e1 e2
    rcases get_snoc_cases e1 with e1 | ⟨l1, e1⟩
    · rcases get_snoc_cases e2 with e2 | ⟨l2, e2⟩
      · exact hR.non l y e1 e2
      · have := hR.len
        rw [List.getElem?_eq_none (by omega)] at e1; simp at e1
    · simp at e1
  · intro l b' k e1
    rcases get_snoc_cases e1 with e1 | ⟨l1, e1⟩
    · exact hR.lt l b' k e1
    · simp at e1; omega
  · intro b' o l k hi e1
    rcases get_snoc_cases e1 with e1 | ⟨l1, e1⟩
    · obtain ⟨n, sz, h8, h9⟩ := hR.iap b' o l k hi e1
      exact ⟨n, sz, get_snoc_some h8, h9⟩
    · simp at e1; obtain ⟨rfl, _⟩ := e1; exact absurd hi (h5 o)
  · intro r' l k hr e1
    rcases get_snoc_cases e1 with e1 | ⟨l1, e1⟩
    · exact hR.jap r' l k hr e1
    · simp at e1; obtain ⟨rfl, _⟩ := e1; exact h6 hr

/-- Behind the allocs of the head: what is left to be adopted. -/
structure Left (P : Program) (G : Nat → Option (List D)) (nb : Nat) (ops : Array Oper) (H : List Box) (c0 : Cx) (w0 : World) (a : Act) (w : World) (B : Nat → Nat) (l : List Nat) (tm : List AV) (H' : List Box) (c : Cx) : Prop where
  hr : HR c H' w
  gr : GR G c w
  ext : Ext c0 w0 c w
  keep : Keep c0 H c H'
  df : Dfs nb c w a.defers
  len : tm.length = a.tmps.size
  no : ∀ g p x, AV.opt g p x ∉ tm
  slot : ∀ (t : Nat) x v, tm[t]? = some x → a.tmps[t]? = some v → (∀ i ∈ l, (opAt ops i).dst ≠ some t) → RA c H' w x v
  own : ∀ i ∈ l, ∃ T d, (opAt ops i).op = .alloc T ∧ (opAt ops i).dst = some d ∧ a.tmps[d]? = some (.pointer (some ⟨B i, 0, none⟩)) ∧ Owned P c w (B i) T ∧ w0.heap.size ≤ B i
  nd : l.Nodup
  inj : ∀ i ∈ l, ∀ j ∈ l, B i = B j → i = j

theorem adopt_sound {K : List AV → List Box → Prop} {S : List Nat} (hsz : ∀ (k : Nat), k ∈ S → k < ops.size) : ∀ (l : List Nat) (tm : List AV) (H' : List Box) (c : Cx), (∀ i ∈ l, i ∈ S) → Left P G nb ops H c0 w0 a w B l tm H' c → adoptFrom P ops l tm H' K →
    ∃ tm2 H2 c2, K tm2 H2 ∧ Rep G nb c2 H2 w tm2 a ∧ Ext c0 w0 c2 w ∧ Keep c0 H c2 H2
  | [], tm, H', c, _, h, hk => by
    refine ⟨tm, H', c, hk, ⟨h.hr, h.gr, ⟨by rw [h.len]; simp, fun t v x hv hx => ?_⟩, h.df⟩, h.ext, h.keep⟩
    simp only [Array.getElem?_toList] at hv
    have := h.slot t x v hx hv (by simp)
    cases x <;> first
      | exact this
      | exact absurd (List.mem_of_getElem? hx) (h.no _ _ _)
  | i :: l, tm, H', c, hal, h, hk => by
    obtain ⟨T, d, hop, hdst, htmp, hown, hge⟩ := h.own i (by simp)
    simp only [adoptFrom, hop] at hk
    split at hk
    · rename_i z hz
      have hR2 := h.hr.adopt hown hz
      have hnd := List.nodup_cons.1 h.nd
      refine adopt_sound hsz l _ _ (c.grow (B i) 0) (fun k hk => hal k (by simp [hk])) ?_ hk
      have hoi := get_opAt (hsz i (hal i (by simp)))
      refine { hr := hR2, gr := ?_, ext := ?_, keep := ?_, df := h.df.grow hown.2.1, len := by rw [setN_len]; exact h.len, no := ?_, slot := ?_, own := ?_, nd := hnd.2, inj := fun p hp q hq => h.inj p (by simp [hp]) q (by simp [hq]) }
      · exact h.gr
      · refine ⟨h.ext.os, h.ext.tape, h.ext.output, h.ext.isub, h.ext.jsub, h.ext.icell, h.ext.jobj, h.ext.size, h.ext.frame, h.ext.inew, h.ext.jnew, fun l' b k hl => ?_⟩
        rcases get_snoc_cases hl with hl | ⟨_, hl⟩
        · exact h.ext.fresh l' b k hl
        · simp at hl; right; omega
      · intro l' x hx
        have h1 := h.keep l' x hx
        have kp := Keep.grow c H' (B i) 0 (.cells T (z.cells.toList.map zeroCell)) h.hr.len
        cases x with
        | vec m sz =>
          obtain ⟨m', a1, b1, e1⟩ := h1
          obtain ⟨m'', a2, b2, e2⟩ := kp l' _ a1
          exact ⟨m'', a2, Nat.le_trans b1 b2, fun he => by
            have x1 : m = m' := by omega
            have x2 : m' = m'' := by omega
            rw [e2 x2, e1 x1]⟩
        | dead => trivial
        | cells T' cs =>
          obtain ⟨⟨cs', a1⟩, e1⟩ := h1
          obtain ⟨⟨cs'', a2⟩, e2⟩ := kp l' _ a1
          exact ⟨⟨cs'', a2⟩, by rw [e2, e1]⟩
        | map es =>
          obtain ⟨⟨cs', a1⟩, e1⟩ := h1
          obtain ⟨⟨cs'', a2⟩, e2⟩ := kp l' _ a1
          exact ⟨⟨cs'', a2⟩, by rw [e2, e1]⟩
        | loop tm ps asn bd pend st =>
          obtain ⟨⟨p1, s1, a1⟩, e1⟩ := h1
          obtain ⟨⟨p2, s2, a2⟩, e2⟩ := kp l' _ a1
          exact ⟨⟨p2, s2, a2⟩, by rw [e2, e1]⟩
      · intro g p x hm
        rw [hdst] at hm
        simp only [setN] at hm
        rcases List.mem_or_eq_of_mem_set hm with hm | hm
        · exact h.no g p x hm
        · cases hm
      · intro t x v hx hv hall
        by_cases e : d = t
        · subst e
          rw [hdst] at hx
          simp only [setN] at hx
          rw [List.getElem?_set] at hx
          simp only [if_true] at hx
          split at hx
          · simp at hx; subst hx
            rw [htmp] at hv; simp at hv; subst hv
            refine .ptr (T := T) (cs := z.cells.toList.map zeroCell) (k := 0) (by simp) ?_
            have : (c.grow (B i) 0).ρ = c.ρ ++ [some (B i, 0)] := rfl
            rw [this, ← h.hr.len]; simp
          · simp at hx
        · rw [setN_get (by rw [hdst]; simpa using e)] at hx
          refine (h.slot t x v hx hv fun k hk => ?_).grow h.hr.len
          rcases List.mem_cons.1 hk with rfl | hk
          · rw [hdst]; simpa using e
          · exact hall k hk
      · intro k hk
        obtain ⟨T', d', p1, p2, p3, p4, p5⟩ := h.own k (by simp [hk])
        refine ⟨T', d', p1, p2, p3, ⟨p4.1, p4.2.1, fun l' q hl => ?_, p4.2.2.2.1, p4.2.2.2.2⟩, p5⟩
        rcases get_snoc_cases hl with hl | ⟨_, hl⟩
        · exact p4.2.2.1 l' q hl
        · simp at hl
          have := h.inj k (by simp [hk]) i (by simp) hl.1
          exact hnd.1 (this ▸ hk)
    · exact hk.elim
end
end Go.Sx
/- Regions that draw their order: the whole. -/
namespace Go.Sx
open Go

theorem countP_set {p q : Nat → Bool} {i : Nat} : ∀ (l : List Nat), (∀ k, q k = true → p k = true) → p i = true → q i = false → i ∈ l → l.countP q + 1 ≤ l.countP p
  | [], _, _, _, h => by simp at h
  | x :: l, h1, h2, h3, hm => by
    have mono : l.countP q ≤ l.countP p := List.countP_mono_left fun k _ hk => h1 k hk
    rcases List.mem_cons.1 hm with rfl | hm
    · rw [List.countP_cons_of_neg (by rw [h3]; simp), List.countP_cons_of_pos h2]
      omega
    · have ih := countP_set l h1 h2 h3 hm
      rw [List.countP_cons, List.countP_cons]
      by_cases hq : q x = true
      · simp [hq, h1 x hq]; omega
      · simp only [hq]
        by_cases hp : p x = true
        · simp [hp]; omega
        · simp [hp]; omega

theorem countP_tail {p : Nat → Bool} (j : Nat) : ∀ n, (∀ k, j ≤ k → k < n → p k = true) → n - j ≤ (List.range n).countP p
  | 0, _ => by simp
  | n + 1, h => by
    have ih := countP_tail j n fun k h1 h2 => h k h1 (by omega)
    rw [List.range_succ, List.countP_append]
    by_cases hj : j ≤ n
    · have := h n hj (by omega)
      simp [this]; omega
    · omega

section
variable {P : Program} {G : Nat → Option (List D)} {nb : Nat} {rd : Option Nat} {ops : Array Oper} {Q : Exit → Act → World → Prop}

def unlN (ops : Array Oper) (listed : Array Bool) : Nat := (List.range ops.size).countP fun i => !lst listed i

theorem ready_iff {listed : Array Bool} {i : Nat} (hs : listed.size = ops.size) : i ∈ Region.ready .any ops listed ↔ ∃ o, ops[i]? = some o ∧ lst listed i = false ∧ ∀ e ∈ o.after.toList, Region.binds .any e = true → lst listed e.on = true := by
  simp only [Region.ready, List.mem_filter, List.mem_range, Bool.and_eq_true, Bool.not_eq_true']
  constructor
  · rintro ⟨hi, h1, h2⟩
    have ho := get_opAt hi
    rw [ho] at h2
    simp only [Option.map_some, Option.getD_some] at h2
    refine ⟨_, ho, ?_, fun e he hb => ?_⟩
    · unfold lst
      rw [Array.getD_eq_getD_getElem?] at h1 ⊢
      have : i < listed.size := by omega
      simp [this] at h1 ⊢
      exact h1
    · have := (Array.all_eq_true_iff_forall_mem.1 h2) e (by simpa using he)
      simp only [hb, Bool.not_true, Bool.false_or] at this
      exact this
  · rintro ⟨o, ho, h1, h2⟩
    have hi := lt_of_get ho
    refine ⟨hi, ?_, ?_⟩
    · unfold lst at h1
      rw [Array.getD_eq_getD_getElem?] at h1 ⊢
      have : i < listed.size := by omega
      simp [this] at h1 ⊢
      exact h1
    · rw [ho]
      simp only [Option.map_some, Option.getD_some]
      refine Array.all_eq_true_iff_forall_mem.2 fun e he => ?_
      by_cases hb : Region.binds .any e = true
      · have := h2 e (by simpa using he) hb
        simp only [hb, Bool.not_true, Bool.false_or]
        exact this
      · simp [hb]

theorem tail_any {K : List AV → List Box → Prop} (hed : ∀ j o, ops[j]? = some o → ∀ e ∈ o.after.toList, Region.binds .any e = true → e.on < j) {hn : Nat} (htl : ∀ j, j < ops.size → hn ≤ j → ∀ i, i < j → bit ops j i = true) : ∀ (fuel j : Nat) (listed : Array Bool) (c : Cx) (H : List Box) (w : World) (tm : List AV) (a : Act), hn ≤ j → j ≤ ops.size → listed.size = ops.size → (∀ k, k < ops.size → (lst listed k = true ↔ k < j)) → Closed ops listed → ops.size - j ≤ fuel →
    Rep G nb c H w tm a → opsW P G ops (ops.toList.drop j) tm H K → (∀ a' w' c' tm' H', K tm' H' → Rep G nb c' H' w' tm' a' → Ext c w c' w' → Keep c H c' H' → Q .normal a' w') → wpAnyIn (Fen rd) 0 P .any ops Q fuel listed a w := by
  intro fuel
  induction fuel with
  | zero =>
    intro j listed c H w tm a hj hjs hs hl hcl hf hR h hq
    have e : j = ops.size := by omega
    subst e
    have hd0 : ops.toList.drop ops.size = [] := List.drop_eq_nil_of_le (by simp)
    rw [hd0] at h
    refine ⟨List.eq_nil_iff_forall_not_mem.2 fun i hi => ?_, hq a w c tm H h hR (Ext.refl _ _) (Keep.refl _ _)⟩
    obtain ⟨o, ho, h1, _⟩ := (ready_iff hs).1 hi
    have := (hl i (lt_of_get ho)).2 (lt_of_get ho)
    rw [h1] at this; cases this
  | succ fuel ih =>
    intro j listed c H w tm a hj hjs hs hl hcl hf hR h hq
    rcases Nat.lt_or_ge j ops.size with hlt | hge
    · have hoj := get_opAt hlt
      have hjr : j ∈ Region.ready .any ops listed := (ready_iff hs).2 ⟨_, hoj, by
        cases hx : lst listed j with
        | false => rfl
        | true => exact absurd ((hl j hlt).1 hx) (Nat.lt_irrefl _), fun e he hb => by
        have := hed j _ hoj e he hb
        exact (hl e.on (by omega)).2 this⟩
      refine ⟨fun h0 => by rw [h0] at hjr; simp at hjr, fun i hi => ?_⟩
      obtain ⟨o, ho, h1, h2⟩ := (ready_iff hs).1 hi
      have hij : i = j := by
        rcases Nat.lt_trichotomy i j with h3 | h3 | h3
        · have := (hl i (lt_of_get ho)).2 h3
          rw [h1] at this; cases this
        · exact h3
        · have hb := htl i (lt_of_get ho) (by omega) j h3
          have := ready_bits hcl ho hi j hb
          exact absurd ((hl j hlt).1 this) (Nat.lt_irrefl _)
      subst hij
      have hdrop : ops.toList.drop i = opAt ops i :: ops.toList.drop (i + 1) := by
        have hlt' : i < ops.toList.length := by simpa using hlt
        rw [List.drop_eq_getElem_cons hlt']
        congr 1
        simp [opAt, Array.getD_eq_getD_getElem?, hlt]
      rw [hdrop] at h
      have hb : ∀ k, bit ops i k = true → lst listed k = true := ready_bits hcl ho hi
      refine stepW_op hoj hR h ?_
      intro a' w' c' tm' H' hk hR' e k
      refine ih (i + 1) (listed.setIfInBounds i true) c' H' w' tm' a' (by omega) (by omega) (by simp [hs]) (fun m hm => ?_) (Closed.add' hs hlt hcl hb) (by omega) hR' hk fun a2 w2 c2 tm2 H2 hk2 hR2 e2 k2 => hq a2 w2 c2 tm2 H2 hk2 hR2 (e.trans e2) (k.trans k2)
      rw [lst_set hs hlt]
      by_cases e' : m = i
      · simp [e']
      · simp only [if_neg e']
        rw [hl m hm]
        omega
    · have e : j = ops.size := by omega
      subst e
      have hd0 : ops.toList.drop ops.size = [] := List.drop_eq_nil_of_le (by simp)
      rw [hd0] at h
      refine ⟨fun _ => hq a w c tm H h hR (Ext.refl _ _) (Keep.refl _ _), fun i hi => ?_⟩
      obtain ⟨o, ho, h1, _⟩ := (ready_iff hs).1 hi
      have := (hl i (lt_of_get ho)).2 (lt_of_get ho)
      rw [h1] at this; cases this

theorem mid_done {H : List Box} {c0 : Cx} {w0 : World} {K : List AV → List Box → Prop} {fuel : Nat} {listed : Array Bool} {a : Act} {w : World} (hd : DOk ops)
    (hq : ∀ a' w' c' tm' H', K tm' H' → Rep G nb c' H' w' tm' a' → Ext c0 w0 c' w' → Keep c0 H c' H' → Q .normal a' w') (hf : unlN ops listed ≤ fuel) (hall : ∀ i, i < headN ops → lst listed i = true)
    (hM : Mid P G nb ops H c0 w0 (fun tm1 => adoptFrom P ops (allocsOf ops) (clearOpt tm1) H fun tm2 H2 => opsW P G ops (ops.toList.drop (headN ops)) tm2 H2 K) listed a w) : wpAnyIn (Fen rd) 0 P .any ops Q fuel listed a w := by
  obtain ⟨c, tm, done, r, B, hD, hrc⟩ := hM
  have hr : r = [] := by
    rcases hrc with h | ⟨i, r', rfl, _⟩
    · exact h
    · have h1 := hD.unl i (by simp)
      have h2 := hall i (heads_mem.1 (ordOk_mem hD.ord i (by simp)).1).1
      rw [h2] at h1; cases h1
  subst hr
  have hk := hD.v
  simp only [ordW] at hk
  have hsz : ∀ k, k ∈ allocsOf ops → k < ops.size := fun k hk => by
    simp only [allocsOf, List.mem_filter, List.mem_range] at hk
    exact Nat.lt_of_lt_of_le hk.1 (headN_le ops)
  have hown : ∀ i ∈ allocsOf ops, ∃ T d, (opAt ops i).op = .alloc T ∧ (opAt ops i).dst = some d ∧ a.tmps[d]? = some (.pointer (some ⟨B i, 0, none⟩)) ∧ Owned P c w (B i) T ∧ w0.heap.size ≤ B i := by
    intro i hi
    simp only [allocsOf, List.mem_filter, List.mem_range] at hi
    cases hop : (opAt ops i).op <;> rw [hop] at hi <;> simp [isAllocO] at hi
    rename_i T
    obtain ⟨d, h1, h2, h3, h4⟩ := hD.fresh i _ T (get_opAt (Nat.lt_of_lt_of_le hi (headN_le ops))) hop hi (hall i hi)
    exact ⟨T, d, rfl, h1, h2, h3, h4⟩
  have hLeft : Left P G nb ops H c0 w0 a w B (allocsOf ops) (clearOpt tm) H c := by
    refine { hr := hD.hr, gr := hD.gr, ext := hD.ext, keep := hD.keep, df := hD.df, len := by simp [clearOpt, hD.len], no := ?_, slot := ?_, own := hown, nd := ?_, inj := ?_ }
    · intro g p x hm
      simp only [clearOpt, List.mem_map] at hm
      obtain ⟨y, _, hy⟩ := hm
      cases y <;> simp [dull] at hy
    · intro t x v hx hv hno
      simp only [clearOpt, List.getElem?_map] at hx
      cases hy : tm[t]? with
      | none => rw [hy] at hx; simp at hx
      | some y =>
        rw [hy] at hx; simp at hx; subst hx
        have hs := hD.slot t y v hy hv fun k o hk hdk => by
          rcases Nat.lt_or_ge k (headN ops) with h1 | h1
          · right
            refine ⟨hall k h1, ?_⟩
            cases ha : isAllocO o.op with
            | false => rfl
            | true =>
              have hka : k ∈ allocsOf ops := by
                simp only [allocsOf, List.mem_filter, List.mem_range]
                exact ⟨h1, by rw [opAt_get hk]; exact ha⟩
              exact absurd (by rw [opAt_get hk]; exact hdk) (hno k hka)
          · exact .inl h1
        cases y <;> first
          | exact hs
          | exact RA.any v
    · exact List.Nodup.sublist (List.filter_sublist) (List.nodup_range)
    · intro i hi j hj hB
      have hi' := hi
      have hj' := hj
      simp only [allocsOf, List.mem_filter, List.mem_range] at hi' hj'
      obtain ⟨T, d, o1, _⟩ := hown i hi
      obtain ⟨T', d', o2, _⟩ := hown j hj
      exact hD.binj i j _ _ T T' (get_opAt (hsz i hi)) (get_opAt (hsz j hj)) o1 o2 hi'.1 hj'.1 (hall i hi'.1) (hall j hj'.1) hB
  obtain ⟨tm2, H2, c2, hk2, hR2, he2, hkp2⟩ := adopt_sound hsz (allocsOf ops) (clearOpt tm) H c (fun _ h => h) hLeft hk
  refine tail_any hd.edges hd.tails fuel (headN ops) listed c2 H2 w tm2 a (Nat.le_refl _) (headN_le ops) hD.lsz (fun k hk => ⟨fun h => ?_, fun h => hall k h⟩) hD.closed ?_ hR2 hk2 fun a' w' c' tm' H' hk' hR' e k => hq a' w' c' tm' H' hk' hR' (he2.trans e) (hkp2.trans k)
  · rcases Nat.lt_or_ge k (headN ops) with h1 | h1
    · exact h1
    · have := hD.tail k h1
      rw [h] at this; cases this
  · refine Nat.le_trans (countP_tail (headN ops) ops.size fun k h1 _ => ?_) hf
    rw [hD.tail k h1]; rfl

theorem least_unlisted {listed : Array Bool} : ∀ n, (∃ i, i < n ∧ lst listed i = false) → ∃ i, i < n ∧ lst listed i = false ∧ ∀ k, k < i → lst listed k = true
  | 0, ⟨i, hi, _⟩ => by omega
  | n + 1, ⟨i, hi, h⟩ => by
    by_cases hex : ∃ i, i < n ∧ lst listed i = false
    · obtain ⟨j, h1, h2, h3⟩ := least_unlisted n hex
      exact ⟨j, by omega, h2, h3⟩
    · have hin : i = n := by
        rcases Nat.lt_or_ge i n with h1 | h1
        · exact absurd ⟨i, h1, h⟩ hex
        · omega
      subst hin
      refine ⟨i, hi, h, fun k hk => ?_⟩
      cases hx : lst listed k with
      | true => rfl
      | false => exact absurd ⟨k, hk, hx⟩ hex

theorem mid_any {H : List Box} {c0 : Cx} {w0 : World} {K : List AV → List Box → Prop} (hd : DOk ops) (hal : ∀ (k : Nat) o T, ops[k]? = some o → o.op = .alloc T → k < headN ops → ∃ z, zeroV P T = some z)
    (hq : ∀ a' w' c' tm' H', K tm' H' → Rep G nb c' H' w' tm' a' → Ext c0 w0 c' w' → Keep c0 H c' H' → Q .normal a' w') : ∀ (fuel : Nat) (listed : Array Bool) (a : Act) (w : World), unlN ops listed ≤ fuel →
    Mid P G nb ops H c0 w0 (fun tm1 => adoptFrom P ops (allocsOf ops) (clearOpt tm1) H fun tm2 H2 => opsW P G ops (ops.toList.drop (headN ops)) tm2 H2 K) listed a w → wpAnyIn (Fen rd) 0 P .any ops Q fuel listed a w := by
  intro fuel
  induction fuel with
  | zero =>
    intro listed a w hf hM
    refine mid_done hd hq hf (fun i hi => ?_) hM
    cases hx : lst listed i with
    | true => rfl
    | false =>
      have : 0 < unlN ops listed := List.countP_pos_iff.2 ⟨i, by simp; exact Nat.lt_of_lt_of_le hi (headN_le ops), by simp [hx]⟩
      omega
  | succ fuel ih =>
    intro listed a w hf hM
    by_cases hall : ∀ i, i < headN ops → lst listed i = true
    · exact mid_done hd hq hf hall hM
    · have hex : ∃ i, i < headN ops ∧ lst listed i = false := by
        rcases Classical.em (∃ i, i < headN ops ∧ lst listed i = false) with h | h
        · exact h
        · exact absurd (fun i hi => by
            cases hx : lst listed i with
            | true => rfl
            | false => exact absurd ⟨i, hi, hx⟩ h) hall
      obtain ⟨i0, h1, h2, h3⟩ := least_unlisted (headN ops) hex
      have hlsz : listed.size = ops.size := by obtain ⟨_, _, _, _, _, hD, _⟩ := hM; exact hD.lsz
      have hcl : Closed ops listed := by obtain ⟨_, _, _, _, _, hD, _⟩ := hM; exact hD.closed
      have hi0 : i0 < ops.size := Nat.lt_of_lt_of_le h1 (headN_le ops)
      have hready : i0 ∈ Region.ready .any ops listed := (ready_iff hlsz).2 ⟨_, get_opAt hi0, h2, fun e he hb => h3 _ (hd.edges i0 _ (get_opAt hi0) e he hb)⟩
      refine ⟨fun h0 => by rw [h0] at hready; simp at hready, fun i hi => ?_⟩
      obtain ⟨o, ho, hul, _⟩ := (ready_iff hlsz).1 hi
      have hb : ∀ k, bit ops i k = true → lst listed k = true := ready_bits hcl ho hi
      have hisz := lt_of_get ho
      have hih : i < headN ops := by
        rcases Nat.lt_or_ge i (headN ops) with h | h
        · exact h
        · exact absurd (fun k hk => hb k (hd.tails i hisz h k (by omega))) hall
      refine wpOpIn_mono (fun a' w' hM' => ih _ a' w' ?_ hM') (Mid.step hd hal hM hih hul hb)
      have hdec : unlN ops (listed.setIfInBounds i true) + 1 ≤ unlN ops listed := countP_set (p := fun k => !lst listed k) (q := fun k => !lst (listed.setIfInBounds i true) k) (i := i) (List.range ops.size) (fun k hk => by
        rw [lst_set hlsz hisz] at hk
        split at hk
        · simp at hk
        · exact hk) (by simp [hul]) (by rw [lst_set hlsz hisz]; simp) (by simpa using hisz)
      omega

theorem drawW_sound {id : Nat} {c : Cx} {H : List Box} {w : World} {tm : List AV} {a : Act} {K : List AV → List Box → Prop} (hm : P.follows .mixedOrders = true) (hR : Rep G nb c H w tm a) (h : drawW P G ops tm H K)
    (hq : ∀ a' w' c' tm' H', K tm' H' → Rep G nb c' H' w' tm' a' → Ext c w c' w' → Keep c H c' H' → Q .normal a' w') : (Code.region id ops true).wpIn (Fen rd) 0 P Q a w := by
  unfold drawW at h
  split at h
  · rename_i hok
    simp only [Bool.and_eq_true] at hok
    obtain ⟨⟨⟨hok, hno⟩, hrng⟩, halz⟩ := hok
    have hd := drawOk_spec hok
    refine wpIn_region_any hm ?_
    have hal : ∀ (k : Nat) o T, ops[k]? = some o → o.op = .alloc T → k < headN ops → ∃ z, zeroV P T = some z := by
      intro k o T hk hop _
      have := List.all_eq_true.1 halz o (by simpa using Array.mem_of_getElem? hk)
      rw [hop] at this
      exact Option.isSome_iff_exists.1 this
    have hlst : ∀ k, lst (Array.replicate ops.size false) k = false := by
      intro k
      unfold lst
      rw [Array.getD_eq_getD_getElem?]
      by_cases hk : k < ops.size
      · simp [hk]
      · simp [Array.getElem?_eq_none (show (Array.replicate ops.size false).size ≤ k by simpa using hk)]
    have hnoopt : ∀ g p x, AV.opt g p x ∉ tm := fun g p x hx => by
      have := List.all_eq_true.1 hno _ hx
      simp [noOptB] at this
    have hD : Din P G nb ops H c w (fun tm1 => adoptFrom P ops (allocsOf ops) (clearOpt tm1) H fun tm2 H2 => opsW P G ops (ops.toList.drop (headN ops)) tm2 H2 K) (Array.replicate ops.size false) a { w with drawn := w.drawn + 1 } c tm [] (ordOf ops) (fun _ => 0) (fun _ => False) := by
      refine { hr := hR.hr.drew _, gr := hR.gr.ext (Ext.drew c w _), ext := Ext.drew c w _, keep := Keep.refl _ _, df := hR.df.ext (Ext.drew c w _), lsz := by simp, closed := ?_, len := ?_, rng := ?_, slot := ?_, opt := ?_, v := h, ord := hd.ord, dn := ?_, dh := ?_, unl := fun i _ => hlst i, pend := ?_, fresh := ?_, binj := ?_, tail := fun j _ => hlst j }
      · intro j i hj _
        have : lst (Array.replicate ops.size false) j = true := hj
        rw [hlst] at this; cases this
      · have := hR.tm.1; simpa using this.symm
      · intro k o d hk hdk
        have := List.all_eq_true.1 hrng o (by simpa using Array.mem_of_getElem? hk)
        rw [hdk] at this
        simpa using this
      · intro t x v hx hv _
        have := hR.tm.2 t v x (by simpa using hv) hx
        exact this.ext (Ext.drew c w _) (Keep.refl _ _)
      · intro t g p x hx
        exact absurd (List.mem_of_getElem? hx) (hnoopt g p x)
      · intro k hk; simp at hk
      · intro k hk; simp at hk
      · intro k hk; simp at hk
      · intro i o T _ _ _ hl; rw [hlst] at hl; cases hl
      · intro i i' o o' T T' _ _ _ _ _ _ hl; rw [hlst] at hl; cases hl
    obtain ⟨tm', done', r', hD', hrc⟩ := hD.advance hd
    refine mid_any hd hal hq ops.size _ a _ ?_ ⟨c, tm', done', r', _, hD', hrc⟩
    have := List.countP_le_length (p := fun i => !lst (Array.replicate ops.size false) i) (l := List.range ops.size)
    simpa [unlN] using this
  · exact h.elim
end
end Go.Sx
/- Regions that draw their order and grow slices on the way: definitions, and what does not hang on growing slices. -/
namespace Go.Sx
open Go

def isGrow : Op → Bool
  | .call { callee := .builtin .append, .. } => true
  | _ => false

def headT (ops : Array Oper) : Nat := ops.toList.findIdx fun o => isTail o.op && !isGrow o.op
def headsT (ops : Array Oper) : List Nat := (List.range (headT ops)).filter fun i => !isAllocO (opAt ops i).op
def ordT (ops : Array Oper) : List Nat := eager ops (headT ops) (headsT ops) []
def allocsT (ops : Array Oper) : List Nat := (List.range (headT ops)).filter fun i => isAllocO (opAt ops i).op

def drawTOk (ops : Array Oper) : Bool :=
  nodupB (ops.toList.filterMap (·.dst)) &&
  ((List.range ops.size).all fun j => (opAt ops j).after.toList.all fun e => !Region.binds .any e || decide (e.on < j)) &&
  (decide (headT ops ≤ ops.size) && (List.range ops.size).all fun j => decide (j < headT ops) || (List.range j).all fun i => bit ops j i) &&
  ((List.range (headT ops)).all fun j => !isAllocO (opAt ops j).op || ((opAt ops j).guard.isNone && (opAt ops j).dst.isSome)) &&
  ordOk ops (headsT ops) (ordT ops) [] &&
  ((List.range (headT ops)).all fun j => !isTail (opAt ops j).op || (isGrow (opAt ops j).op && (opAt ops j).guard.isNone && (List.range j).all fun i => !isTail (opAt ops i).op || bit ops j i))

/-- A call with data alone. -/
def datO (P : Program) (G : Nat → Option (List D)) (o : Oper) (tags : List (Nat × Bool)) (tm : List AV) : Bool :=
  match o.op with
  | .call { callee := .value f, args, argTypes := _ } =>
    match calleeAV (ev G (getT tags tm) f) with
    | some (_, fi, ca) => ((fi ++ args.toList.map (ev G (getT tags tm)) ++ ca).mapM avD).isSome
    | none => false
  | _ => true

def stepDat (P : Program) (G : Nat → Option (List D)) (ops : Array Oper) (i : Nat) (tv : List AV) : Bool :=
  match (opAt ops i).guard with
  | none => datO P G (opAt ops i) [] tv
  | some (j, p) =>
    match (ops[j]?).bind (·.dst) with
    | some g =>
      match chain 9 tv g p with
      | some (tags, _) => datO P G (opAt ops i) tags tv
      | none => false
    | none => false

def ordTW (P : Program) (G : Nat → Option (List D)) (ops : Array Oper) (Hb : List Box) : List Nat → List AV → List Box → (List AV → List Box → Prop) → Prop
  | [], tm, H, K => K tm H
  | i :: r, tm, H, K =>
    if isTail (opAt ops i).op then opW P G (opAt ops i) [] True (hide ops i tm) H fun av H' => ordTW P G ops Hb r (setN tm (opAt ops i).dst (dull av)) H' K
    else if stepDat P G ops i (hide ops i tm) then stepD P G ops i (hide ops i tm) Hb fun _ a _ => ordTW P G ops Hb r (setN tm (opAt ops i).dst a) H K
    else False

def drawT (P : Program) (G : Nat → Option (List D)) (ops : Array Oper) (tm : List AV) (H : List Box) (K : List AV → List Box → Prop) : Prop :=
  if drawTOk ops && tm.all noOptB && (ops.toList.all fun o => match o.dst with | some d => decide (d < tm.length) | none => true) && (ops.toList.all fun o => match o.op with | .alloc T => (zeroV P T).isSome | _ => true) then
    ordTW P G ops H (ordT ops) tm H fun tm1 H1 => adoptFrom P ops (allocsT ops) (clearOpt tm1) H1 fun tm2 H2 => opsW P G ops (ops.toList.drop (headT ops)) tm2 H2 K
  else False

/-- Later boxes: whatever is no growing slice is as it was. -/
def HLe (H H' : List Box) : Prop := ∀ (l : Nat) x, H[l]? = some x → (∃ n sz, x = .vec n sz) ∨ H'[l]? = some x
theorem HLe.refl (H : List Box) : HLe H H := fun _ _ h => .inr h
theorem HLe.trans {A B C : List Box} (h1 : HLe A B) (h2 : HLe B C) : HLe A C := by
  intro l x h
  rcases h1 l x h with hv | hx
  · exact .inl hv
  · exact h2 l x hx

section
variable {P : Program} {G : Nat → Option (List D)} {nb : Nat} {rd : Option Nat} {c : Cx} {H H' : List Box} {w : World} {tm : List AV} {a : Act} {ops : Array Oper}

theorem opF_le {e : Operand → AV} {o : Op} {r : AV × Prop} (hl : HLe H H') (h : opF P e H o = some r) : opF P e H' o = some r := by
  cases o with
  | load T x =>
    simp only [opF] at h ⊢
    cases hx : e x with
    | ptr l q =>
      rw [hx] at h
      simp only at h ⊢
      cases hb : H[l]? with
      | none => rw [hb] at h; cases h
      | some b =>
        rw [hb] at h
        cases b with
        | cells T' cs =>
          rcases hl l _ hb with ⟨n, sz, hv⟩ | hv
          · cases hv
          · rw [hv]; exact h
        | _ => cases h
    | _ => rw [hx] at h; exact h
  | lookup T x k ok =>
    simp only [opF] at h ⊢
    cases hx : e x with
    | map l =>
      rw [hx] at h
      cases hk : avD1 (e k) with
      | none => rw [hk] at h; cases h
      | some kd =>
        rw [hk] at h
        simp only at h ⊢
        cases hb : H[l]? with
        | none => rw [hb] at h; cases h
        | some b =>
          rw [hb] at h
          cases b with
          | map es =>
            rcases hl l _ hb with ⟨n, sz, hv⟩ | hv
            · cases hv
            · rw [hv]; exact h
          | _ => cases h
    | d y =>
      rw [hx] at h
      cases y <;> first
        | exact h
        | (cases hk : avD1 (e k) <;> rw [hk] at h <;> exact h)
    | _ => rw [hx] at h; exact h
  | call cc =>
    obtain ⟨callee, args, types⟩ := cc
    cases callee with
    | builtin b => cases b <;> exact h
    | _ => exact h
  | unOp q T x => cases q <;> exact h
  | slice T x lo hi mx => cases mx <;> first | exact h | (cases lo <;> cases hi <;> exact h)
  | makeFunc f x y => cases f <;> exact h
  | _ => exact h

theorem grow_le {e : Operand → AV} {o : Op} {av : AV} {F : Prop} (hg : isGrow o = true) (h : hopF P e H o = some (av, H', F)) : HLe H H' := by
  cases o with
  | call cc =>
    obtain ⟨callee, args, types⟩ := cc
    cases callee with
    | builtin b =>
      cases b <;> simp [isGrow] at hg
      simp only [hopF] at h
      split at h
      · split at h
        · unfold appendF at h
          split at h
          · split at h
            · split at h
              · split at h
                · split at h
                  · split at h
                    · cases h
                      intro l x hx
                      exact .inr (get_snoc_some hx)
                    · split at h
                      · rename_i l _ _ _ _ _ hb
                        cases h
                        intro l' x hx
                        by_cases e' : l = l'
                        · subst e'; rw [hb] at hx; cases hx; exact .inl ⟨_, _, rfl⟩
                        · right; rw [List.getElem?_set]; rw [if_neg e']; exact hx
                      · cases h
                    · cases h
                  · cases h
                · cases h
              · cases h
            · cases h
          · cases h
        · cases h
      · cases h
    | _ => simp [isGrow] at hg
  | _ => simp [isGrow] at hg

theorem opW_le {o : Oper} {tags : List (Nat × Bool)} {C : Prop} {K : AV → List Box → Prop} (h1 : isTail o.op = false) (h2 : isAllocO o.op = false) (hl : HLe H H') (hd : datO P G o tags tm = true) (h : opW P G o tags C tm H K) :
    opW P G o tags C tm H' fun av H2 => H2 = H' ∧ K av H := by
  unfold opW at h ⊢
  split at h
  · split at h
    · exact ⟨by first | rfl | trivial, h⟩
    · exact h.elim
  · rename_i f args types hop
    unfold datO at hd
    rw [hop] at hd
    simp only at hd
    split at h
    · rename_i k fi ca hcal
      simp only [hcal] at hd ⊢
      split at h
      · rename_i hok
        rw [if_pos hok]
        split at h
        · exact h.mono fun rs hrs => exTys_mono _ _ _ (fun ds hd => ⟨hd.1, by first | rfl | trivial, hd.2⟩) hrs
        · rename_i hn
          rw [hn] at hd; cases hd
      · exact h.elim
    · exact h.elim
  · unfold restW at h ⊢
    cases hf : opF P (ev G (getT tags tm)) H o.op with
    | none =>
      rw [hf] at h
      simp only [hopF_head h1 h2] at h
      cases tags <;> exact h.elim
    | some q =>
      obtain ⟨av, F⟩ := q
      rw [opF_le hl hf]
      rw [hf] at h
      simp only at h ⊢
      split at h
      · rename_i ht; rw [if_pos ht]; exact ⟨by first | rfl | trivial, h⟩
      · rename_i ht; rw [if_neg ht]; cases tags <;> exact ⟨h.1, by first | rfl | trivial, h.2⟩

theorem stepD_le {i : Nat} {tv : List AV} {K : AV → AV → List Box → Prop} (h1 : isTail (opAt ops i).op = false) (h2 : isAllocO (opAt ops i).op = false) (hl : HLe H H') (hd : stepDat P G ops i tv = true) (h : stepD P G ops i tv H K) :
    stepD P G ops i tv H' fun av a2 H2 => H2 = H' ∧ K av a2 H := by
  unfold stepD at h ⊢
  unfold stepDat at hd
  split at h
  · rename_i hg
    rw [hg] at hd
    exact opW_le h1 h2 hl hd h
  · rename_i j p hg
    rw [hg] at hd
    split at h
    · rename_i g hgd
      simp only [hgd] at hd
      split at h
      · exact h.elim
      · rename_i hne
        simp only [if_neg hne]
        split at h
        · rename_i tags C hch
          rw [hch] at hd
          exact opW_le h1 h2 hl hd h
        · exact h.elim
    · exact h.elim

/-- An operation that grows a slice gives one value and one set of boxes. -/
theorem grow_ways {o : Oper} {K : AV → List Box → Prop} (hg : isGrow o.op = true) (h : opW P G o [] True tm H K) :
    ∃ av H', HLe H H' ∧ K av H' ∧ ∀ K2 : AV → List Box → Prop, K2 av H' → opW P G o [] True tm H K2 := by
  unfold opW at h
  split at h
  · rename_i hop; rw [hop] at hg; simp [isGrow] at hg
  · rename_i hop; rw [hop] at hg; simp [isGrow] at hg
  · rename_i hp hc
    have e : ∀ K2 : AV → List Box → Prop, opW P G o [] True tm H K2 = restW P (ev G (getT [] tm)) H o.op [] True K2 := by
      intro K2
      unfold opW
      split
      · rename_i h3; exact absurd h3 (hp _ _ _)
      · rename_i h3; exact absurd h3 (hc _ _ _)
      · rfl
    simp only [e]
    unfold restW at h ⊢
    cases hf : opF P (ev G (getT [] tm)) H o.op with
    | some q =>
      rw [hf] at h
      obtain ⟨av, F⟩ := q
      simp only at h ⊢
      split at h
      · rename_i ht; exact ⟨av, H, HLe.refl H, h, fun K2 hk => by rw [if_pos ht]; exact hk⟩
      · rename_i ht; exact ⟨av, H, HLe.refl H, h.2, fun K2 hk => by rw [if_neg ht]; exact ⟨h.1, hk⟩⟩
    | none =>
      rw [hf] at h
      simp only at h ⊢
      cases hh : hopF P (ev G (getT [] tm)) H o.op with
      | none => rw [hh] at h; exact h.elim
      | some q =>
        rw [hh] at h
        obtain ⟨av, H', F⟩ := q
        simp only at h ⊢
        split at h
        · rename_i ht; exact ⟨av, H', grow_le hg hh, h, fun K2 hk => by rw [if_pos ht]; exact hk⟩
        · rename_i ht; exact ⟨av, H', grow_le hg hh, h.2, fun K2 hk => by rw [if_neg ht]; exact ⟨h.1, hk⟩⟩
end
end Go.Sx
/- Regions that draw their order and grow slices on the way: the invariant, and its steps. -/
namespace Go.Sx
open Go

structure DOkT (ops : Array Oper) : Prop where
  nodup : (ops.toList.filterMap (·.dst)).Nodup
  edges : ∀ j o, ops[j]? = some o → ∀ e ∈ o.after.toList, Region.binds .any e = true → e.on < j
  le : headT ops ≤ ops.size
  tails : ∀ j, j < ops.size → headT ops ≤ j → ∀ i, i < j → bit ops j i = true
  allocs : ∀ j o, ops[j]? = some o → j < headT ops → isAllocO o.op = true → o.guard = none ∧ ∃ d, o.dst = some d
  ord : ordOk ops (headsT ops) (ordT ops) [] = true
  grow : ∀ j, j < headT ops → isTail (opAt ops j).op = true → isGrow (opAt ops j).op = true ∧ (opAt ops j).guard = none ∧ ∀ i, i < j → isTail (opAt ops i).op = true → bit ops j i = true

theorem drawTOk_spec {ops : Array Oper} (h : drawTOk ops = true) : DOkT ops := by
  simp only [drawTOk, Bool.and_eq_true] at h
  obtain ⟨⟨⟨⟨⟨h1, h2⟩, h0, h3⟩, h4⟩, h5⟩, h6⟩ := h
  have hle : headT ops ≤ ops.size := of_decide_eq_true h0
  refine ⟨nodupB_spec h1, fun j o ho e he hb => ?_, hle, fun j hj hh i hi => ?_, fun j o ho hj ha => ?_, h5, fun j hj ht => ?_⟩
  · have := List.all_eq_true.1 h2 j (by simp; exact lt_of_get ho)
    rw [opAt_get ho] at this
    have := List.all_eq_true.1 this e he
    simpa [hb] using this
  · have := List.all_eq_true.1 h3 j (by simpa using hj)
    simp only [Bool.or_eq_true, decide_eq_true_eq] at this
    rcases this with h | h
    · omega
    · exact List.all_eq_true.1 h i (by simpa using hi)
  · have := List.all_eq_true.1 h4 j (by simpa using hj)
    rw [opAt_get ho] at this
    simp only [ha, Bool.not_true, Bool.false_or, Bool.and_eq_true] at this
    exact ⟨by simpa using this.1, Option.isSome_iff_exists.1 this.2⟩
  · have := List.all_eq_true.1 h6 j (by simpa using hj)
    simp only [ht, Bool.not_true, Bool.false_or, Bool.and_eq_true] at this
    refine ⟨this.1.1, by simpa using this.1.2, fun i hi hti => ?_⟩
    have := List.all_eq_true.1 this.2 i (by simpa using hi)
    simpa [hti] using this

theorem bitT_lt {ops : Array Oper} (hd : DOkT ops) : ∀ (j i : Nat), bit ops j i = true → i < j := by
  intro j
  induction j using Nat.strongRecOn with
  | _ j ih =>
    intro i hb
    have hj : j < ops.size := by
      rcases Nat.lt_or_ge j ops.size with h | h
      · exact h
      · unfold bit masks at hb
        rw [List.getD_eq_getElem?_getD, List.getElem?_eq_none (by rw [(masksFrom_get ops.toList [] j).1]; simpa using h)] at hb
        simp at hb
    obtain ⟨e, he, hbe, h1⟩ := bit_edge (get_opAt hj) hb
    have := hd.edges j _ (get_opAt hj) e he hbe
    rcases h1 with rfl | ⟨_, h1⟩
    · exact this
    · have := ih e.on this i h1
      omega

theorem bitT_self {ops : Array Oper} (hd : DOkT ops) (i : Nat) : bit ops i i = false := by
  cases h : bit ops i i with
  | false => rfl
  | true => exact absurd (bitT_lt hd i i h) (Nat.lt_irrefl _)

theorem dstT_inj {ops : Array Oper} (hd : DOkT ops) {i j d : Nat} {oi oj : Oper} (hi : ops[i]? = some oi) (hj : ops[j]? = some oj) (h1 : oi.dst = some d) (h2 : oj.dst = some d) : i = j := by
  have key : ∀ (l : List Oper) (i j : Nat) (oi oj : Oper), (l.filterMap (·.dst)).Nodup → l[i]? = some oi → l[j]? = some oj → oi.dst = some d → oj.dst = some d → i = j := by
    intro l
    induction l with
    | nil => intro i j oi oj _ h; simp at h
    | cons o l ih =>
      intro i j oi oj hn hi hj h1 h2
      have hmem : ∀ (k : Nat) (ok : Oper), l[k]? = some ok → ok.dst = some d → d ∈ l.filterMap (·.dst) := fun k ok hk hdk => List.mem_filterMap.2 ⟨ok, List.mem_of_getElem? hk, hdk⟩
      cases i with
      | zero =>
        simp at hi; subst hi
        cases j with
        | zero => rfl
        | succ j =>
          simp at hj
          rw [List.filterMap_cons_some h1, List.nodup_cons] at hn
          exact absurd (hmem j oj hj h2) hn.1
      | succ i =>
        simp at hi
        cases j with
        | zero =>
          simp at hj; subst hj
          rw [List.filterMap_cons_some h2, List.nodup_cons] at hn
          exact absurd (hmem i oi hi h1) hn.1
        | succ j =>
          simp at hj
          have hn' : (l.filterMap (·.dst)).Nodup := by
            cases hod : o.dst with
            | none => rw [List.filterMap_cons_none hod] at hn; exact hn
            | some x => rw [List.filterMap_cons_some hod, List.nodup_cons] at hn; exact hn.2
          rw [ih i j oi oj hn' hi hj h1 h2]
  exact key ops.toList i j oi oj hd.nodup (by simpa using hi) (by simpa using hj) h1 h2

section
variable {P : Program} {G : Nat → Option (List D)} {nb : Nat} {rd : Option Nat} {ops : Array Oper} {Hb : List Box} {c0 : Cx} {w0 : World} {Kend : List AV → List Box → Prop}

/-- An operation whose value is told ahead of its run. -/
def PendT (P : Program) (G : Nat → Option (List D)) (ops : Array Oper) (i : Nat) (tm : List AV) (Hb : List Box) : Prop :=
  stepDat P G ops i (hide ops i tm) = true ∧ stepD P G ops i (hide ops i tm) Hb fun _ a2 _ => ∀ d, (opAt ops i).dst = some d → d < tm.length → tm[d]? = some a2

/-- The growing operations that are told and not run, in their order. -/
def ChainT (P : Program) (G : Nat → Option (List D)) (ops : Array Oper) (tm : List AV) : List Box → List Nat → List Box → Prop
  | H, [], Ha => Ha = H
  | H, i :: q, Ha => ∃ av H', HLe H H' ∧ (∀ K2 : AV → List Box → Prop, K2 av H' → opW P G (opAt ops i) [] True (hide ops i tm) H K2) ∧ (∀ d, (opAt ops i).dst = some d → d < tm.length → tm[d]? = some (dull av)) ∧ ChainT P G ops tm H' q Ha

theorem ChainT.snoc {tm : List AV} {i : Nat} {Ha Ha' : List Box} (h2 : ChainT P G ops tm Ha [i] Ha') : ∀ (q : List Nat) (H : List Box), ChainT P G ops tm H q Ha → ChainT P G ops tm H (q ++ [i]) Ha'
  | [], H, h => by
    have h : Ha = H := h
    subst h; exact h2
  | j :: q, H, h => by
    obtain ⟨av, H', a1, a2, a3, a4⟩ := h
    exact ⟨av, H', a1, a2, a3, ChainT.snoc h2 q H' a4⟩

theorem ChainT.set {tm : List AV} {i : Nat} {x : AV} (hd : DOkT ops) (hi : i < ops.size) : ∀ (q : List Nat) (H Ha : List Box), (∀ k ∈ q, k ≠ i ∧ k < ops.size ∧ bit ops k i = false) → ChainT P G ops tm H q Ha → ChainT P G ops (setN tm (opAt ops i).dst x) H q Ha
  | [], H, Ha, _, h => h
  | j :: q, H, Ha, hq, h => by
    obtain ⟨av, H', a1, a2, a3, a4⟩ := h
    obtain ⟨b1, b2, b3⟩ := hq j (by simp)
    refine ⟨av, H', a1, ?_, fun d hdd hlt => ?_, ChainT.set hd hi q H' Ha (fun k hk => hq k (by simp [hk])) a4⟩
    · rw [hide_setN (get_opAt hi) b3]; exact a2
    · rw [setN_len] at hlt
      rw [setN_get (fun e => b1 (dstT_inj hd (get_opAt b2) (get_opAt hi) hdd e))]
      exact a3 d hdd hlt

/-- The state in the middle of a region's head. -/
structure DinT (P : Program) (G : Nat → Option (List D)) (nb : Nat) (ops : Array Oper) (Hb : List Box) (c0 : Cx) (w0 : World) (Kend : List AV → List Box → Prop) (listed : Array Bool) (a : Act) (w : World) (c : Cx) (Hc Ha : List Box) (tm : List AV) (done r pq : List Nat) (B : Nat → Nat) (X : Nat → Prop) : Prop where
  hr : HR c Hc w
  gr : GR G c w
  ext : Ext c0 w0 c w
  keep : Keep c0 Hb c Hc
  hle : HLe Hb Hc
  df : Dfs nb c w a.defers
  lsz : listed.size = ops.size
  closed : Closed ops listed
  len : tm.length = a.tmps.size
  rng : ∀ (k : Nat) o d, ops[k]? = some o → o.dst = some d → d < tm.length
  slot : ∀ (t : Nat) x v, tm[t]? = some x → a.tmps[t]? = some v → (∀ (k : Nat) o, ops[k]? = some o → o.dst = some t → headT ops ≤ k ∨ (lst listed k = true ∧ isAllocO o.op = false)) → SlotR c Hc w a.tmps x v
  opt : ∀ (t g : Nat) p x, tm[t]? = some (.opt g p x) → ∃ (i j : Nat) (oi oj : Oper), ops[i]? = some oi ∧ ops[j]? = some oj ∧ oi.dst = some t ∧ oj.dst = some g ∧ bit ops i j = true ∧ i < headT ops
  v : ordTW P G ops Hb r tm Ha Kend
  ord : ordOk ops (headsT ops) r done = true
  dn : ∀ k ∈ done, ∀ i ∈ headsT ops, bit ops k i = true → i ∈ done
  dh : ∀ k ∈ done, k ∈ headsT ops
  unl : ∀ i ∈ r, lst listed i = false
  pend : ∀ i ∈ done, lst listed i = false → isTail (opAt ops i).op = false → ¬ X i → PendT P G ops i tm Hb
  pqa : ∀ i ∈ done, lst listed i = false → isTail (opAt ops i).op = true → i ∈ pq
  pqb : ∀ i ∈ pq, i ∈ done ∧ lst listed i = false ∧ isTail (opAt ops i).op = true
  pqs : pq.Pairwise (· < ·)
  chain : ChainT P G ops tm Hc pq Ha
  fresh : ∀ (i : Nat) o T, ops[i]? = some o → o.op = .alloc T → i < headT ops → lst listed i = true → ∃ d, o.dst = some d ∧ a.tmps[d]? = some (.pointer (some ⟨B i, 0, none⟩)) ∧ Owned P c w (B i) T ∧ w0.heap.size ≤ B i
  binj : ∀ (i i' : Nat) o o' T T', ops[i]? = some o → ops[i']? = some o' → o.op = .alloc T → o'.op = .alloc T' → i < headT ops → i' < headT ops → lst listed i = true → lst listed i' = true → B i = B i' → i = i'
  tail : ∀ j, headT ops ≤ j → lst listed j = false

theorem headsT_mem {i : Nat} : i ∈ headsT ops ↔ i < headT ops ∧ isAllocO (opAt ops i).op = false := by simp [headsT]
theorem headT_get (hd : DOkT ops) {i : Nat} (h : i ∈ headsT ops) : ops[i]? = some (opAt ops i) := get_opAt (Nat.lt_of_lt_of_le (headsT_mem.1 h).1 hd.le)

section
variable {listed : Array Bool} {a : Act} {w : World} {c : Cx} {Hc Ha : List Box} {tm : List AV} {done r pq : List Nat} {B : Nat → Nat} {X : Nat → Prop}

/-- The abstract side goes on by one operation that is not run yet. -/
theorem DinT.note {i : Nat} {r' : List Nat} {a2 : AV} {Ha' : List Box} (hd : DOkT ops) (h : DinT P G nb ops Hb c0 w0 Kend listed a w c Hc Ha tm done (i :: r') pq B X) (hv : ordTW P G ops Hb r' (setN tm (opAt ops i).dst a2) Ha' Kend)
    (hopt : ∀ g p x, a2 = .opt g p x → ∃ (j : Nat) (oj : Oper), ops[j]? = some oj ∧ oj.dst = some g ∧ bit ops i j = true)
    (hp : isTail (opAt ops i).op = false → ¬ X i → PendT P G ops i (setN tm (opAt ops i).dst a2) Hb) (hs : isTail (opAt ops i).op = false → Ha' = Ha) (hg : isTail (opAt ops i).op = true → ChainT P G ops (setN tm (opAt ops i).dst a2) Ha [i] Ha') :
    DinT P G nb ops Hb c0 w0 Kend listed a w c Hc Ha' (setN tm (opAt ops i).dst a2) (done ++ [i]) r' (if isTail (opAt ops i).op then pq ++ [i] else pq) B X := by
  obtain ⟨hih, hid⟩ := ordOk_mem h.ord i (by simp)
  have hoi := headT_get hd hih
  have hisz : i < ops.size := lt_of_get hoi
  have hul := h.unl i (by simp)
  have hord := h.ord
  simp only [ordOk, Bool.and_eq_true, Bool.not_eq_true'] at hord
  obtain ⟨⟨⟨⟨_, _⟩, hpre⟩, _⟩, hrest⟩ := hord
  have hnb : ∀ k ∈ done, bit ops k i = false := fun k hk => by
    cases hbb : bit ops k i with
    | false => rfl
    | true => exact absurd (h.dn k hk i hih hbb) hid
  have hne' : ∀ k ∈ done, k ≠ i := fun k hk e => hid (e ▸ hk)
  have hch := ChainT.set (x := a2) hd hisz pq Hc Ha (fun k hk => ⟨hne' k (h.pqb k hk).1, lt_of_get (headT_get hd (h.dh k (h.pqb k hk).1)), hnb k (h.pqb k hk).1⟩) h.chain
  refine { hr := h.hr, gr := h.gr, ext := h.ext, keep := h.keep, hle := h.hle, df := h.df, lsz := h.lsz, closed := h.closed, len := by rw [setN_len]; exact h.len, rng := by rw [setN_len]; exact h.rng, slot := ?_, opt := ?_, v := hv, ord := hrest, dn := ?_, dh := ?_, unl := fun k hk => h.unl k (by simp [hk]), pend := ?_, pqa := ?_, pqb := ?_, pqs := ?_, chain := ?_, fresh := h.fresh, binj := h.binj, tail := h.tail }
  · intro t x v hx hv hall
    have hne : (opAt ops i).dst ≠ some t := fun e => by
      rcases hall i _ hoi e with h1 | ⟨h1, _⟩
      · have := (headsT_mem.1 hih).1; omega
      · rw [hul] at h1; cases h1
    rw [setN_get hne] at hx
    exact h.slot t x v hx hv hall
  · intro t g p x hx
    by_cases e : (opAt ops i).dst = some t
    · have hx2 : a2 = .opt g p x := by
        rw [e] at hx
        simp only [setN] at hx
        rw [List.getElem?_set] at hx
        simp only [if_true] at hx
        split at hx
        · simpa using hx
        · simp at hx
      obtain ⟨j, oj, h1, h2, h3⟩ := hopt g p x hx2
      exact ⟨i, j, _, oj, hoi, h1, e, h2, h3, (headsT_mem.1 hih).1⟩
    · rw [setN_get e] at hx
      exact h.opt t g p x hx
  · intro k hk m hm hb
    rcases List.mem_append.1 hk with hk | hk
    · exact List.mem_append.2 (.inl (h.dn k hk m hm hb))
    · simp at hk; subst hk
      have := List.all_eq_true.1 hpre m hm
      simp only [hb, Bool.not_true, Bool.false_or] at this
      exact List.mem_append.2 (.inl (List.contains_iff_mem.1 this))
  · intro k hk
    rcases List.mem_append.1 hk with hk | hk
    · exact h.dh k hk
    · simp at hk; subst hk; exact hih
  · intro k hk hkl hkt hkx
    rcases List.mem_append.1 hk with hk | hk
    · have hki := hne' k hk
      have hp := h.pend k hk hkl hkt hkx
      unfold PendT at hp ⊢
      rw [hide_setN hoi (hnb k hk)]
      refine ⟨hp.1, ?_⟩
      have hok := headT_get hd (h.dh k hk)
      have hp2 := hp.2
      revert hp2
      have : (fun (_ : AV) (a3 : AV) (_ : List Box) => ∀ d, (opAt ops k).dst = some d → d < tm.length → tm[d]? = some a3) = fun _ a3 _ => ∀ d, (opAt ops k).dst = some d → d < (setN tm (opAt ops i).dst a2).length → (setN tm (opAt ops i).dst a2)[d]? = some a3 := by
        funext _ a3 _
        rw [setN_len]
        refine propext (forall_congr' fun d => forall_congr' fun hd' => ?_)
        rw [setN_get (fun e => hki (dstT_inj hd hok hoi hd' e))]
      rw [← this]
      exact fun h => h
    · simp at hk; subst hk; exact hp hkt hkx
  · intro k hk hkl hkt
    rcases List.mem_append.1 hk with hk | hk
    · have := h.pqa k hk hkl hkt
      split
      · simp [this]
      · exact this
    · simp at hk; subst hk
      rw [if_pos hkt]; simp
  · intro k hk
    split at hk
    · rename_i ht
      rcases List.mem_append.1 hk with hk | hk
      · obtain ⟨b1, b2, b3⟩ := h.pqb k hk
        exact ⟨by simp [b1], b2, b3⟩
      · simp at hk; subst hk; exact ⟨by simp, hul, ht⟩
    · obtain ⟨b1, b2, b3⟩ := h.pqb k hk
      exact ⟨by simp [b1], b2, b3⟩
  · split
    · rename_i ht
      refine List.pairwise_append.2 ⟨h.pqs, List.pairwise_singleton _ _, fun k hk m hm => ?_⟩
      simp at hm; subst hm
      obtain ⟨b1, _, b3⟩ := h.pqb k hk
      rcases Nat.lt_trichotomy k m with h1 | h1 | h1
      · exact h1
      · exact absurd h1 (hne' k b1)
      · have := (hd.grow k (headsT_mem.1 (h.dh k b1)).1 b3).2.2 m h1 ht
        rw [hnb k b1] at this; cases this
    · exact h.pqs
  · split
    · rename_i ht; exact ChainT.snoc (hg ht) pq Hc hch
    · rename_i ht; rw [hs (by simpa using ht)]; exact hch

/-- Evaluate whatever is no call. -/
theorem DinT.advance (hd : DOkT ops) : ∀ {r : List Nat} {tm : List AV} {Ha : List Box} {done pq : List Nat}, DinT P G nb ops Hb c0 w0 Kend listed a w c Hc Ha tm done r pq B X →
    ∃ tm' Ha' done' r' pq', DinT P G nb ops Hb c0 w0 Kend listed a w c Hc Ha' tm' done' r' pq' B X ∧ (r' = [] ∨ ∃ i r'', r' = i :: r'' ∧ isCallV (opAt ops i).op = true)
  | [], tm, Ha, done, pq, h => ⟨tm, Ha, done, [], pq, h, .inl rfl⟩
  | i :: r, tm, Ha, done, pq, h => by
    cases hc : isCallV (opAt ops i).op with
    | true => exact ⟨tm, Ha, done, i :: r, pq, h, .inr ⟨i, r, rfl, hc⟩⟩
    | false =>
      obtain ⟨hih, hid⟩ := ordOk_mem h.ord i (by simp)
      have hoi := headT_get hd hih
      have hv := h.v
      simp only [ordTW] at hv
      have ha : isAllocO (opAt ops i).op = false := (headsT_mem.1 hih).2
      cases ht : isTail (opAt ops i).op with
      | true =>
        rw [if_pos ht] at hv
        obtain ⟨hg1, hg2, _⟩ := hd.grow i (headsT_mem.1 hih).1 ht
        obtain ⟨av, H', hl, hk, hall⟩ := grow_ways hg1 hv
        refine DinT.advance hd (h.note (Ha' := H') hd hk (fun g p x hx => by cases av <;> simp [dull] at hx) (fun h0 => by rw [ht] at h0; cases h0) (fun h0 => by rw [ht] at h0; cases h0) fun _ => ⟨av, H', hl, ?_, fun d hdd hlt => ?_, rfl⟩)
        · rw [hide_setN hoi (bitT_self hd i)]; exact hall
        · rw [setN_len] at hlt
          rw [hdd]
          simp [setN, hlt]
      | false =>
        rw [if_neg (by rw [ht]; decide)] at hv
        split at hv
        · rename_i hdat
          obtain ⟨av, a2, ⟨hk, hform⟩, hpend⟩ := stepD_one hc ht ha (stepD_form hv)
          refine DinT.advance hd (h.note (Ha' := Ha) hd hk (fun g p x hx => ?_) (fun _ _ => ⟨?_, ?_⟩) (fun _ => rfl) (fun h0 => by rw [ht] at h0; cases h0))
          · obtain ⟨j, hj1, hj2⟩ := hform g p x hx
            exact stepD_opt hv g p ⟨j, hj1, hj2⟩
          · rw [hide_setN hoi (bitT_self hd i)]; exact hdat
          · rw [hide_setN hoi (bitT_self hd i)]
            have hkk : ∀ (a3 : AV) (H2 : List Box), (H2 = Hb ∧ a3 = a2) → (∀ d, (opAt ops i).dst = some d → d < (setN tm (opAt ops i).dst a2).length → (setN tm (opAt ops i).dst a2)[d]? = some a3) := by
              rintro a3 H2 ⟨rfl, rfl⟩ d hdd hlt
              rw [setN_len] at hlt
              rw [hdd]
              simp [setN, hlt]
            unfold stepD at hpend ⊢
            split at hpend
            · rcases opW_ways ht ha hpend with ⟨av2, h4, h5⟩ | ⟨h4, _⟩
              · exact h5 _ (hkk _ _ h4)
              · rw [hc] at h4; cases h4
            · split at hpend
              · split at hpend
                · exact hpend.elim
                · rename_i hne
                  rw [if_neg hne]
                  split at hpend
                  · rcases opW_ways ht ha hpend with ⟨av2, h4, h5⟩ | ⟨h4, _⟩
                    · exact h5 _ (hkk _ _ h4)
                    · rw [hc] at h4; cases h4
                  · exact hpend.elim
              · exact hpend.elim
        · exact hv.elim

/-- All that an operation looks at stands. -/
theorem DinT.rep (h : DinT P G nb ops Hb c0 w0 Kend listed a w c Hc Ha tm done r pq B X) {i : Nat} (hb : ∀ k, bit ops i k = true → lst listed k = true) : Rep G nb c Hc w (hide ops i tm) a := by
  refine ⟨h.hr, h.gr, ⟨by rw [hide_get (t := 0).1, h.len]; simp, fun t v x hv hx => ?_⟩, h.df⟩
  simp only [Array.getElem?_toList] at hv
  by_cases hh : Hid ops i t
  · rw [hide_get.2.1 hh] at hx
    cases hy : tm[t]? with
    | none => rw [hy] at hx; simp at hx
    | some y => rw [hy] at hx; simp at hx; subst hx; exact RA.any v
  · rw [hide_get.2.2 hh] at hx
    refine h.slot t x v hx hv fun k o hk hdst => ?_
    have : bit ops i k = true ∧ isAllocO o.op = false := by
      rcases Classical.em (bit ops i k = true ∧ isAllocO o.op = false) with h1 | h1
      · exact h1
      · exact absurd ⟨k, o, hk, hdst, h1⟩ hh
    exact .inr ⟨hb k this.1, this.2⟩

/-- An operation whose value stands on the abstract side is run. -/
theorem DinT.ran {i : Nat} {v : Value} {c' : Cx} {w' : World} {a2 : AV} {Hc' : List Box} {pq' : List Nat} (hd : DOkT ops) (h : DinT P G nb ops Hb c0 w0 Kend listed a w c Hc Ha tm done r pq B X) (hX : ∀ m, X m → m = i) (hdone : i ∈ done) (hul : lst listed i = false) (hb : ∀ k, bit ops i k = true → lst listed k = true)
    (ha2 : ∀ d, (opAt ops i).dst = some d → d < tm.length → tm[d]? = some a2) (e : Ext c w c' w') (k : Keep c Hc c' Hc') (hl : HLe Hc Hc') (hr : HR c' Hc' w') (hs : SlotR c' Hc' w' (a.put (opAt ops i).dst v).tmps a2 v)
    (hq : (isTail (opAt ops i).op = false ∧ Hc' = Hc ∧ pq' = pq) ∨ (isTail (opAt ops i).op = true ∧ pq = i :: pq' ∧ ChainT P G ops tm Hc' pq' Ha)) :
    DinT P G nb ops Hb c0 w0 Kend (listed.setIfInBounds i true) (a.put (opAt ops i).dst v) w' c' Hc' Ha tm done r pq' B (fun _ => False) := by
  have hih := h.dh i hdone
  have hoi := headT_get hd hih
  have hi : i < ops.size := lt_of_get hoi
  have hoth : ∀ t, (opAt ops i).dst ≠ some t → (a.put (opAt ops i).dst v).tmps[t]? = a.tmps[t]? := by
    intro t hne
    cases hdst : (opAt ops i).dst with
    | none => rfl
    | some d =>
      rw [put_tmps, Array.getElem?_setIfInBounds]
      have : d ≠ t := fun e => hne (by rw [hdst, e])
      simp [this]
  refine { hr := hr, gr := h.gr.ext e, ext := h.ext.trans e, keep := h.keep.trans k, hle := h.hle.trans hl, df := ?_, lsz := by simp [h.lsz], closed := Closed.add' h.lsz hi h.closed hb, len := ?_, rng := h.rng, slot := ?_, opt := h.opt, v := h.v, ord := h.ord, dn := h.dn, dh := h.dh, unl := ?_, pend := ?_, pqa := ?_, pqb := ?_, pqs := ?_, chain := ?_, fresh := ?_, binj := ?_, tail := ?_ }
  · cases hdst : (opAt ops i).dst <;> exact h.df.ext e
  · rw [h.len]
    cases hdst : (opAt ops i).dst with
    | none => rfl
    | some d => rw [put_tmps]; simp
  · intro t x u hx hu hall
    by_cases et : (opAt ops i).dst = some t
    · have hlt : t < tm.length := by rcases Nat.lt_or_ge t tm.length with h' | h'; exact h'; simp [List.getElem?_eq_none h'] at hx
      rw [ha2 t et hlt] at hx
      simp at hx; subst hx
      have : u = v := by
        rw [et, put_tmps, Array.getElem?_setIfInBounds] at hu
        simp only [if_true] at hu
        split at hu
        · simpa using hu.symm
        · rename_i hge; rw [h.len] at hlt; exact absurd hlt hge
      subst this
      exact hs
    · rw [hoth t et] at hu
      have h1 := h.slot t x u hx hu fun m o hm hdm => by
        rcases hall m o hm hdm with h4 | ⟨h2, h3⟩
        · exact .inl h4
        · rw [lst_set h.lsz hi] at h2
          have : m ≠ i := fun e' => et (by rw [e'] at hm; rw [hm] at hoi; simp at hoi; rw [← hoi]; exact hdm)
          rw [if_neg this] at h2
          exact .inr ⟨h2, h3⟩
      have h2 := h1.ext e k
      cases x <;> first
        | exact h2
        | skip
      rename_i g p y
      simp only [SlotR] at h2 ⊢
      have hg : (a.put (opAt ops i).dst v).tmps[g]? = a.tmps[g]? := by
        refine hoth g fun eg => ?_
        obtain ⟨i1, j1, oi1, oj1, a1, a2', a3, a4, a5, a6⟩ := h.opt t g p y hx
        have hl := ((hall i1 oi1 a1 a3).resolve_left (by omega)).1
        have hi1 : i1 ≠ i := fun e' => et (by rw [e'] at a1; rw [a1] at hoi; simp at hoi; rw [← hoi]; exact a3)
        rw [lst_set h.lsz hi, if_neg hi1] at hl
        have hj := h.closed i1 j1 hl a5
        have : j1 = i := dstT_inj hd a2' hoi a4 eg
        rw [this] at hj
        have hj' : lst listed i = true := hj
        rw [hul] at hj'; cases hj'
      rw [hg]
      exact h2
  · intro m hm
    rw [lst_set h.lsz hi]
    have hne : m ≠ i := fun e' => by
      have := (ordOk_mem h.ord m hm).2
      exact this (e' ▸ hdone)
    rw [if_neg hne]
    exact h.unl m hm
  · intro m hm hml hmt _
    rw [lst_set h.lsz hi] at hml
    split at hml
    · cases hml
    · rename_i hmi; exact h.pend m hm hml hmt (fun hx => hmi (hX m hx))
  · intro m hm hml hmt
    rw [lst_set h.lsz hi] at hml
    split at hml
    · cases hml
    · rename_i hmi
      have := h.pqa m hm hml hmt
      rcases hq with ⟨_, _, rfl⟩ | ⟨_, h2, _⟩
      · exact this
      · rw [h2] at this
        rcases List.mem_cons.1 this with e' | e'
        · exact absurd e' hmi
        · exact e'
  · intro m hm
    have hmp : m ∈ pq ∧ m ≠ i := by
      rcases hq with ⟨h1, _, rfl⟩ | ⟨_, h2, _⟩
      · refine ⟨hm, fun e' => ?_⟩
        have := (h.pqb m hm).2.2
        rw [e', h1] at this; cases this
      · refine ⟨by rw [h2]; simp [hm], fun e' => ?_⟩
        have := h.pqs
        rw [h2] at this
        have := (List.pairwise_cons.1 this).1 m hm
        omega
    obtain ⟨b1, b2, b3⟩ := h.pqb m hmp.1
    exact ⟨b1, by rw [lst_set h.lsz hi, if_neg hmp.2]; exact b2, b3⟩
  · rcases hq with ⟨_, _, rfl⟩ | ⟨_, h2, _⟩
    · exact h.pqs
    · have := h.pqs
      rw [h2] at this
      exact (List.pairwise_cons.1 this).2
  · rcases hq with ⟨_, rfl, rfl⟩ | ⟨_, _, h3⟩
    · exact h.chain
    · exact h3
  · intro m o T hm hop hmh hml
    have hne : m ≠ i := fun e' => by
      have h1 := (headsT_mem.1 hih).2
      rw [e'] at hm
      rw [opAt_get hm, hop] at h1
      simp [isAllocO] at h1
    rw [lst_set h.lsz hi, if_neg hne] at hml
    obtain ⟨d, h1, h2, h3⟩ := h.fresh m o T hm hop hmh hml
    refine ⟨d, h1, ?_, h3.1.ext e, h3.2⟩
    rw [hoth d fun e' => hne (dstT_inj hd hm hoi h1 e')]
    exact h2
  · intro m m' o o' T T' hm hm' h1 h2 h3 h4 h5 h6 h7
    have key : ∀ (q : Nat) oq Tq, ops[q]? = some oq → oq.op = .alloc Tq → q ≠ i := fun q oq Tq hq hoq e' => by
      have h1 := (headsT_mem.1 hih).2
      rw [e'] at hq
      rw [opAt_get hq, hoq] at h1
      simp [isAllocO] at h1
    rw [lst_set h.lsz hi, if_neg (key m o T hm h1)] at h5
    rw [lst_set h.lsz hi, if_neg (key m' o' T' hm' h2)] at h6
    exact h.binj m m' o o' T T' hm hm' h1 h2 h3 h4 h5 h6 h7
  · intro j hj
    rw [lst_set h.lsz hi]
    have : j ≠ i := fun e' => by have := (headsT_mem.1 hih).1; omega
    rw [if_neg this]
    exact h.tail j hj
end
end
end Go.Sx
/- Regions that draw their order and grow slices on the way: the runs, all together. -/
namespace Go.Sx
open Go

section
variable {P : Program} {G : Nat → Option (List D)} {nb : Nat} {rd : Option Nat} {ops : Array Oper} {Hb : List Box} {c0 : Cx} {w0 : World} {Kend : List AV → List Box → Prop} {listed : Array Bool} {a : Act} {w : World} {c : Cx} {Hc Ha : List Box} {tm : List AV} {done r pq : List Nat} {B : Nat → Nat}

/-- Somewhere in the head. -/
def MidT (P : Program) (G : Nat → Option (List D)) (nb : Nat) (ops : Array Oper) (Hb : List Box) (c0 : Cx) (w0 : World) (Kend : List AV → List Box → Prop) (listed : Array Bool) (a : Act) (w : World) : Prop :=
  ∃ c Hc Ha tm done r pq B, DinT P G nb ops Hb c0 w0 Kend listed a w c Hc Ha tm done r pq B (fun _ => False) ∧ (r = [] ∨ ∃ i r', r = i :: r' ∧ isCallV (opAt ops i).op = true)

/-- An alloc of the head is run. -/
theorem DinT.alloc {i : Nat} {T : TypeId} {z : Value} (hd : DOkT ops) (h : DinT P G nb ops Hb c0 w0 Kend listed a w c Hc Ha tm done r pq B (fun _ => False)) (hi : i < headT ops) (hop : (opAt ops i).op = .alloc T) (hz : zeroV P T = some z) (hul : lst listed i = false) (hb : ∀ k, bit ops i k = true → lst listed k = true) :
    DinT P G nb ops Hb c0 w0 Kend (listed.setIfInBounds i true) (a.put (opAt ops i).dst (.pointer (some ⟨w.heap.size, 0, none⟩))) { w with heap := w.heap.push (.cells z.cells T) } c Hc Ha tm done r pq (fun k => if k = i then w.heap.size else B k) (fun _ => False) := by
  have hisz : i < ops.size := Nat.lt_of_lt_of_le hi hd.le
  have hoi := get_opAt hisz
  obtain ⟨_, d, hdst⟩ := hd.allocs i _ hoi hi (by rw [hop]; rfl)
  have e := Ext.push_free c w (.cells z.cells T) h.hr.ilt h.hr.jlt
  have hoth : ∀ t, d ≠ t → (a.put (opAt ops i).dst (.pointer (some ⟨w.heap.size, 0, none⟩))).tmps[t]? = a.tmps[t]? := by
    intro t hne
    rw [hdst, put_tmps, Array.getElem?_setIfInBounds]
    simp [hne]
  have hnd : ∀ k ∈ done, k ≠ i := fun k hk e' => by
    have := (headsT_mem.1 (h.dh k hk)).2
    rw [e', hop] at this; simp [isAllocO] at this
  have hnr : ∀ k ∈ r, k ≠ i := fun k hk e' => by
    have := (headsT_mem.1 (ordOk_mem h.ord k hk).1).2
    rw [e', hop] at this; simp [isAllocO] at this
  refine { hr := h.hr.push_free _, gr := h.gr.ext e, ext := h.ext.trans e, keep := h.keep, hle := h.hle, df := ?_, lsz := by simp [h.lsz], closed := Closed.add' h.lsz hisz h.closed hb, len := ?_, rng := h.rng, slot := ?_, opt := h.opt, v := h.v, ord := h.ord, dn := h.dn, dh := h.dh, unl := ?_, pend := ?_, pqa := ?_, pqb := ?_, pqs := h.pqs, chain := h.chain, fresh := ?_, binj := ?_, tail := ?_ }
  · rw [hdst]; exact h.df.ext e
  · rw [h.len, hdst, put_tmps]; simp
  · intro t x u hx hu hall
    have hne : d ≠ t := fun e' => by
      have := ((hall i _ hoi (by rw [hdst, e'])).resolve_left (by omega)).2
      rw [hop] at this; simp [isAllocO] at this
    rw [hoth t hne] at hu
    have h1 := h.slot t x u hx hu fun m o hm hdm => by
      rcases hall m o hm hdm with h4 | ⟨h2, h3⟩
      · exact .inl h4
      · rw [lst_set h.lsz hisz] at h2
        have : m ≠ i := fun e' => by rw [e', hoi] at hm; simp at hm; rw [← hm, hdst] at hdm; simp at hdm; exact hne hdm
        rw [if_neg this] at h2
        exact .inr ⟨h2, h3⟩
    have h2 := h1.ext e (Keep.refl c Hc)
    cases x <;> first
      | exact h2
      | skip
    rename_i g p y
    simp only [SlotR] at h2 ⊢
    have hg : (a.put (opAt ops i).dst (.pointer (some ⟨w.heap.size, 0, none⟩))).tmps[g]? = a.tmps[g]? := by
      refine hoth g fun eg => ?_
      obtain ⟨i1, j1, oi1, oj1, a1, a2', a3, a4, a5, a6⟩ := h.opt t g p y hx
      have hl := ((hall i1 oi1 a1 a3).resolve_left (by omega)).1
      have hi1 : i1 ≠ i := fun e' => by rw [e', hoi] at a1; simp at a1; rw [← a1, hdst] at a3; simp at a3; exact hne a3
      rw [lst_set h.lsz hisz, if_neg hi1] at hl
      have hj := h.closed i1 j1 hl a5
      have : j1 = i := dstT_inj hd a2' hoi a4 (by rw [hdst, eg])
      rw [this] at hj
      have hj' : lst listed i = true := hj
      rw [hul] at hj'; cases hj'
    rw [hg]
    exact h2
  · intro m hm
    rw [lst_set h.lsz hisz, if_neg (hnr m hm)]
    exact h.unl m hm
  · intro m hm hml hmt hx
    rw [lst_set h.lsz hisz, if_neg (hnd m hm)] at hml
    exact h.pend m hm hml hmt hx
  · intro m hm hml hmt
    rw [lst_set h.lsz hisz, if_neg (hnd m hm)] at hml
    exact h.pqa m hm hml hmt
  · intro m hm
    obtain ⟨b1, b2, b3⟩ := h.pqb m hm
    exact ⟨b1, by rw [lst_set h.lsz hisz, if_neg (hnd m b1)]; exact b2, b3⟩
  · intro m o T' hm hop' hmh hml
    by_cases e' : m = i
    · subst e'
      rw [hoi] at hm
      simp at hm
      subst hm
      rw [hop] at hop'
      cases hop'
      refine ⟨d, hdst, ?_, ?_⟩
      · rw [hdst, put_tmps, Array.getElem?_setIfInBounds]
        have hlt : d < a.tmps.size := by have := h.rng m _ d hoi hdst; rw [h.len] at this; exact this
        simp [hlt]
      · simp only [if_true]
        refine ⟨⟨by simp, ⟨z, hz, by simp⟩, fun l k hl => ?_, fun o ho => ?_, fun hj => ?_⟩, h.ext.size⟩
        · have := h.hr.lt l _ k hl; omega
        · have := h.hr.ilt _ o ho; omega
        · have := h.hr.jlt _ hj; omega
    · rw [lst_set h.lsz hisz, if_neg e'] at hml
      obtain ⟨d', h1, h2, h3⟩ := h.fresh m o T' hm hop' hmh hml
      simp only [if_neg e']
      refine ⟨d', h1, ?_, h3.1.ext e, h3.2⟩
      rw [hoth d' fun e2 => e' (dstT_inj hd hm hoi h1 (by rw [hdst, e2]))]
      exact h2
  · intro m m' o o' T1 T2 hm hm' h1 h2 h3 h4 h5 h6 h7
    rw [lst_set h.lsz hisz] at h5 h6
    by_cases e1 : m = i <;> by_cases e2 : m' = i
    · omega
    · rw [if_pos e1, if_neg e2] at h7
      rw [if_neg e2] at h6
      obtain ⟨_, _, _, h8⟩ := h.fresh m' o' T2 hm' h2 h4 h6
      have := h8.1.1; omega
    · rw [if_neg e1, if_pos e2] at h7
      rw [if_neg e1] at h5
      obtain ⟨_, _, _, h8⟩ := h.fresh m o T1 hm h1 h3 h5
      have := h8.1.1; omega
    · rw [if_neg e1, if_neg e2] at h7
      rw [if_neg e1] at h5
      rw [if_neg e2] at h6
      exact h.binj m m' o o' T1 T2 hm hm' h1 h2 h3 h4 h5 h6 h7
  · intro j hj
    rw [lst_set h.lsz hisz]
    have : j ≠ i := fun e' => by omega
    rw [if_neg this]
    exact h.tail j hj

/-- Any operation of the head that is ready is run. -/
theorem MidT.step {Q : Exit → Act → World → Prop} {i : Nat} (hd : DOkT ops) (hal : ∀ (k : Nat) o T, ops[k]? = some o → o.op = .alloc T → k < headT ops → ∃ z, zeroV P T = some z) (h : MidT P G nb ops Hb c0 w0 Kend listed a w) (hi : i < headT ops) (hul : lst listed i = false) (hb : ∀ k, bit ops i k = true → lst listed k = true) :
    wpOpIn (Fen rd) 0 P ops Q i (fun a' w' => MidT P G nb ops Hb c0 w0 Kend (listed.setIfInBounds i true) a' w') a w := by
  obtain ⟨c, Hc, Ha, tm, done, r, pq, B, hD, hrc⟩ := h
  have hisz : i < ops.size := Nat.lt_of_lt_of_le hi hd.le
  have hoi := get_opAt hisz
  cases ha : isAllocO (opAt ops i).op with
  | true =>
    cases hop : (opAt ops i).op <;> rw [hop] at ha <;> simp [isAllocO] at ha
    rename_i T
    obtain ⟨z, hz⟩ := hal i _ T hoi hop hi
    refine wpOp_at hoi (hd.allocs i _ hoi hi (by rw [hop]; rfl)).1 ?_
    refine ⟨fun _ _ => trivial, ?_⟩
    rw [Oper.semAt_eq _ _ _ (by rw [hop]; intro d hd; cases hd), run_alloc_op hop hz]
    exact ⟨c, Hc, Ha, tm, done, r, pq, _, hD.alloc hd hi hop hz hul hb, hrc⟩
  | false =>
    have hih : i ∈ headsT ops := headsT_mem.2 ⟨hi, ha⟩
    have hrep := hD.rep hb
    rcases ordOk_all hD.ord i hih with hdone | hr
    · cases ht : isTail (opAt ops i).op with
      | true =>
        obtain ⟨_, hgn, hgo⟩ := hd.grow i hi ht
        have hip := hD.pqa i hdone hul ht
        obtain ⟨q, hq⟩ : ∃ q, pq = i :: q := by
          cases hpq : pq with
          | nil => rw [hpq] at hip; simp at hip
          | cons j q =>
            by_cases e : j = i
            · exact ⟨q, by rw [e]⟩
            · exfalso
              have hs := hD.pqs
              rw [hpq] at hs hip
              have hiq : i ∈ q := by
                rcases List.mem_cons.1 hip with h1 | h1
                · exact absurd h1.symm e
                · exact h1
              have hlt := (List.pairwise_cons.1 hs).1 i hiq
              obtain ⟨_, b2, b3⟩ := hD.pqb j (by rw [hpq]; simp)
              have := hb j (hgo j hlt b3)
              rw [b2] at this; cases this
        have hch := hD.chain
        rw [hq] at hch
        obtain ⟨av, H', hl, hall, htm, hrest⟩ := hch
        refine wpOp_at hoi hgn ?_
        refine opW_sound hrep (fun g p h => by simp [hasTag] at h) trivial (hall (fun av2 H2 => av2 = av ∧ H2 = H') ⟨rfl, rfl⟩) ?_
        intro v w' c' av2 H2 hk e k hr hra
        obtain ⟨rfl, rfl⟩ := hk
        exact ⟨c', H2, Ha, tm, done, r, q, B, hD.ran hd (fun m hm => hm.elim) hdone hul hb htm e k hl hr (slot_dull hra) (.inr ⟨ht, hq, hrest⟩), hrc⟩
      | false =>
        have hp := hD.pend i hdone hul ht (fun h => h)
        refine stepD_sound hoi hrep ht ha (stepD_le ht ha hD.hle hp.1 hp.2) fun v w' c' av a2 hk e k hr hs => ?_
        exact ⟨c', Hc, Ha, tm, done, r, pq, B, hD.ran hd (fun m hm => hm.elim) hdone hul hb hk.2 e k (HLe.refl _) hr hs (.inl ⟨ht, rfl, rfl⟩), hrc⟩
    · rcases hrc with rfl | ⟨i0, r', rfl, hcall⟩
      · simp at hr
      · have hi0 : i = i0 := by
          rcases List.mem_cons.1 hr with e | hr'
          · exact e
          · have hord := hD.ord
            simp only [ordOk, Bool.and_eq_true] at hord
            have h1 := hord.1.2
            simp only [hcall, Bool.not_true, Bool.false_or] at h1
            have h2 := List.all_eq_true.1 h1 i hr'
            have h3 := hb i0 h2
            have h4 := hD.unl i0 (by simp)
            rw [h3] at h4; cases h4
        subst hi0
        have ht : isTail (opAt ops i).op = false := by
          cases hop : (opAt ops i).op <;> rw [hop] at hcall <;> simp [isCallV] at hcall
          rename_i cc
          obtain ⟨callee, args, types⟩ := cc
          cases callee <;> simp [isCallV] at hcall
          rfl
        have hv := hD.v
        simp only [ordTW] at hv
        rw [if_neg (by rw [ht]; decide)] at hv
        split at hv
        · rename_i hdat
          refine stepD_sound hoi hrep ht ha (stepD_le ht ha hD.hle hdat (stepD_form hv)) fun v w' c' av a2 hk e k hr2 hs => ?_
          obtain ⟨_, hk, hform⟩ := hk
          have hDX : DinT P G nb ops Hb c0 w0 Kend listed a w c Hc Ha tm done (i :: r') pq B (fun m => m = i) := { hD with pend := fun m hm hml hmt hx => hD.pend m hm hml hmt (fun h => h) }
          have hN := hDX.note (Ha' := Ha) hd hk (fun g p x hx => by
            obtain ⟨j, hj1, hj2⟩ := hform g p x hx
            exact stepD_opt hv g p ⟨j, hj1, hj2⟩) (fun _ hx => absurd rfl hx) (fun _ => rfl) (fun h0 => by rw [ht] at h0; cases h0)
          rw [if_neg (by rw [ht]; decide)] at hN
          have hRan := hN.ran hd (fun m hm => hm) (by simp) hul hb (fun d hdd hlt => by
            rw [setN_len] at hlt
            rw [hdd]
            simp [setN, hlt]) e k (HLe.refl _) hr2 hs (.inl ⟨ht, rfl, rfl⟩)
          obtain ⟨tm3, Ha3, done3, r3, pq3, hD3, hrc3⟩ := hRan.advance hd
          exact ⟨c', Hc, Ha3, tm3, done3, r3, pq3, B, hD3, hrc3⟩
        · exact hv.elim

theorem midT_done {K : List AV → List Box → Prop} {Q : Exit → Act → World → Prop} {fuel : Nat} (hd : DOkT ops)
    (hq : ∀ a' w' c' tm' H', K tm' H' → Rep G nb c' H' w' tm' a' → Ext c0 w0 c' w' → Keep c0 Hb c' H' → Q .normal a' w') (hf : unlN ops listed ≤ fuel) (hall : ∀ i, i < headT ops → lst listed i = true)
    (hM : MidT P G nb ops Hb c0 w0 (fun tm1 H1 => adoptFrom P ops (allocsT ops) (clearOpt tm1) H1 fun tm2 H2 => opsW P G ops (ops.toList.drop (headT ops)) tm2 H2 K) listed a w) : wpAnyIn (Fen rd) 0 P .any ops Q fuel listed a w := by
  obtain ⟨c, Hc, Ha, tm, done, r, pq, B, hD, hrc⟩ := hM
  have hr : r = [] := by
    rcases hrc with h | ⟨i, r', rfl, _⟩
    · exact h
    · have h1 := hD.unl i (by simp)
      have h2 := hall i (headsT_mem.1 (ordOk_mem hD.ord i (by simp)).1).1
      rw [h2] at h1; cases h1
  subst hr
  have hpq : pq = [] := by
    cases hpq : pq with
    | nil => rfl
    | cons j q =>
      obtain ⟨b1, b2, _⟩ := hD.pqb j (by rw [hpq]; simp)
      have := hall j (headsT_mem.1 (hD.dh j b1)).1
      rw [this] at b2; cases b2
  subst hpq
  have hHa : Ha = Hc := hD.chain
  subst hHa
  have hk := hD.v
  simp only [ordTW] at hk
  have hsz : ∀ k, k ∈ allocsT ops → k < ops.size := fun k hk => by
    simp only [allocsT, List.mem_filter, List.mem_range] at hk
    exact Nat.lt_of_lt_of_le hk.1 hd.le
  have hown : ∀ i ∈ allocsT ops, ∃ T d, (opAt ops i).op = .alloc T ∧ (opAt ops i).dst = some d ∧ a.tmps[d]? = some (.pointer (some ⟨B i, 0, none⟩)) ∧ Owned P c w (B i) T ∧ w0.heap.size ≤ B i := by
    intro i hi
    simp only [allocsT, List.mem_filter, List.mem_range] at hi
    cases hop : (opAt ops i).op <;> rw [hop] at hi <;> simp [isAllocO] at hi
    rename_i T
    obtain ⟨d, h1, h2, h3, h4⟩ := hD.fresh i _ T (get_opAt (Nat.lt_of_lt_of_le hi hd.le)) hop hi (hall i hi)
    exact ⟨T, d, rfl, h1, h2, h3, h4⟩
  have hLeft : Left P G nb ops Hb c0 w0 a w B (allocsT ops) (clearOpt tm) Ha c := by
    refine { hr := hD.hr, gr := hD.gr, ext := hD.ext, keep := hD.keep, df := hD.df, len := by simp [clearOpt, hD.len], no := ?_, slot := ?_, own := hown, nd := ?_, inj := ?_ }
    · intro g p x hm
      simp only [clearOpt, List.mem_map] at hm
      obtain ⟨y, _, hy⟩ := hm
      cases y <;> simp [dull] at hy
    · intro t x v hx hv hno
      simp only [clearOpt, List.getElem?_map] at hx
      cases hy : tm[t]? with
      | none => rw [hy] at hx; simp at hx
      | some y =>
        rw [hy] at hx; simp at hx; subst hx
        have hs := hD.slot t y v hy hv fun k o hk hdk => by
          rcases Nat.lt_or_ge k (headT ops) with h1 | h1
          · right
            refine ⟨hall k h1, ?_⟩
            cases ha : isAllocO o.op with
            | false => rfl
            | true =>
              have hka : k ∈ allocsT ops := by
                simp only [allocsT, List.mem_filter, List.mem_range]
                exact ⟨h1, by rw [opAt_get hk]; exact ha⟩
              exact absurd (by rw [opAt_get hk]; exact hdk) (hno k hka)
          · exact .inl h1
        cases y <;> first
          | exact hs
          | exact RA.any v
    · exact List.Nodup.sublist (List.filter_sublist) (List.nodup_range)
    · intro i hi j hj hB
      have hi' := hi
      have hj' := hj
      simp only [allocsT, List.mem_filter, List.mem_range] at hi' hj'
      obtain ⟨T, d, o1, _⟩ := hown i hi
      obtain ⟨T', d', o2, _⟩ := hown j hj
      exact hD.binj i j _ _ T T' (get_opAt (hsz i hi)) (get_opAt (hsz j hj)) o1 o2 hi'.1 hj'.1 (hall i hi'.1) (hall j hj'.1) hB
  obtain ⟨tm2, H2, c2, hk2, hR2, he2, hkp2⟩ := adopt_sound hsz (allocsT ops) (clearOpt tm) Ha c (fun _ h => h) hLeft hk
  refine tail_any hd.edges hd.tails fuel (headT ops) listed c2 H2 w tm2 a (Nat.le_refl _) hd.le hD.lsz (fun k hk => ⟨fun h => ?_, fun h => hall k h⟩) hD.closed ?_ hR2 hk2 fun a' w' c' tm' H' hk' hR' e k => hq a' w' c' tm' H' hk' hR' (he2.trans e) (hkp2.trans k)
  · rcases Nat.lt_or_ge k (headT ops) with h1 | h1
    · exact h1
    · have := hD.tail k h1
      rw [h] at this; cases this
  · refine Nat.le_trans (countP_tail (headT ops) ops.size fun k h1 _ => ?_) hf
    rw [hD.tail k h1]; rfl

theorem midT_any {K : List AV → List Box → Prop} {Q : Exit → Act → World → Prop} (hd : DOkT ops) (hal : ∀ (k : Nat) o T, ops[k]? = some o → o.op = .alloc T → k < headT ops → ∃ z, zeroV P T = some z)
    (hq : ∀ a' w' c' tm' H', K tm' H' → Rep G nb c' H' w' tm' a' → Ext c0 w0 c' w' → Keep c0 Hb c' H' → Q .normal a' w') : ∀ (fuel : Nat) (listed : Array Bool) (a : Act) (w : World), unlN ops listed ≤ fuel →
    MidT P G nb ops Hb c0 w0 (fun tm1 H1 => adoptFrom P ops (allocsT ops) (clearOpt tm1) H1 fun tm2 H2 => opsW P G ops (ops.toList.drop (headT ops)) tm2 H2 K) listed a w → wpAnyIn (Fen rd) 0 P .any ops Q fuel listed a w := by
  intro fuel
  induction fuel with
  | zero =>
    intro listed a w hf hM
    refine midT_done hd hq hf (fun i hi => ?_) hM
    cases hx : lst listed i with
    | true => rfl
    | false =>
      have : 0 < unlN ops listed := List.countP_pos_iff.2 ⟨i, by simp; exact Nat.lt_of_lt_of_le hi hd.le, by simp [hx]⟩
      omega
  | succ fuel ih =>
    intro listed a w hf hM
    by_cases hall : ∀ i, i < headT ops → lst listed i = true
    · exact midT_done hd hq hf hall hM
    · have hex : ∃ i, i < headT ops ∧ lst listed i = false := by
        rcases Classical.em (∃ i, i < headT ops ∧ lst listed i = false) with h | h
        · exact h
        · exact absurd (fun i hi => by
            cases hx : lst listed i with
            | true => rfl
            | false => exact absurd ⟨i, hi, hx⟩ h) hall
      obtain ⟨i0, h1, h2, h3⟩ := least_unlisted (headT ops) hex
      have hlsz : listed.size = ops.size := by obtain ⟨_, _, _, _, _, _, _, _, hD, _⟩ := hM; exact hD.lsz
      have hcl : Closed ops listed := by obtain ⟨_, _, _, _, _, _, _, _, hD, _⟩ := hM; exact hD.closed
      have hi0 : i0 < ops.size := Nat.lt_of_lt_of_le h1 hd.le
      have hready : i0 ∈ Region.ready .any ops listed := (ready_iff hlsz).2 ⟨_, get_opAt hi0, h2, fun e he hb => h3 _ (hd.edges i0 _ (get_opAt hi0) e he hb)⟩
      refine ⟨fun h0 => by rw [h0] at hready; simp at hready, fun i hi => ?_⟩
      obtain ⟨o, ho, hul, _⟩ := (ready_iff hlsz).1 hi
      have hb : ∀ k, bit ops i k = true → lst listed k = true := ready_bits hcl ho hi
      have hisz := lt_of_get ho
      have hih : i < headT ops := by
        rcases Nat.lt_or_ge i (headT ops) with h | h
        · exact h
        · exact absurd (fun k hk => hb k (hd.tails i hisz h k (by omega))) hall
      refine wpOpIn_mono (fun a' w' hM' => ih _ a' w' ?_ hM') (MidT.step hd hal hM hih hul hb)
      have hdec : unlN ops (listed.setIfInBounds i true) + 1 ≤ unlN ops listed := countP_set (p := fun k => !lst listed k) (q := fun k => !lst (listed.setIfInBounds i true) k) (i := i) (List.range ops.size) (fun k hk => by
        rw [lst_set hlsz hisz] at hk
        split at hk
        · simp at hk
        · exact hk) (by simp [hul]) (by rw [lst_set hlsz hisz]; simp) (by simpa using hisz)
      omega

theorem drawT_sound {id : Nat} {H : List Box} {K : List AV → List Box → Prop} {Q : Exit → Act → World → Prop} (hm : P.follows .mixedOrders = true) (hR : Rep G nb c H w tm a) (h : drawT P G ops tm H K)
    (hq : ∀ a' w' c' tm' H', K tm' H' → Rep G nb c' H' w' tm' a' → Ext c w c' w' → Keep c H c' H' → Q .normal a' w') : (Code.region id ops true).wpIn (Fen rd) 0 P Q a w := by
  unfold drawT at h
  split at h
  · rename_i hok
    simp only [Bool.and_eq_true] at hok
    obtain ⟨⟨⟨hok, hno⟩, hrng⟩, halz⟩ := hok
    have hd := drawTOk_spec hok
    refine wpIn_region_any hm ?_
    have hal : ∀ (k : Nat) o T, ops[k]? = some o → o.op = .alloc T → k < headT ops → ∃ z, zeroV P T = some z := by
      intro k o T hk hop _
      have := List.all_eq_true.1 halz o (by simpa using Array.mem_of_getElem? hk)
      rw [hop] at this
      exact Option.isSome_iff_exists.1 this
    have hlst : ∀ k, lst (Array.replicate ops.size false) k = false := by
      intro k
      unfold lst
      rw [Array.getD_eq_getD_getElem?]
      by_cases hk : k < ops.size
      · simp [hk]
      · simp [Array.getElem?_eq_none (show (Array.replicate ops.size false).size ≤ k by simpa using hk)]
    have hnoopt : ∀ g p x, AV.opt g p x ∉ tm := fun g p x hx => by
      have := List.all_eq_true.1 hno _ hx
      simp [noOptB] at this
    have hD : DinT P G nb ops H c w (fun tm1 H1 => adoptFrom P ops (allocsT ops) (clearOpt tm1) H1 fun tm2 H2 => opsW P G ops (ops.toList.drop (headT ops)) tm2 H2 K) (Array.replicate ops.size false) a { w with drawn := w.drawn + 1 } c H H tm [] (ordT ops) [] (fun _ => 0) (fun _ => False) := by
      refine { hr := hR.hr.drew _, gr := hR.gr.ext (Ext.drew c w _), ext := Ext.drew c w _, keep := Keep.refl _ _, hle := HLe.refl _, df := hR.df.ext (Ext.drew c w _), lsz := by simp, closed := ?_, len := ?_, rng := ?_, slot := ?_, opt := ?_, v := h, ord := hd.ord, dn := ?_, dh := ?_, unl := fun i _ => hlst i, pend := ?_, pqa := ?_, pqb := ?_, pqs := List.Pairwise.nil, chain := rfl, fresh := ?_, binj := ?_, tail := fun j _ => hlst j }
      · intro j i hj _
        have : lst (Array.replicate ops.size false) j = true := hj
        rw [hlst] at this; cases this
      · have := hR.tm.1; simpa using this.symm
      · intro k o d hk hdk
        have := List.all_eq_true.1 hrng o (by simpa using Array.mem_of_getElem? hk)
        rw [hdk] at this
        simpa using this
      · intro t x v hx hv _
        have := hR.tm.2 t v x (by simpa using hv) hx
        exact this.ext (Ext.drew c w _) (Keep.refl _ _)
      · intro t g p x hx
        exact absurd (List.mem_of_getElem? hx) (hnoopt g p x)
      · intro k hk; simp at hk
      · intro k hk; simp at hk
      · intro k hk; simp at hk
      · intro k hk; simp at hk
      · intro k hk; simp at hk
      · intro i o T _ _ _ hl; rw [hlst] at hl; cases hl
      · intro i i' o o' T T' _ _ _ _ _ _ hl; rw [hlst] at hl; cases hl
    obtain ⟨tm', Ha', done', r', pq', hD', hrc⟩ := hD.advance hd
    refine midT_any hd hal hq ops.size _ a _ ?_ ⟨c, H, Ha', tm', done', r', pq', _, hD', hrc⟩
    have := List.countP_le_length (p := fun i => !lst (Array.replicate ops.size false) i) (l := List.range ops.size)
    simpa [unlN] using this
  · exact h.elim

/-- A region that draws its order, either way. -/
def drawX (P : Program) (G : Nat → Option (List D)) (ops : Array Oper) (tm : List AV) (H : List Box) (K : List AV → List Box → Prop) : Prop :=
  if drawOk ops then drawW P G ops tm H K else drawT P G ops tm H K

theorem drawX_sound {id : Nat} {H : List Box} {K : List AV → List Box → Prop} {Q : Exit → Act → World → Prop} (hm : P.follows .mixedOrders = true) (hR : Rep G nb c H w tm a) (h : drawX P G ops tm H K)
    (hq : ∀ a' w' c' tm' H', K tm' H' → Rep G nb c' H' w' tm' a' → Ext c w c' w' → Keep c H c' H' → Q .normal a' w') : (Code.region id ops true).wpIn (Fen rd) 0 P Q a w := by
  unfold drawX at h
  split at h
  · exact drawW_sound hm hR h hq
  · exact drawT_sound hm hR h hq
end
end Go.Sx
/- The walk over code; functions of plain data. -/
namespace Go.Sx
open Go

abbrev Post := Exit → List AV → List Box → Prop
abbrev Loops := Nat → Option (List AV → List Box → Post → Prop)

def loopId : Code → Nat
  | .region id _ _ => id
  | .seq a _ => loopId a
  | .cond _ a _ => loopId a
  | .block _ c => loopId c
  | .loop c => loopId c
  | .scope c => 1000000 + loopId c
  | _ => 0

/-- A range over a function, with the region that calls for the function. -/
def rangeId : Code → Code → Option Nat
  | .region id _ false, .block _ (.rangeFunc _ _ _ _) => some id
  | _, _ => none

def isScope : Code → Bool
  | .scope _ => true
  | _ => false

/-- The pieces of code that are told: a loop by its body, a range over a function in a 'scope'. -/
def mkLoop : Code → Code
  | .scope c => c
  | c => .loop c

def seqQ (K : List AV → List Box → Prop) (Q : Post) : Post := fun e tm H =>
  match e with
  | .normal => K tm H
  | e => Q e tm H

def blockQ (id : Nat) (Q : Post) : Post := fun e tm H =>
  match e with
  | .exit i => if i = id then Q .normal tm H else Q (.exit i) tm H
  | e => Q e tm H

/-- A branch: both ways; or, where the loops' table says so, the way that the value takes. -/
def branchW (L : Loops) (t : Bool) (A B : Prop) : Prop :=
  match L 999999 with
  | none => (t = true → A) ∧ (t = false → B)
  | some _ => cond t A B

theorem branchW_sound {L : Loops} {t : Bool} {A B : Prop} (h : branchW L t A B) : (t = true → A) ∧ (t = false → B) := by
  unfold branchW at h
  split at h
  · exact h
  · cases t
    · exact ⟨fun e => (by cases e), fun _ => h⟩
    · exact ⟨fun _ => h, fun e => (by cases e)⟩

/-- A region that ends by holding a slice against nil. -/
def nilLast (P : Program) (ops : Array Oper) : Option (Operand × Nat) :=
  match ops.toList.getLast? with
  | some o =>
    match o.guard, o.op, o.dst with
    | none, .binOp .eql T x (.const (.slice none 0 0)) _, some d =>
      match P.underlying T with
      | some (.slice _) => some (x, d)
      | _ => none
    | _, _, _ => none
  | none => none

def pw (P : Program) (G : Nat → Option (List D)) (L : Loops) : Code → List AV → List Box → Post → Prop
  | .skip, tm, H, Q => Q .normal tm H
  | .label _, tm, H, Q => Q .normal tm H
  | .exit id, tm, H, Q => Q (.exit id) tm H
  | .ret, tm, H, Q => Q .ret tm H
  | .seq a b, tm, H, Q =>
    match rangeId a b with
    | some id => match L (1000000 + id) with
      | some W => W tm H Q
      | none => False
    | none => pw P G L a tm H (seqQ (fun tm' H' => pw P G L b tm' H' Q) Q)
  | .cond x a b, tm, H, Q =>
    match ev G (getT [] tm) x with
    | .d (.bool t) => branchW L t (pw P G L a tm H Q) (pw P G L b tm H Q)
    | _ => False
  | .block id b, tm, H, Q => pw P G L b tm H (blockQ id Q)
  | .region _ ops false, tm, H, Q =>
    match nilLast P ops with
    | some (x, d) => opsW P G ops ops.toList.dropLast tm H fun tm1 H1 =>
      match avSl (ev G (getT [] tm1) x) with
      | some ds => ∀ b : Bool, (b = true → ds = []) → Q .normal (clearOpt (setSlot tm1 (some d) (.d (.bool b)))) H1
      | none => False
    | none => opsW P G ops ops.toList tm H fun tm' H' => Q .normal (clearOpt tm') H'
  | .region _ ops true, tm, H, Q => drawX P G ops tm H fun tm' H' => Q .normal (clearOpt tm') H'
  | .loop b, tm, H, Q =>
    if isScope b then False else
    match L (loopId b) with
    | some W => W tm H Q
    | none => False
  | _, _, _, _ => False

def loopsOf : Code → List Code
  | .seq a b =>
    match rangeId a b with
    | some _ => [.scope (.seq a b)]
    | none => loopsOf a ++ loopsOf b
  | .cond _ a b => loopsOf a ++ loopsOf b
  | .block _ c => loopsOf c
  | .loop c => [c]
  | _ => []

section
variable {P : Program} {G : Nat → Option (List D)} {nb : Nat} {rd : Option Nat} {n : Nat}

theorem Keep.cut {c H c' H'} (h : Keep c H c' H') (n : Nat) : Keep c (H.take n) c' H' := by
  intro l x hx
  exact h l x (get_take_some hx).2

theorem Keep.link {c : Cx} {H : List Box} {c' : Cx} {H' : List Box} {c'' : Cx} {H'' : List Box} (h : Keep c (H.take n) c' H') (h' : Keep c' (H'.take n) c'' H'') : Keep c (H.take n) c'' H'' := by
  intro l x hx
  have hl := (get_take_some hx).1
  have h1 := h l x hx
  have key : ∀ y, H'[l]? = some y → (H'.take n)[l]? = some y := fun y hy => by rw [get_take hl]; exact hy
  cases x with
  | vec m sz =>
    obtain ⟨m', a, b, e⟩ := h1
    obtain ⟨m'', a', b', e'⟩ := h' l _ (key _ a)
    exact ⟨m'', a', Nat.le_trans b b', fun he => by
      have e1 : m = m' := by omega
      have e2 : m' = m'' := by omega
      rw [e' e2, e e1]⟩
  | dead => trivial
  | cells T cs =>
    obtain ⟨⟨cs', a⟩, e⟩ := h1
    obtain ⟨⟨cs'', a'⟩, e'⟩ := h' l _ (key _ a)
    exact ⟨⟨cs'', a'⟩, by rw [e', e]⟩
  | map es =>
    obtain ⟨⟨cs', a⟩, e⟩ := h1
    obtain ⟨⟨cs'', a'⟩, e'⟩ := h' l _ (key _ a)
    exact ⟨⟨cs'', a'⟩, by rw [e', e]⟩
  | loop tm ps asn bd pend st =>
    obtain ⟨⟨p1, s1, a⟩, e⟩ := h1
    obtain ⟨⟨p2, s2, a'⟩, e'⟩ := h' l _ (key _ a)
    exact ⟨⟨p2, s2, a'⟩, by rw [e', e]⟩

theorem Ends.now {c H w tm a} {Q : Post} {e : Exit} (hR : Rep G nb c H w tm a) (h : Q e tm H) : Ends G nb n c H w Q e a w :=
  ⟨c, tm, H, h, hR, Ext.refl _ _, (Keep.refl _ _).cut n⟩

theorem Ends.later {c : Cx} {H : List Box} {w : World} {c' : Cx} {H' : List Box} {w' : World} {a'' : Act} {w'' : World} {Q : Post} {e : Exit} (h1 : Ext c w c' w') (h2 : Keep c (H.take n) c' H') (h : Ends G nb n c' H' w' Q e a'' w'') : Ends G nb n c H w Q e a'' w'' := by
  obtain ⟨c2, tm2, H2, a1, a2, a3, a4⟩ := h
  exact ⟨c2, tm2, H2, a1, a2, h1.trans a3, h2.link a4⟩

theorem PW.mono {code tm H} {Q Q' : Post} (h : PW P G rd n code tm H Q) (hq : ∀ e tm H, Q e tm H → Q' e tm H) : PW P G rd n code tm H Q' :=
  ⟨fun nb c a w hR => wpIn_mono (h.run nb c a w hR) fun _ _ _ ⟨c', tm', H', h1, h2⟩ => ⟨c', tm', H', hq _ _ _ h1, h2⟩⟩

theorem PW.seq {x y tm H} {Q : Post} (h : PW P G rd n x tm H (seqQ (fun tm' H' => PW P G rd n y tm' H' Q) Q)) : PW P G rd n (.seq x y) tm H Q := by
  refine ⟨fun nb c a w hR => ?_⟩
  refine wpIn_seq (wpIn_mono (h.run nb c a w hR) fun e a' w' hE => ?_)
  obtain ⟨c', tm', H', h1, h2, h3, h4⟩ := hE
  cases e with
  | normal => exact wpIn_mono (h1.run nb c' a' w' h2) fun e2 a2 w2 h5 => h5.later h3 h4
  | _ => exact ⟨c', tm', H', h1, h2, h3, h4⟩

theorem PW.block {id x tm H} {Q : Post} (h : PW P G rd n x tm H (blockQ id Q)) : PW P G rd n (.block id x) tm H Q := by
  refine ⟨fun nb c a w hR => ?_⟩
  refine wpIn_block (wpIn_mono (h.run nb c a w hR) fun e a' w' hE => ?_)
  obtain ⟨c', tm', H', h1, h2, h3, h4⟩ := hE
  cases e with
  | exit i =>
    simp only [Exit.inBlock]
    simp only [blockQ] at h1
    split
    · rename_i e; rw [if_pos e] at h1; exact ⟨c', tm', H', h1, h2, h3, h4⟩
    · rename_i e; rw [if_neg e] at h1; exact ⟨c', tm', H', h1, h2, h3, h4⟩
  | _ => exact ⟨c', tm', H', h1, h2, h3, h4⟩

/-! Forgetting -/
theorem Rep.weaken {c : Cx} {H : List Box} {w : World} {tm tm' : List AV} {H' : List Box} {a : Act} (hR : Rep G nb c H w tm a) (h : Wk n tm H tm' H') (hno : noOpt tm' = true) :
    ∃ c', Rep G nb c' H' w tm' a ∧ Ext c w c' w ∧ Keep c (H.take n) c' H' := by
  unfold Wk at h
  split at h
  · rename_i hn
    simp only [Bool.and_eq_true, decide_eq_true_eq] at hn
    obtain ⟨hn, hund⟩ := hn
    obtain ⟨h1, h2⟩ := h
    obtain ⟨c1, hr2, eAll, kp, heq, hf⟩ := hR.hr.weakenH hund h2
    have hno' : ∀ g p x, AV.opt g p x ∉ tm' := fun g p x hx => by
      have := List.all_eq_true.1 hno _ hx
      simp at this
    have htm := wkTm_sound (c := c) (c1 := c1) (H := H) (Ht := H') heq hf h1 hR.tm hno'
    refine ⟨c1, ⟨hr2, hR.gr.ext eAll, htm, hR.df.ext eAll⟩, eAll, ?_⟩
    intro l x hx
    obtain ⟨hl, hx'⟩ := get_take_some hx
    exact kp l x (by rw [get_take (by omega)]; exact hx')
  · exact h.elim

theorem wpIn_loop_ghost {F : Fence} {k : Nat} {Q : Exit → Act → World → Prop} {a : Act} {w : World} {c : Code} (I : Nat → Act → World → Prop) (n₀ : Nat) (h₀ : I n₀ a w)
    (round : ∀ n a w, I n a w → c.wpIn F k P (Exit.then (fun a' w' => ∃ n', n' < n ∧ I n' a' w') Q) a w) : (Code.loop c).wpIn F k P Q a w := by
  refine wpIn_loop (fun a w => ∃ n, I n a w) (fun a w => leastOf (fun n => I n a w)) ⟨n₀, h₀⟩ ?_
  intro a w hI
  refine wpIn_mono (round _ a w (leastOf_spec hI).1) ?_
  intro e a' w' hq
  cases e with
  | normal =>
    obtain ⟨n', hlt, hI'⟩ := hq
    exact show (∃ n, I n a' w') ∧ leastOf (fun n => I n a' w') < leastOf (fun n => I n a w) from ⟨⟨n', hI'⟩, Nat.lt_of_le_of_lt ((leastOf_spec ⟨n', hI'⟩).2 n' hI') hlt⟩
  | exit id => exact hq
  | goto l => exact hq
  | ret => exact hq
  | panic ch => exact hq
  | outgrown => exact hq

/-- A loop: states, a measure, one round. -/
theorem PW.loop {α : Type} (tmS : α → List AV) (hS : α → List Box) (m : α → Nat) {body : Code} {Q : Post} (hno : ∀ x, noOpt (tmS x) = true)
    (round : ∀ x, PW P G rd n body (tmS x) (hS x) (seqQ (fun tm H => ∃ y, m y < m x ∧ Wk n tm H (tmS y) (hS y)) Q)) (x0 : α) : PW P G rd n (.loop body) (tmS x0) (hS x0) Q := by
  refine ⟨fun nb c a w hR => ?_⟩
  refine wpIn_loop_ghost (fun k a' w' => ∃ x c', m x = k ∧ Rep G nb c' (hS x) w' (tmS x) a' ∧ Ext c w c' w' ∧ Keep c ((hS x0).take n) c' (hS x)) (m x0) ⟨x0, c, rfl, hR, Ext.refl _ _, (Keep.refl _ _).cut n⟩ ?_
  rintro k a' w' ⟨x, c', rfl, hR', e, kp⟩
  refine wpIn_mono ((round x).run nb c' a' w' hR') fun ex a2 w2 hE => ?_
  obtain ⟨c2, tm2, H2, h1, h2, h3, h4⟩ := hE
  cases ex with
  | normal =>
    obtain ⟨y, hlt, hwk⟩ := h1
    obtain ⟨c4, r1, r2, r3⟩ := h2.weaken hwk (hno y)
    exact ⟨m y, hlt, y, c4, rfl, r1, e.trans (h3.trans r2), kp.link (h4.link r3)⟩
  | _ => exact ⟨c2, tm2, H2, h1, h2, e.trans h3, kp.link h4⟩

theorem PW.weaken {code : Code} {tm tm' : List AV} {H H' : List Box} {Q : Post} (h : Wk n tm H tm' H') (hno : noOpt tm' = true) (h' : PW P G rd n code tm' H' Q) : PW P G rd n code tm H Q := by
  refine ⟨fun nb c a w hR => ?_⟩
  obtain ⟨c4, r1, r2, r3⟩ := hR.weaken h hno
  exact wpIn_mono (h'.run nb c4 a w r1) fun e a2 w2 hE => hE.later r2 r3

theorem opsW_pre {ops : Array Oper} {K : List AV → List Box → Prop} {Q : Exit → Act → World → Prop} {r : List Oper} : ∀ (l : List Oper) (i : Nat) (c : Cx) (H : List Box) (w : World) (tm : List AV) (a : Act), ops.toList.drop i = l ++ r → Rep G nb c H w tm a → opsW P G ops l tm H K →
    (∀ a' w' c' tm' H', K tm' H' → Rep G nb c' H' w' tm' a' → Ext c w c' w' → Keep c H c' H' → wpOpsIn (Fen rd) 0 P ops Q (List.range' (i + l.length) r.length) a' w') → wpOpsIn (Fen rd) 0 P ops Q (List.range' i (l.length + r.length)) a w
  | [], i, c, H, w, tm, a, _, hR, h, hq => by simpa using hq a w c tm H h hR (Ext.refl _ _) (Keep.refl _ _)
  | o :: l, i, c, H, w, tm, a, hl, hR, h, hq => by
    have ho : ops[i]? = some o := by
      have := congrArg (fun x => x[0]?) hl
      simpa using this
    have hl' : ops.toList.drop (i + 1) = l ++ r := by
      have := congrArg List.tail hl
      simpa using this
    have e1 : (o :: l).length + r.length = (l.length + r.length) + 1 := by simp; omega
    rw [e1, List.range'_succ]
    refine stepW_sound ho hR h ?_
    intro a' w' c' tm' H' hk hR' e k
    refine opsW_pre l (i + 1) c' H' w' tm' a' hl' hR' hk fun a2 w2 c2 tm2 H2 hk2 hR2 e2 k2 => ?_
    have := hq a2 w2 c2 tm2 H2 hk2 hR2 (e.trans e2) (k.trans k2)
    have e3 : i + (o :: l).length = i + 1 + l.length := by simp; omega
    rw [e3] at this
    exact this

theorem nil_run {o : Oper} {T yT : TypeId} {x : Operand} {ad : Option Addr} {m k : Nat} {E : TypeId} {a : Act} {w : World} (hu : P.underlying T = some (.slice E)) (h : o.op = .binOp .eql T x (.const (.slice none 0 0)) yT) (hx : a.eval x = .slice ad m k) :
    (execOp a.eval o).run P w = .ok (.value (.bool ad.isNone)) w := by
  have hc : a.eval (.const (.slice none 0 0)) = .slice none 0 0 := rfl
  have h1 : (eqGuard .eql T x (.const (.slice none 0 0)) (.slice ad m k) (.slice none 0 0)).run P w = .ok () w := eqGuard_plain (by intro h; cases h) (by intro cs h; cases h)
  have h2 : (binOp .eql T (.slice ad m k) (.slice none 0 0)).run P w = .ok (.bool ad.isNone) w := by
    unfold binOp
    simp [run_equal_slice_nil w T E ad m k hu]
  simp only [execOp, h, hx, hc, Sem.run_bind, h1, Result.andThen_ok, h2, Sem.run_pure]

theorem pw_sound (hm : P.follows .mixedOrders = true) {L : Loops} : ∀ (code : Code) (tm : List AV) (H : List Box) (Q : Post), (∀ b ∈ loopsOf code, ∀ W, L (loopId b) = some W → ∀ tm H Q, W tm H Q → PW P G rd n (mkLoop b) tm H Q) → pw P G L code tm H Q → PW P G rd n code tm H Q
  | .skip, tm, H, Q, _, h => ⟨fun nb c a w hR => wpIn_skip (Ends.now hR h)⟩
  | .label l, tm, H, Q, _, h => ⟨fun nb c a w hR => wpIn_label (Ends.now hR h)⟩
  | .exit id, tm, H, Q, _, h => ⟨fun nb c a w hR => wpIn_exit (Ends.now hR h)⟩
  | .ret, tm, H, Q, _, h => ⟨fun nb c a w hR => wpIn_ret (Ends.now hR h)⟩
  | .seq x y, tm, H, Q, hL, h => by
    simp only [pw] at h
    simp only [loopsOf] at hL
    split at h
    · rename_i id hid
      rw [hid] at hL
      have hl : loopId (.scope (.seq x y)) = 1000000 + id := by
        unfold rangeId at hid
        split at hid
        · cases hid; rfl
        · cases hid
      split at h
      · rename_i W hW
        exact hL (.scope (.seq x y)) (by simp) W (by rw [hl]; exact hW) tm H Q h
      · exact h.elim
    rename_i hid
    rw [hid] at hL
    have hx := pw_sound hm x tm H _ (fun b hb => hL b (by simp [hb])) h
    refine PW.seq (hx.mono fun e tm' H' hq => ?_)
    cases e with
    | normal => exact pw_sound hm y tm' H' Q (fun b hb => hL b (by simp [hb])) hq
    | _ => exact hq
  | .cond x p q, tm, H, Q, hL, h => by
    refine ⟨fun nb c a w hR => ?_⟩
    simp only [pw] at h
    split at h
    · rename_i t ht
      have hx := ev_sound (tags := []) hR (fun g p h => by simp [hasTag] at h) x
      rw [ht] at hx
      replace h := branchW_sound h
      refine wpIn_cond_split hx.bool (fun e => ?_) (fun e => ?_)
      · exact (pw_sound hm p tm H Q (fun b hb => hL b (by simp [loopsOf, hb])) (h.1 e)).run nb c a w hR
      · exact (pw_sound hm q tm H Q (fun b hb => hL b (by simp [loopsOf, hb])) (h.2 e)).run nb c a w hR
    · exact h.elim
  | .block id x, tm, H, Q, hL, h => PW.block (pw_sound hm x tm H _ (fun b hb => hL b (by simpa [loopsOf] using hb)) h)
  | .region id ops false, tm, H, Q, _, h => by
    refine ⟨fun nb c a w hR => ?_⟩
    simp only [pw] at h
    split at h
    · rename_i x d hnl
      unfold nilLast at hnl
      split at hnl
      · rename_i o hlast
        split at hnl
        · rename_i T x' yT d' hgd hop hdst
          split at hnl
          · rename_i E hu
            cases hnl
            have happ : ops.toList = ops.toList.dropLast ++ [o] := by
              obtain ⟨ys, hys⟩ := List.getLast?_eq_some_iff.1 hlast
              rw [hys]; simp
            refine wpIn_region ?_
            have hsz : List.range ops.size = List.range' 0 (ops.toList.dropLast.length + [o].length) := by
              rw [List.range_eq_range']
              congr 1
              have := congrArg List.length happ
              simpa using this
            rw [hsz]
            refine opsW_pre (r := [o]) _ 0 c H w tm a (by simpa using happ) hR h ?_
            intro a1 w1 c1 tm1 H1 hk hR1 e1 k1
            have ho : ops[ops.toList.dropLast.length]? = some o := by
              have : ops.toList[ops.toList.dropLast.length]? = some o := by
                rw [happ]; simp
              simpa using this
            split at hk
            · rename_i ds hds
              have he := ev_sound (tags := []) hR1 (fun g p h => by simp [hasTag] at h) x
              obtain ⟨ad, m, kk, hv, hr1, hm⟩ := avSl_sound he hds
              simp only [List.length_cons, List.length_nil, Nat.zero_add]
              rw [show List.range' ops.toList.dropLast.length 1 = [ops.toList.dropLast.length] from rfl, wpOpsIn_cons]
              unfold wpOpIn
              rw [ho]
              simp only
              have hw : Region.wanted o (yielded ops a1.tmps) = true := by simp [Region.wanted, hgd]
              rw [if_pos hw]
              refine ⟨fun _ _ => trivial, ?_⟩
              rw [Oper.semAt_eq _ _ _ (by rw [hop]; intro d hd; cases hd), nil_run hu hop hv]
              simp only [Oper.uponIn, wpOpsIn]
              have hnil : ad.isNone = true → ds = [] := by
                intro had
                cases ad with
                | none =>
                  rw [hv] at hr1
                  cases hr1 with
                  | nil => rfl
                | some a => simp at had
              have hR2 := hR1.put (Ext.refl _ _) (Keep.refl _ _) hR1.hr o.dst (v := .bool ad.isNone) (av := .d (.bool ad.isNone)) (RA.d (R1.bool _))
              rw [hdst] at hR2 ⊢
              exact ⟨c1, _, H1, hk ad.isNone hnil, hR2.clear, e1, k1.cut n⟩
            · exact hk.elim
          · cases hnl
        · cases hnl
      · cases hnl
    refine wpIn_region ?_
    have := opsW_sound (rd := rd) (Q := Ends G nb n c H w Q) ops.toList 0 c H w tm a (by simp) hR h (fun a' w' c' tm' H' hk hR' e k => ⟨c', clearOpt tm', H', hk, hR'.clear, e, k.cut n⟩)
    rw [List.range_eq_range']
    simpa using this
  | .region id ops true, tm, H, Q, _, h => ⟨fun nb c a w hR => drawX_sound (Q := Ends G nb n c H w Q) hm hR h (fun a' w' c' tm' H' hk hR' e k => ⟨c', clearOpt tm', H', hk, hR'.clear, e, k.cut n⟩)⟩
  | .loop b, tm, H, Q, hL, h => by
    simp only [pw] at h
    split at h
    · exact h.elim
    rename_i hsc
    split at h
    · rename_i W hW
      have hl : mkLoop b = .loop b := by
        cases b <;> first | rfl | simp [isScope] at hsc
      rw [← hl]
      exact hL b (by simp [loopsOf]) W hW tm H Q h
    · exact h.elim
  | .rangeFunc _ _ _ _, _, _, _, _, h => h.elim
  | .scope _, _, _, _, _, h => h.elim
  | .goto _, _, _, _, _, h => h.elim
  | .refuse _, _, _, _, _, h => h.elim
end
end Go.Sx
/- Leaving a frame whose deferred calls are the marks of ranges over functions. -/
namespace Go.Sx
open Go

section
variable {P : Program} {G : Nat → Option (List D)} {nb : Nat} {c : Cx} {H : List Box} {w : World} {tm : List AV} {a : Act}

theorem RA.world {w1 : World} (e : ∀ v x, R1 c.I c.J w v x → R1 c.I c.J w1 v x) (ei : ∀ b o, c.I b o → w1.cell? ⟨b, o, none⟩ = w.cell? ⟨b, o, none⟩) {av : AV} {v : Value} (h : RA c H w av v) : RA c H w1 av v := by
  induction h with
  | @d x v h =>
    refine .d ?_
    cases x <;> simp only [RV] at h ⊢ <;> first
      | exact e _ _ h
      | (obtain ⟨vs, rfl, hv⟩ := h; exact ⟨vs, rfl, hv.mono fun _ _ => e _ _⟩)
  | ptr hH h => exact .ptr hH h
  | iptr h => exact .iptr fun j x hx => ⟨(h j x hx).1, by
      obtain ⟨hi, v, hv, hr⟩ := h j x hx
      exact ⟨v, by rw [ei _ _ hi]; exact hv, e _ _ hr⟩⟩
  | clo hf hc _ _ ih1 ih2 => exact .clo hf hc ih1 ih2
  | full h => exact .full (e _ _ h)
  | nils => exact .nils
  | vec h hH hn he => exact .vec (e _ _ h) hH hn he
  | map hH h => exact .map hH h
  | tup hl _ ih => exact .tup hl ih
  | agg hl _ ih => exact .agg hl ih
  | any v => exact .any v
  | opt g p x v => exact .opt g p x v
  | yld hH h => exact .yld hH h

theorem R1.world {w1 : World} (hi : ∀ b o, c.I b o → w1.cell? ⟨b, o, none⟩ = w.cell? ⟨b, o, none⟩) (hj : ∀ r, c.J r → w1.heap[r]? = w.heap[r]?) {v : Value} {x : D} (h : R1 c.I c.J w v x) : R1 c.I c.J w1 v x := by
  induction h with
  | int k n => exact .int k n
  | bool b => exact .bool b
  | str s => exact .str s
  | fn f => exact .fn f
  | nil => exact .nil
  | emp a cap => exact .emp a cap
  | sl b off cap sz ds vals hsz hc hr hcap ih =>
    exact .sl b off cap sz ds vals hsz (fun i j d hd => ⟨(hc i j d hd).1, by rw [hi _ _ (hc i j d hd).1]; exact (hc i j d hd).2⟩) ih hcap
  | gmap r ents clk es hJ hw hlen hk hv ihk ihv => exact .gmap r ents clk es hJ (by rw [hj _ hJ]; exact hw) hlen ihk ihv

theorem RV.world {w1 : World} (e : ∀ v x, R1 c.I c.J w v x → R1 c.I c.J w1 v x) {v : Value} {x : D} (h : RV c.I c.J w v x) : RV c.I c.J w1 v x := by
  cases x <;> simp only [RV] at h ⊢ <;> first
    | exact e _ _ h
    | (obtain ⟨vs, rfl, hv⟩ := h; exact ⟨vs, rfl, hv.mono fun _ _ => e _ _⟩)

/-- A block that nobody tracks becomes another one. -/
structure Aside' (c : Cx) (w w1 : World) (m : Nat) : Prop where
  os : w1.os = w.os
  tape : w1.tape = w.tape
  output : w1.output = w.output
  size : w1.heap.size = w.heap.size
  other : ∀ b, b ≠ m → w1.heap[b]? = w.heap[b]?
  nρ : ∀ l k : Nat, c.ρ[l]? ≠ some (some (m, k))
  nI : ∀ o, ¬ c.I m o
  nJ : ¬ c.J m

theorem Aside'.icell {m : Nat} {w1 : World} (h : Aside' c w w1 m) : ∀ b o, c.I b o → w1.cell? ⟨b, o, none⟩ = w.cell? ⟨b, o, none⟩ := fun b o hi => by
  have : b ≠ m := fun e => h.nI o (e ▸ hi)
  simp [World.cell?, h.other b this]
theorem Aside'.jobj {m : Nat} {w1 : World} (h : Aside' c w w1 m) : ∀ r, c.J r → w1.heap[r]? = w.heap[r]? := fun r hr => h.other r fun e => h.nJ (e ▸ hr)
theorem Aside'.r1 {m : Nat} {w1 : World} (h : Aside' c w w1 m) : ∀ v x, R1 c.I c.J w v x → R1 c.I c.J w1 v x := fun _ _ hr => hr.world h.icell h.jobj
theorem Aside'.ra {m : Nat} {w1 : World} (h : Aside' c w w1 m) {av : AV} {v : Value} (hr : RA c H w av v) : RA c H w1 av v := hr.world h.r1 h.icell

theorem Aside'.hr {m : Nat} {w1 : World} (h : Aside' c w w1 m) (hR : HR c H w) : HR c H w1 where
  len := hR.len
  inj := hR.inj
  box l b k x h1 h2 := by
    have hb : w1.heap[b]? = w.heap[b]? := h.other b fun e => h.nρ l k (e ▸ h1)
    have h3 := hR.box l b k x h1 h2
    cases x with
    | cells T cs => obtain ⟨vs, h4, h5⟩ := h3; exact ⟨vs, by rw [hb]; exact h4, h5.mono fun _ _ hx => h.ra hx⟩
    | map es => obtain ⟨en, clk, h4, h5⟩ := h3; exact ⟨en, clk, by rw [hb]; exact h4, h5.mono fun _ _ hx => ⟨h.r1 _ _ hx.1, hx.2.world h.r1⟩⟩
    | vec n sz => obtain ⟨vs, T, h4, h5⟩ := h3; exact ⟨vs, T, by rw [hb]; exact h4, h5⟩
    | dead => trivial
    | loop tm ps asn bd pend st => obtain ⟨r, h4, h5, h6, h7, h8, h9, h10⟩ := h3; exact ⟨r, by rw [hb]; exact h4, h5, h6, h7, h8, h9, h10.mono fun _ _ hx => h.ra hx⟩
  non := hR.non
  lt l b k h1 := by rw [h.size]; exact hR.lt l b k h1
  ilt b o hi := by rw [h.size]; exact hR.ilt b o hi
  jlt r hr := by rw [h.size]; exact hR.jlt r hr
  iap := hR.iap
  jap := hR.jap

theorem Aside'.gr {m : Nat} {w1 : World} (h : Aside' c w w1 m) (hG : GR G c w) : GR G c w1 := by
  intro g cs hg j y hy
  obtain ⟨h1, v, h2, h3⟩ := hG g cs hg j y hy
  exact ⟨h1, v, by rw [h.icell _ _ h1]; exact h2, h.r1 _ _ h3⟩

theorem Aside'.slots {m : Nat} {w1 : World} (h : Aside' c w w1 m) (hT : TmR c H w a.tmps tm) : TmR c H w1 a.tmps tm := hT.mono fun v x hx => by
  cases x <;> simp only [SlotR] at hx ⊢ <;> first
    | exact h.ra hx
    | exact ⟨fun hg => h.ra (hx.1 hg), hx.2⟩

theorem Aside'.ext {c0 : Cx} {w0 : World} {m : Nat} {w1 : World} (h : Aside' c w w1 m) (e : Ext c0 w0 c w) (hm : w0.heap.size ≤ m) : Ext c0 w0 c w1 where
  os := h.os.trans e.os
  tape := h.tape.trans e.tape
  output := h.output.trans e.output
  isub := e.isub
  jsub := e.jsub
  icell b o hi := by rw [h.icell b o (e.isub b o hi), e.icell b o hi]
  jobj r hr := by rw [h.jobj r (e.jsub r hr), e.jobj r hr]
  size := by rw [h.size]; exact e.size
  frame b hb hn := by rw [h.other b (by omega), e.frame b hb hn]
  inew := e.inew
  jnew := e.jnew
  fresh := e.fresh

theorem aside_put {m : Nat} (o : Obj) (h1 : ∀ l k : Nat, c.ρ[l]? ≠ some (some (m, k))) (h2 : ∀ o, ¬ c.I m o) (h3 : ¬ c.J m) : Aside' c w (w.putObj m o) m :=
  ⟨rfl, rfl, rfl, by simp, fun b hb => World.putObj_heap_other hb, h1, h2, h3⟩

/-- The marks are taken off one by one. -/
theorem leave_marks {c0 : Cx} {w0 : World} {fn : Func} {R : Ending → World → Prop} : ∀ (ms : List Nat) (w : World), ms.Nodup → (∀ m ∈ ms, w0.heap.size ≤ m ∧ w.heap[m]? = some (.deferred (some [])) ∧ (∀ l k : Nat, c.ρ[l]? ≠ some (some (m, k))) ∧ (∀ o, ¬ c.I m o) ∧ ¬ c.J m) →
    HR c H w → GR G c w → TmR c H w a.tmps tm → Ext c0 w0 c w →
    (∀ w', HR c H w' → GR G c w' → TmR c H w' a.tmps tm → Ext c0 w0 c w' → LeavesIn (Fen none) 0 P fn a.tmps R [] .returning w') → LeavesInM (Fen none) 0 P fn a.tmps R (ms.map mark) .returning w
  | [], w, _, _, h1, h2, h3, h4, h => h w h1 h2 h3 h4
  | m :: ms, w, hnd, hm, h1, h2, h3, h4, h => by
    obtain ⟨a1, a2, a3, a4, a5⟩ := hm m (by simp)
    have hs := aside_put (w := w) (.deferred none) a3 a4 a5
    refine ⟨by simp, .inl ⟨m, w.putObj m (.deferred none), rfl, run_takeDeferred a2, ?_⟩⟩
    refine leave_marks ms _ (List.nodup_cons.1 hnd).2 (fun k hk => ?_) (hs.hr h1) (hs.gr h2) (hs.slots h3) (hs.ext h4 a1) h
    obtain ⟨b1, b2, b3⟩ := hm k (by simp [hk])
    have hne : k ≠ m := fun e => (List.nodup_cons.1 hnd).1 (e ▸ hk)
    exact ⟨b1, by rw [World.putObj_heap_other hne]; exact b2, b3⟩

/-- A function's contract from the walk over its body. -/
theorem calls_of_body {f : FuncId} {fn : Func} {code : Code} {args : Array Value} {R : Ending → World → Prop} {c0 : Cx} {w0 : World} {H0 : List Box} {n : Nat} {Q : Post} (hf : P.funcs[f]? = some fn) (hb : fn.body = some code)
    (hR : Rep G w0.heap.size c0 H0 w0 tm { tmps := args ++ Array.replicate (fn.ntmps - args.size) undef, defers := [] }) (h : PW P G none n code tm H0 Q)
    (hq : ∀ e c H w tm a, Q e tm H → Rep G w0.heap.size c H w tm a → Ext c0 w0 c w → Keep c0 (H0.take n) c H → (e = .ret ∨ e = .normal) ∧ ∃ v, (results fn a.tmps).run P w = .ok v w ∧ R (.returned v) w) : Calls P f args w0 R := by
  refine (callsIn_wide (n := 0)).1 (callsIn_of_wp_marks hf hb trivial (wpIn_mono (h.run _ c0 _ w0 hR) fun e a' w' hE => ?_))
  obtain ⟨c', tm', H', h1, h2, h3, h4⟩ := hE
  obtain ⟨_, ms, hms, hnd, hm⟩ := h2.df
  have key : LeavesInM (Fen none) 0 P fn a'.tmps R a'.defers .returning w' := by
    rw [hms]
    refine leave_marks (c0 := c0) (w0 := w0) ms w' hnd hm h2.hr h2.gr h2.tm h3 fun w2 g1 g2 g3 g4 => ?_
    exact (hq e c' H' w2 tm' { a' with defers := [] } h1 ⟨g1, g2, g3, Dfs.nil g4.size⟩ g4 h4).2
  rcases (hq e c' H' w' tm' a' h1 h2 h3 h4).1 with rfl | rfl
  · exact key
  · exact key
end
end Go.Sx
/- A function of plain data by the walk over its body. -/
namespace Go.Sx
open Go

def resF (P : Program) (tm : List AV) (H : List Box) : ResultVar → Option AV
  | .tmp t => some (getT [] tm t)
  | .cell x T =>
    match getT [] tm x with
    | .ptr l o => match H[l]? with
      | some (.cells _ cs) => loadA P T (cs.drop o)
      | _ => none
    | _ => none

def retQ (P : Program) (fn : Func) (Q : List D → Prop) : Post := fun e tm H =>
  match e with
  | .ret => match fn.results.toList.mapM (resF P tm H) with
    | some aas => match aas.mapM avD with
      | some rs => Q rs
      | none => False
    | none => False
  | .normal => match fn.results.toList.mapM (resF P tm H) with
    | some aas => match aas.mapM avD with
      | some rs => Q rs
      | none => False
    | none => False
  | _ => False

def startTm (fn : Func) (ds : List D) : List AV := ds.map .d ++ List.replicate (fn.ntmps - ds.length) .any

def resSem (tmps : Array Value) : ResultVar → Sem Value
  | .tmp t => pure (tmps.getD t undef)
  | .cell b T => do loadVar T (← asAddr (tmps.getD b undef))

section
variable {P : Program} {G : Nat → Option (List D)} {nb : Nat} {rd : Option Nat} {c : Cx} {H : List Box} {w : World} {tm : List AV} {a : Act}

theorem resF_sound (hR : Rep G nb c H w tm a) (x : ResultVar) (av : AV) (h : resF P tm H x = some av) :
    ∃ v, (resSem a.tmps x).run P w = .ok v w ∧ RA c H w av v := by
  have ht : TagsOk a.tmps [] := fun g p h => by simp [hasTag] at h
  cases x with
  | tmp t =>
    simp only [resF, Option.some.injEq] at h
    subst h
    exact ⟨_, rfl, getT_sound hR ht t⟩
  | cell b T =>
    simp only [resF] at h
    simp only [resSem]
    have hb := getT_sound hR ht b
    split at h
    · rename_i l o hg
      rw [hg] at hb
      split at h
      · rename_i T' cs hl
        generalize a.tmps.getD b undef = vb at *
        cases hb with
        | @ptr _ _ blk k _ _ hH hρ =>
          obtain ⟨vs, hw, hvs⟩ := hR.hr.box l blk k _ hρ hl
          obtain ⟨v, h1, h2⟩ := loadA_sound (b := blk) (o := o) h (hvs.drop o) (fun j v hj => by
            simp only [List.getElem?_drop] at hj
            simp [World.cell?, hw, hj])
          refine ⟨v, ?_, h2⟩
          simp only [Instr.loadAt, Sem.run_bind, Instr.sureAddr, Sem.run_pure, Result.andThen_ok] at h1
          simp only [Sem.run_bind, asAddr, Sem.run_pure, Result.andThen_ok, h1]
      · cases h
    · cases h

theorem mapM_resF (hR : Rep G nb c H w tm a) : ∀ (l : List ResultVar) (aas : List AV), l.mapM (resF P tm H) = some aas →
    ∃ vs : List Value, (l.mapM (resSem a.tmps)).run P w = .ok vs w ∧ All2 (fun v a => RA c H w a v) vs aas
  | [], aas, h => by simp at h; subst h; exact ⟨[], rfl, All2.nil⟩
  | x :: l, aas, h => by
    rw [List.mapM_cons] at h
    cases hx : resF P tm H x with
    | none => rw [hx] at h; cases h
    | some y =>
      rw [hx] at h
      cases hr : l.mapM (resF P tm H) with
      | none => rw [hr] at h; cases h
      | some ys =>
        rw [hr] at h; simp at h; subst h
        obtain ⟨v, h1, h2⟩ := resF_sound hR x y hx
        obtain ⟨vs, h3, h4⟩ := mapM_resF hR l ys hr
        refine ⟨v :: vs, ?_, All2.cons h2 h4⟩
        rw [List.mapM_cons]
        simp only [Sem.run_bind, h1, Result.andThen_ok, h3, Sem.run_pure]

theorem run_results {fn : Func} {aas : List AV} (hR : Rep G nb c H w tm a) (h : fn.results.toList.mapM (resF P tm H) = some aas) :
    ∃ vs : List Value, (results fn a.tmps).run P w = .ok (if hh : vs.toArray.size = 1 then vs.toArray[0] else .tuple vs.toArray) w ∧ All2 (fun v a => RA c H w a v) vs aas := by
  obtain ⟨vs, h1, h2⟩ := mapM_resF hR _ _ h
  refine ⟨vs, ?_, h2⟩
  have hs : results fn a.tmps = (do
      let vs ← fn.results.mapM (resSem a.tmps)
      pure (if h : vs.size = 1 then vs[0] else .tuple vs)) := by
    unfold results
    congr 2
  rw [hs, Array.mapM_eq_mapM_toList]
  simp only [Sem.run_bind, Sem.run_map, Sem.run_pure]
  rw [h1]
  rfl

theorem resR_of {c' : Cx} {w' : World} {vs : List Value} {rs : List D} (h : All2 (RV c'.I c'.J w') vs rs) : ResR c'.I c'.J w' (if hh : vs.toArray.size = 1 then vs.toArray[0] else .tuple vs.toArray) rs := by
  match rs, vs, h with
  | [], vs, h =>
    have := h.nil_right; subst this
    exact ⟨[], rfl, All2.nil⟩
  | [d], vs, h =>
    obtain ⟨v, vs', rfl, h1, h2⟩ := h.cons_right
    have := h2.nil_right; subst this
    exact h1
  | d1 :: d2 :: r, vs, h =>
    obtain ⟨v, vs', rfl, h1, h2⟩ := h.cons_right
    obtain ⟨v2, vs2, rfl, h3, h4⟩ := h2.cons_right
    have : ¬ (v :: v2 :: vs2).toArray.size = 1 := by simp
    rw [dif_neg this]
    exact ⟨_, rfl, h⟩

theorem All2.start {fn : Func} {ds : List D} {vs : List Value} (tmps : Array Value) (h : All2 (RV c.I c.J w) vs ds) : All2 (fun v a => SlotR c H w tmps a v) (vs ++ List.replicate (fn.ntmps - vs.length) undef) (startTm fn ds) := by
  unfold startTm
  rw [h.1]
  refine All2.append ⟨by simp [h.1], fun i v a hv ha => ?_⟩ ⟨by simp, fun i v a hv ha => ?_⟩
  · simp only [List.getElem?_map] at ha
    cases hd : ds[i]? with
    | none => rw [hd] at ha; simp at ha
    | some d => rw [hd] at ha; simp at ha; subst ha; exact RA.d (h.2 i v d hv hd)
  · have hi : i < fn.ntmps - ds.length := by
      rcases Nat.lt_or_ge i (fn.ntmps - ds.length) with h' | h'
      · exact h'
      · rw [List.getElem?_eq_none (by simpa using h')] at ha; simp at ha
    simp [hi] at ha
    subst ha
    exact RA.any v

theorem PFn.intro {f : FuncId} {fn : Func} {code : Code} {ds : List D} {Q : List D → Prop} (hf : P.funcs[f]? = some fn) (hb : fn.body = some code) (hex : ∃ rs, Q rs)
    (h : PW P G none 0 code (startTm fn ds) [] (retQ P fn Q)) : PFn P G f ds Q := by
  refine ⟨hex, fun c w vs hρ hr hg hvs => calls_of_body (c0 := c) (tm := startTm fn ds) (H0 := []) hf hb ?_ h ?_⟩
  · refine ⟨hr, hg, ?_, Dfs.nil (Nat.le_refl _)⟩
    show All2 _ (vs.toArray ++ Array.replicate (fn.ntmps - vs.toArray.size) undef).toList _
    have : (vs.toArray ++ Array.replicate (fn.ntmps - vs.toArray.size) undef).toList = vs ++ List.replicate (fn.ntmps - vs.length) undef := by simp
    rw [this]
    exact All2.start _ hvs
  · intro e c' H' w' tm' a' h1 h2 h3 h4
    have fin : ∀ aas rs, fn.results.toList.mapM (resF P tm' H') = some aas → aas.mapM avD = some rs → Q rs →
        ∃ v, (results fn a'.tmps).run P w' = .ok v w' ∧ ∃ v' rs c', Ending.returned v = .returned v' ∧ Q rs ∧ c'.ρ = [] ∧ Ext c w c' w' ∧ HR c' [] w' ∧ ResR c'.I c'.J w' v' rs := by
      intro aas rs has hrs hq
      obtain ⟨vs', h5, h6⟩ := run_results h2 has
      refine ⟨_, h5, _, rs, c'.take 0, rfl, hq, by simp [Cx.take], h3.trans (Ext.take c' w' 0), ?_, ?_⟩
      · have := h2.hr.take (n := 0) (by simp)
        simpa using this
      · have hrv := mapM_avD hrs h6
        exact resR_of (c' := c'.take 0) hrv
    cases e with
    | ret =>
      simp only [retQ] at h1
      split at h1
      · rename_i aas has
        split at h1
        · rename_i rs hrs; exact ⟨.inl rfl, fin aas rs has hrs h1⟩
        · exact h1.elim
      · exact h1.elim
    | normal =>
      simp only [retQ] at h1
      split at h1
      · rename_i aas has
        split at h1
        · rename_i rs hrs; exact ⟨.inr rfl, fin aas rs has hrs h1⟩
        · exact h1.elim
      · exact h1.elim
    | _ => exact h1.elim

/-- The whole of it for a function whose loops are told. -/
theorem PFn.walk {f : FuncId} {fn : Func} {code : Code} {ds : List D} {Q : List D → Prop} (hm : P.follows .mixedOrders = true) (L : Loops) (hf : P.funcs[f]? = some fn) (hb : fn.body = some code) (hex : ∃ rs, Q rs)
    (hL : ∀ b ∈ loopsOf code, ∀ W, L (loopId b) = some W → ∀ tm H Q, W tm H Q → PW P G none 0 (mkLoop b) tm H Q) (h : pw P G L code (startTm fn ds) [] (retQ P fn Q)) : PFn P G f ds Q :=
  PFn.intro hf hb hex (pw_sound hm code _ _ _ hL h)

/-! Calls that see boxes -/
def retC (P : Program) (fn : Func) (n : Nat) (Q : List D → List Box → Prop) : Post := fun e tm H =>
  match e with
  | .ret => match fn.results.toList.mapM (resF P tm H) with
    | some aas => match aas.mapM avD with
      | some rs => if decide (n ≤ H.length) && (H.take n).all (Box.under n) then Q rs (H.take n) else False
      | none => False
    | none => False
  | .normal => match fn.results.toList.mapM (resF P tm H) with
    | some aas => match aas.mapM avD with
      | some rs => if decide (n ≤ H.length) && (H.take n).all (Box.under n) then Q rs (H.take n) else False
      | none => False
    | none => False
  | _ => False

def startA (fn : Func) (aas : List AV) : List AV := aas ++ List.replicate (fn.ntmps - aas.length) .any

def plainAV : AV → Bool
  | .opt _ _ _ => false
  | _ => true

theorem All2.startA {fn : Func} {aas : List AV} {vs : List Value} (tmps : Array Value) (hp : aas.all plainAV = true) (h : All2 (fun v a => RA c H w a v) vs aas) : All2 (fun v a => SlotR c H w tmps a v) (vs ++ List.replicate (fn.ntmps - vs.length) undef) (startA fn aas) := by
  unfold Go.Sx.startA
  rw [h.1]
  refine All2.append ⟨h.1, fun i v a hv ha => ?_⟩ ⟨by simp, fun i v a hv ha => ?_⟩
  · have h1 := h.2 i v a hv ha
    have h2 := List.all_eq_true.1 hp _ (List.mem_of_getElem? ha)
    cases a <;> first
      | exact h1
      | simp [plainAV] at h2
  · have hi : i < fn.ntmps - aas.length := by
      rcases Nat.lt_or_ge i (fn.ntmps - aas.length) with h' | h'
      · exact h'
      · rw [List.getElem?_eq_none (by simpa using h')] at ha; simp at ha
    simp [hi] at ha
    subst ha
    exact RA.any v

theorem PCall.intro {f : FuncId} {fn : Func} {code : Code} {aas : List AV} {H : List Box} {Q : List D → List Box → Prop} (hf : P.funcs[f]? = some fn) (hb : fn.body = some code) (hp : aas.all plainAV = true) (hex : ∃ rs H', Q rs H')
    (h : PW P G none H.length code (startA fn aas) H (retC P fn H.length Q)) : PCall P G f aas H Q := by
  refine ⟨hex, fun c w vs hr hg hvs => calls_of_body (c0 := c) (tm := startA fn aas) (H0 := H) hf hb ?_ h ?_⟩
  · refine ⟨hr, hg, ?_, Dfs.nil (Nat.le_refl _)⟩
    show All2 _ (vs.toArray ++ Array.replicate (fn.ntmps - vs.toArray.size) undef).toList _
    have : (vs.toArray ++ Array.replicate (fn.ntmps - vs.toArray.size) undef).toList = vs ++ List.replicate (fn.ntmps - vs.length) undef := by simp
    rw [this]
    exact All2.startA _ hp hvs
  · intro e c' H' w' tm' a' h1 h2 h3 h4
    rw [List.take_length] at h4
    have fin : ∀ aas rs, fn.results.toList.mapM (resF P tm' H') = some aas → aas.mapM avD = some rs → (if decide (H.length ≤ H'.length) && (H'.take H.length).all (Box.under H.length) then Q rs (H'.take H.length) else False) →
        ∃ v, (results fn a'.tmps).run P w' = .ok v w' ∧ ∃ v' rs c' H', Ending.returned v = .returned v' ∧ Q rs H' ∧ H'.length = H.length ∧ Ext c w c' w' ∧ Keep c H c' H' ∧ HR c' H' w' ∧ ResR c'.I c'.J w' v' rs := by
      intro aas rs has hrs hq
      split at hq
      · rename_i hu
        simp only [Bool.and_eq_true, decide_eq_true_eq] at hu
        obtain ⟨hlen, hu⟩ := hu
        obtain ⟨vs', h5, h6⟩ := run_results h2 has
        refine ⟨_, h5, _, rs, c'.take H.length, H'.take H.length, rfl, hq, by rw [List.length_take]; omega, h3.trans (Ext.take c' w' _), ?_, h2.hr.take hu, ?_⟩
        · intro l x hx
          have hlt : l < H.length := by
            rcases Nat.lt_or_ge l H.length with h' | h'
            · exact h'
            · rw [List.getElem?_eq_none h'] at hx; cases hx
          have := h4 l x hx
          have e1 : (c'.take H.length).ρ[l]? = c'.ρ[l]? := by show (c'.ρ.take _)[l]? = _; rw [get_take hlt]
          have e2 : (H'.take H.length)[l]? = H'[l]? := get_take hlt
          cases x <;> simp only [e1, e2] <;> exact this
        · have hrv := mapM_avD hrs h6
          exact resR_of (c' := c'.take H.length) hrv
      · exact hq.elim
    cases e with
    | ret =>
      simp only [retC] at h1
      split at h1
      · rename_i aas has
        split at h1
        · rename_i rs hrs; exact ⟨.inl rfl, fin aas rs has hrs h1⟩
        · exact h1.elim
      · exact h1.elim
    | normal =>
      simp only [retC] at h1
      split at h1
      · rename_i aas has
        split at h1
        · rename_i rs hrs; exact ⟨.inr rfl, fin aas rs has hrs h1⟩
        · exact h1.elim
      · exact h1.elim
    | _ => exact h1.elim

theorem PCall.walk {f : FuncId} {fn : Func} {code : Code} {aas : List AV} {H : List Box} {Q : List D → List Box → Prop} (hm : P.follows .mixedOrders = true) (L : Loops) (hf : P.funcs[f]? = some fn) (hb : fn.body = some code) (hp : aas.all plainAV = true) (hex : ∃ rs H', Q rs H')
    (hL : ∀ b ∈ loopsOf code, ∀ W, L (loopId b) = some W → ∀ tm H' Q, W tm H' Q → PW P G none H.length (mkLoop b) tm H' Q) (h : pw P G L code (startA fn aas) H (retC P fn H.length Q)) : PCall P G f aas H Q :=
  PCall.intro hf hb hp hex (pw_sound hm code _ _ _ hL h)

theorem of_vc {A : Prop} (B : Prop) (h : A = B) (hb : B) : A := h.symm ▸ hb
end
end Go.Sx
/- Loops told by ghosts. -/
namespace Go.Sx
open Go

def hasN : List Nat → Nat → Bool
  | [], _ => false
  | x :: r, i => Nat.beq x i || hasN r i

def findU : List (Nat × AV) → Nat → Option AV
  | [], _ => none
  | (j, x) :: r, i => if Nat.beq j i then some x else findU r i

/-- The slots of a round: those that are told, those that are kept; the others are forgotten. -/
def stS (keep : List Nat) (upd : List (Nat × AV)) : Nat → List AV → List AV
  | _, [] => []
  | i, a :: r => (match findU upd i with
    | some x => dull x
    | none => if hasN keep i then dull a else .any) :: stS keep upd (i + 1) r

theorem noOpt_stS (keep : List Nat) (upd : List (Nat × AV)) : ∀ (i : Nat) (tm : List AV), noOpt (stS keep upd i tm) = true
  | _, [] => rfl
  | i, a :: r => by
    have hd : ∀ x : AV, (match dull x with | .opt _ _ _ => false | _ => true) = true := fun x => by cases x <;> rfl
    have ih := noOpt_stS keep upd (i + 1) r
    simp only [noOpt, stS, List.all_cons, Bool.and_eq_true] at ih ⊢
    refine ⟨?_, ih⟩
    cases findU upd i with
    | some x => exact hd x
    | none =>
      simp only
      cases hasN keep i with
      | true => exact hd a
      | false => rfl

def loopW {α : Type} (P : Program) (G : Nat → Option (List D)) (L : Loops) (n : Nat) (body : Code) (keep : List Nat) (Inv : α → Prop) (m : α → Nat) (tmU : α → List (Nat × AV)) (hU : List Box → α → List Box) (tm : List AV) (H : List Box) (Q : Post) : Prop :=
  if isScope body then False else
  ∃ x0, Inv x0 ∧ Wk n tm H (stS keep (tmU x0) 0 tm) (hU H x0) ∧
    ∀ x, Inv x → pw P G L body (stS keep (tmU x) 0 tm) (hU H x) (seqQ (fun tm' H' => ∃ y, Inv y ∧ m y < m x ∧ Wk n tm' H' (stS keep (tmU y) 0 tm) (hU H y)) Q)

def LoopsOk (P : Program) (G : Nat → Option (List D)) (rd : Option Nat) (n : Nat) (L : Loops) (bs : List Code) : Prop :=
  ∀ b ∈ bs, ∀ W, L (loopId b) = some W → ∀ tm H Q, W tm H Q → PW P G rd n (mkLoop b) tm H Q

section
variable {P : Program} {G : Nat → Option (List D)} {rd : Option Nat} {n : Nat}

theorem LoopsOk.nil {L : Loops} : LoopsOk P G rd n L [] := fun b hb => by cases hb

theorem LoopsOk.cons {L : Loops} {b : Code} {bs : List Code} {W : List AV → List Box → Post → Prop} (h1 : L (loopId b) = some W) (h2 : ∀ tm H Q, W tm H Q → PW P G rd n (mkLoop b) tm H Q) (h3 : LoopsOk P G rd n L bs) : LoopsOk P G rd n L (b :: bs) := by
  intro b' hb W' hW
  rcases List.mem_cons.1 hb with rfl | hb
  · rw [h1] at hW; cases hW; exact h2
  · exact h3 b' hb W' hW

theorem loopW_sound {α : Type} (hm : P.follows .mixedOrders = true) {L : Loops} {body : Code} {keep : List Nat} {Inv : α → Prop} {m : α → Nat} {tmU : α → List (Nat × AV)} {hU : List Box → α → List Box} (hL : LoopsOk P G rd n L (loopsOf body)) (tm : List AV) (H : List Box) (Q : Post)
    (h : loopW P G L n body keep Inv m tmU hU tm H Q) : PW P G rd n (mkLoop body) tm H Q := by
  unfold loopW at h
  split at h
  · exact h.elim
  rename_i hsc
  have hl : mkLoop body = .loop body := by
    cases body <;> first | rfl | simp [isScope] at hsc
  rw [hl]
  obtain ⟨x0, hi, hw, hr⟩ := h
  refine PW.weaken hw (noOpt_stS _ _ _ _) ?_
  refine PW.loop (α := { x : α // Inv x }) (fun x => stS keep (tmU x.1) 0 tm) (fun x => hU H x.1) (fun x => m x.1) (fun x => noOpt_stS _ _ _ _) (fun x => ?_) ⟨x0, hi⟩
  refine (pw_sound hm body _ _ _ hL (hr x.1 x.2)).mono fun e tm' H' hq => ?_
  cases e with
  | normal =>
    obtain ⟨y, h1, h2, h3⟩ := hq
    exact ⟨⟨y, h1⟩, h2, h3⟩
  | _ => exact hq
end

abbrev LW := List AV → List Box → Post → Prop

def LL : List (Nat × LW) → Loops
  | [], _ => none
  | (i, W) :: r, j => if Nat.beq i j then some W else LL r j

section
variable {P : Program} {G : Nat → Option (List D)} {rd : Option Nat} {n : Nat}
def LoopIs (P : Program) (G : Nat → Option (List D)) (rd : Option Nat) (n : Nat) (b : Code) (W : LW) : Prop := ∀ tm H Q, W tm H Q → PW P G rd n (mkLoop b) tm H Q

theorem LoopsOk.of {L : Loops} {code : Code} : ∀ {bs : List Code}, loopsOf code = bs → LoopsOk P G rd n L bs → LoopsOk P G rd n L (loopsOf code)
  | _, h, h2 => by rw [h]; exact h2
theorem LoopsOk.one {code b1 : Code} {i1 : Nat} {W1 : LW} (h : loopsOf code = [b1]) (e1 : LL [(i1, W1)] (loopId b1) = some W1) (h1 : LoopIs P G rd n b1 W1) : LoopsOk P G rd n (LL [(i1, W1)]) (loopsOf code) :=
  .of h (.cons e1 h1 .nil)
theorem LoopsOk.two {code b1 b2 : Code} {i1 i2 : Nat} {W1 W2 : LW} (h : loopsOf code = [b1, b2]) (e1 : LL [(i1, W1), (i2, W2)] (loopId b1) = some W1) (e2 : LL [(i1, W1), (i2, W2)] (loopId b2) = some W2) (h1 : LoopIs P G rd n b1 W1) (h2 : LoopIs P G rd n b2 W2) : LoopsOk P G rd n (LL [(i1, W1), (i2, W2)]) (loopsOf code) :=
  .of h (.cons e1 h1 (.cons e2 h2 .nil))
theorem LoopsOk.three {code b1 b2 b3 : Code} {i1 i2 i3 : Nat} {W1 W2 W3 : LW} (h : loopsOf code = [b1, b2, b3]) (e1 : LL [(i1, W1), (i2, W2), (i3, W3)] (loopId b1) = some W1) (e2 : LL [(i1, W1), (i2, W2), (i3, W3)] (loopId b2) = some W2) (e3 : LL [(i1, W1), (i2, W2), (i3, W3)] (loopId b3) = some W3) (h1 : LoopIs P G rd n b1 W1) (h2 : LoopIs P G rd n b2 W2) (h3 : LoopIs P G rd n b3 W3) : LoopsOk P G rd n (LL [(i1, W1), (i2, W2), (i3, W3)]) (loopsOf code) :=
  .of h (.cons e1 h1 (.cons e2 h2 (.cons e3 h3 .nil)))
theorem LoopsOk.four {code b1 b2 b3 b4 : Code} {i1 i2 i3 i4 : Nat} {W1 W2 W3 W4 : LW} (h : loopsOf code = [b1, b2, b3, b4]) (e1 : LL [(i1, W1), (i2, W2), (i3, W3), (i4, W4)] (loopId b1) = some W1) (e2 : LL [(i1, W1), (i2, W2), (i3, W3), (i4, W4)] (loopId b2) = some W2) (e3 : LL [(i1, W1), (i2, W2), (i3, W3), (i4, W4)] (loopId b3) = some W3) (e4 : LL [(i1, W1), (i2, W2), (i3, W3), (i4, W4)] (loopId b4) = some W4) (h1 : LoopIs P G rd n b1 W1) (h2 : LoopIs P G rd n b2 W2) (h3 : LoopIs P G rd n b3 W3) (h4 : LoopIs P G rd n b4 W4) : LoopsOk P G rd n (LL [(i1, W1), (i2, W2), (i3, W3), (i4, W4)]) (loopsOf code) :=
  .of h (.cons e1 h1 (.cons e2 h2 (.cons e3 h3 (.cons e4 h4 .nil))))
theorem LoopsOk.five {code b1 b2 b3 b4 b5 : Code} {i1 i2 i3 i4 i5 : Nat} {W1 W2 W3 W4 W5 : LW} (h : loopsOf code = [b1, b2, b3, b4, b5]) (e1 : LL [(i1, W1), (i2, W2), (i3, W3), (i4, W4), (i5, W5)] (loopId b1) = some W1) (e2 : LL [(i1, W1), (i2, W2), (i3, W3), (i4, W4), (i5, W5)] (loopId b2) = some W2) (e3 : LL [(i1, W1), (i2, W2), (i3, W3), (i4, W4), (i5, W5)] (loopId b3) = some W3) (e4 : LL [(i1, W1), (i2, W2), (i3, W3), (i4, W4), (i5, W5)] (loopId b4) = some W4) (e5 : LL [(i1, W1), (i2, W2), (i3, W3), (i4, W4), (i5, W5)] (loopId b5) = some W5) (h1 : LoopIs P G rd n b1 W1) (h2 : LoopIs P G rd n b2 W2) (h3 : LoopIs P G rd n b3 W3) (h4 : LoopIs P G rd n b4 W4) (h5 : LoopIs P G rd n b5 W5) : LoopsOk P G rd n (LL [(i1, W1), (i2, W2), (i3, W3), (i4, W4), (i5, W5)]) (loopsOf code) :=
  .of h (.cons e1 h1 (.cons e2 h2 (.cons e3 h3 (.cons e4 h4 (.cons e5 h5 .nil)))))
end

/-- The i-th element of a list of rows, by the shapes of its cells. -/
def rowAt : List Sh → List D → Nat → Nat → List D
  | [], _, _, _ => []
  | s :: r, ds, i, j => s.norm ((cellAt ds i j).getD default) :: rowAt r ds i (j + 1)
def aggAt (shs : List Sh) (ds : List D) (i : Nat) : D := .agg (rowAt shs ds i 0)

/-- A body's loops, one by one. -/
def loopN (code : Code) (i : Nat) : Code := (loopsOf code).getD i .skip
def bodyOf (fn : Func) : Code := fn.body.getD .skip
end Go.Sx
/- Rounds of a range over a function; functions that hand back closures; the range itself. -/
namespace Go.Sx
open Go

def setPs (tm : List AV) (ps : List Nat) (aas : List AV) : List AV := (ps.zip aas).foldl (fun t (x : Nat × AV) => t.set x.1 x.2) tm

def roundFin (l n : Nat) (Q : List D → List Box → Prop) (H' : List Box) (b : Bool) (pend : Option Code) (st : LoopState) : Prop :=
  if decide (n ≤ H'.length) && (H'.take n).all (Box.under n) then
    match H'[l]? with
    | some (.loop tm ps asn bd _ _) => Q [.bool b] ((H'.take n).set l (.loop tm ps asn bd pend st))
    | _ => False
  else False

/-- How a round may end. -/
def roundQ (l n : Nat) (Q : List D → List Box → Prop) : Post := fun e _ H' =>
  match e with
  | .normal => roundFin l n Q H' true none .ready
  | .ret => roundFin l n Q H' false (some .ret) .done
  | .exit i => roundFin l n Q H' false (some (.exit i)) .done
  | _ => False

/-- The round begins. -/
def busyW (P : Program) (G : Nat → Option (List D)) (L : Loops) (l : Nat) (body : Code) (tm : List AV) (H : List Box) (Q : Post) : Prop :=
  match H[l]? with
  | some (.loop tm' ps asn bd pend .ready) => pw P G L body tm (H.set l (.loop tm' ps asn bd pend .busy)) Q
  | _ => False

section
variable {P : Program} {G : Nat → Option (List D)} {c : Cx} {H : List Box} {w : World} {tm : List AV}

theorem Keep.set_loop {l : Nat} {tm : List AV} {ps : List Nat} {asn bd : Code} {pend : Option Code} {st : LoopState} (hl : H[l]? = some (.loop tm ps asn bd pend st)) (pend' : Option Code) (st' : LoopState) : Keep c H c (H.set l (.loop tm ps asn bd pend' st')) := by
  intro m y hy
  by_cases e : l = m
  · subst e
    rw [hl] at hy
    simp at hy
    subst hy
    exact ⟨⟨pend', st', set_same hl⟩, rfl⟩
  · cases y <;> simp only [set_other e, hy] <;> simp

/-- The record of a loop is turned. -/
theorem loop_set {l b k : Nat} {tm : List AV} {ps : List Nat} {asn bd : Code} {pend : Option Code} {st : LoopState} {r : Loop} (hR : HR c H w) (hl : H[l]? = some (.loop tm ps asn bd pend st)) (hρ : c.ρ[l]? = some (some (b, k)))
    (hr : w.heap[b]? = some (.loop r)) (pend' : Option Code) (st' : LoopState) :
    let w' := w.putObj b (.loop { r with state := st', pending := pend' })
    Ext c w c w' ∧ HR c (H.set l (.loop tm ps asn bd pend' st')) w' := by
  intro w'
  have hlt := hR.lt l b k hρ
  have ho : ∀ b', b' ≠ b → w'.heap[b']? = w.heap[b']? := fun b' hne => World.putObj_heap_other hne
  have hs : w'.heap.size = w.heap.size := by simp [w']
  have e : Ext c w c w' := Ext.set_box hρ hR rfl rfl rfl hs ho (fun n sz h => by rw [hl] at h; cases h)
  have kp : Keep c H c (H.set l (.loop tm ps asn bd pend' st')) := Keep.set_loop hl _ _
  refine ⟨e, HR.set_box hρ hR hl hs ho (fun n sz h => by cases h) e kp ?_⟩
  obtain ⟨r', h1, h2, h3, h4, h5, h6, h7⟩ := hR.box l b k _ hρ hl
  rw [hr] at h1
  simp at h1
  subst h1
  exact ⟨_, World.putObj_heap_same hlt, h2, h3, h4, rfl, rfl, h7.mono fun _ _ h => h.ext e kp⟩

theorem setPs_fold {tmps0 : Array Value} {R : Value → AV → Prop} : ∀ (ps : List Nat) (vs : List Value) (aas : List AV) (tmps : Array Value) (tm : List AV), vs.length = aas.length → (∀ (i : Nat) v a, vs[i]? = some v → aas[i]? = some a → R v a) → All2 R tmps.toList tm →
    All2 R ((ps.zip vs).foldl (fun t (x : Nat × Value) => t.setIfInBounds x.1 x.2) tmps).toList (setPs tm ps aas)
  | [], vs, aas, tmps, tm, _, _, h => by simpa [setPs] using h
  | p :: ps, [], [], tmps, tm, _, _, h => by simpa [setPs] using h
  | p :: ps, v :: vs, a :: aas, tmps, tm, hl, hr, h => by
    simp only [List.zip_cons_cons, List.foldl_cons, setPs]
    refine setPs_fold (tmps0 := tmps0) ps vs aas _ _ (by simpa using hl) (fun i v' a' h1 h2 => hr (i + 1) v' a' (by simpa using h1) (by simpa using h2)) ?_
    rw [Array.toList_setIfInBounds]
    exact h.set p (hr 0 v a rfl rfl)
  | p :: ps, [], _ :: _, _, _, hl, _, _ => by simp at hl
  | p :: ps, _ :: _, [], _, _, hl, _, _ => by simp at hl

theorem PYield.walk {l : Nat} {aas : List AV} {H : List Box} {ps : List Nat} {asn bd : Code} {Q : List D → List Box → Prop} (hm : P.follows .mixedOrders = true) (L : Loops) (hl : H[l]? = some (.loop tm ps asn bd none .ready)) (hlen : ps.length = aas.length) (hp : aas.all plainAV = true) (hno : tm.all plainAV = true) (hex : ∃ rs H', Q rs H')
    (hL1 : ∀ rd, LoopsOk P G rd H.length L (loopsOf asn)) (hL2 : ∀ rd, LoopsOk P G rd H.length L (loopsOf bd))
    (h : pw P G L asn (setPs tm ps aas) H (seqQ (fun tm1 H1 => busyW P G L l bd tm1 H1 (roundQ l H.length Q)) (fun _ _ _ => False))) : PYield P G l aas H Q := by
  refine ⟨hex, fun c w vs b k hr hg hρ hvs => ?_⟩
  obtain ⟨r, h1, h2, h3, h4, h5, h6, h7⟩ := hr.box l b k _ hρ hl
  have hsz : vs.toArray.size = r.params.size := by
    have e1 := hvs.1
    have e2 : r.params.size = ps.length := by rw [← h2]; simp
    simp only [List.size_toArray]; omega
  refine ⟨r.fn, _, r.assign, r.body, run_yield h1 hsz, ?_⟩
  refine roundIn_of_wpIn trivial ?_
  have hplain : ∀ (a : AV) (v : Value), a ∈ setPs tm ps aas → plainAV a = true := by
    intro a v ha
    unfold setPs at ha
    have : ∀ (zs : List (Nat × AV)) (t : List AV), (∀ x ∈ t, plainAV x = true) → (∀ z ∈ zs, plainAV z.2 = true) → ∀ x ∈ zs.foldl (fun t (x : Nat × AV) => t.set x.1 x.2) t, plainAV x = true := by
      intro zs
      induction zs with
      | nil => intro t h1 _ x hx; exact h1 x hx
      | cons z zs ih =>
        intro t h1 h2 x hx
        refine ih (t.set z.1 z.2) (fun y hy => ?_) (fun y hy => h2 y (by simp [hy])) x hx
        rcases List.mem_or_eq_of_mem_set hy with h3 | h3
        · exact h1 y h3
        · rw [h3]; exact h2 z (by simp)
    refine this _ _ (fun x hx => List.all_eq_true.1 hno x hx) (fun z hz => ?_) a ha
    exact List.all_eq_true.1 hp _ (List.of_mem_zip hz).2
  let tmps : Array Value := (r.params.zip vs.toArray).foldl (fun tmps (x : Nat × Value) => tmps.setIfInBounds x.1 x.2) r.tmps
  have htm : TmR c H w tmps (setPs tm ps aas) := by
    have e1 : tmps = (ps.zip vs).foldl (fun t (x : Nat × Value) => t.setIfInBounds x.1 x.2) r.tmps := by
      show (r.params.zip vs.toArray).foldl _ _ = _
      rw [← Array.foldl_toList, Array.toList_zip, h2]
    have e2 := setPs_fold (tmps0 := #[]) (R := fun v a => RA c H w a v) ps vs aas r.tmps tm hvs.1 (fun i v a h1 h2 => hvs.2 i v a h1 h2) h7
    rw [← e1] at e2
    refine ⟨e2.1, fun i v a hv ha => ?_⟩
    have h8 := e2.2 i v a hv ha
    have h9 := hplain a v (List.mem_of_getElem? ha)
    cases a <;> first
      | exact h8
      | simp [plainAV] at h9
  have hRep : Rep G w.heap.size c H w (setPs tm ps aas) { tmps := tmps, defers := [] } := ⟨hr, hg, htm, Dfs.nil (Nat.le_refl _)⟩
  have hasn := pw_sound (rd := some b) (n := H.length) hm asn _ _ _ (hL1 (some b)) h
  subst h3 h4
  refine wpIn_mono (hasn.run _ c _ w hRep) fun e a1 w1 hE => ?_
  obtain ⟨c1, tm1, H1, g1, g2, g3, g4⟩ := hE
  rw [List.take_length] at g4
  cases e with
  | normal =>
    simp only [seqQ, busyW] at g1
    split at g1
    · rename_i tm' ps' asn' bd' pend' hl1
      obtain ⟨⟨p2, s2, k1⟩, k2⟩ := g4 l _ hl
      rw [hl1] at k1
      simp only [Option.some.injEq, Box.loop.injEq] at k1
      obtain ⟨rfl, rfl, rfl, rfl, rfl, rfl⟩ := k1
      have hρ1 : c1.ρ[l]? = some (some (b, k)) := by rw [k2]; exact hρ
      obtain ⟨r1, q1, q2, q3, q4, q5, q6, q7⟩ := g2.hr.box l b k _ hρ1 hl1
      obtain ⟨e5, hr5⟩ := loop_set g2.hr hl1 hρ1 q1 pend' .busy
      have kp5 : Keep c1 H1 c1 (H1.set l (.loop tm' ps' r.assign r.body pend' .busy)) := Keep.set_loop hl1 _ _
      refine ⟨w1.putObj b (.loop { r1 with state := .busy }), run_beginRound q1 q6, ?_⟩
      have e6 : ({ r1 with state := .busy, pending := pend' } : Loop) = { r1 with state := .busy } := by rw [← q5]
      rw [e6] at e5 hr5
      have hRep1 : Rep G w.heap.size c1 (H1.set l (.loop tm' ps' r.assign r.body pend' .busy)) (w1.putObj b (.loop { r1 with state := .busy })) tm1 a1 := ⟨hr5, g2.gr.ext e5, g2.tm.ext e5 kp5, g2.df.ext e5⟩
      have hbd := pw_sound (rd := some b) (n := H.length) hm r.body _ _ _ (hL2 (some b)) g1
      refine wpIn_mono (hbd.run _ c1 _ _ hRep1) fun e2 a3 w3 hE2 => ?_
      obtain ⟨c3, tm3, H3, m1, m2, m3, m4⟩ := hE2
      have hext : Ext c w c3 w3 := g3.trans (e5.trans m3)
      have hkeep : Keep c H c3 H3 := by
        have h10 : Keep c (H.take H.length) c1 (H1.set l (.loop tm' ps' r.assign r.body pend' .busy)) := by
          rw [List.take_length]; exact g4.trans kp5
        have := h10.link m4
        rwa [List.take_length] at this
      have fin : ∀ (bb : Bool) (jump : Option Code) (st : LoopState), roundFin l H.length Q H3 bb jump st → (bb = jump.isNone) → (st = if jump.isNone then .ready else .done) → ∃ v w', (Instr.endRound b jump).run P w3 = .ok v w' ∧ ∃ v' rs c' H', Ending.returned v = .returned v' ∧ Q rs H' ∧ H'.length = H.length ∧ Ext c w c' w' ∧ Keep c H c' H' ∧ HR c' H' w' ∧ ResR c'.I c'.J w' v' rs := by
        intro bb jump st hq hbb hst
        unfold roundFin at hq
        split at hq
        · rename_i hu
          simp only [Bool.and_eq_true, decide_eq_true_eq] at hu
          obtain ⟨hu1, hu2⟩ := hu
          split at hq
          · rename_i tm4 ps4 asn4 bd4 pend4 st4 hl3
            have hllt : l < H.length := by
              rcases Nat.lt_or_ge l H.length with h' | h'
              · exact h'
              · rw [List.getElem?_eq_none h'] at hl; cases hl
            obtain ⟨_, k5⟩ := hkeep l _ hl
            have hρ3 : c3.ρ[l]? = some (some (b, k)) := by rw [k5]; exact hρ
            obtain ⟨r3, t1, _⟩ := m2.hr.box l b k _ hρ3 hl3
            have hρ4 : (c3.take H.length).ρ[l]? = some (some (b, k)) := by show (c3.ρ.take _)[l]? = _; rw [get_take hllt]; exact hρ3
            have hl4 : (H3.take H.length)[l]? = some (.loop tm4 ps4 asn4 bd4 pend4 st4) := by rw [get_take hllt]; exact hl3
            obtain ⟨e7, hr7⟩ := loop_set (m2.hr.take hu2) hl4 hρ4 t1 jump st
            refine ⟨_, _, run_endRound jump t1, .bool bb, [.bool bb], c3.take H.length, (H3.take H.length).set l (.loop tm4 ps4 asn4 bd4 jump st), by rw [hbb], hq, by simp [List.length_take]; omega, ?_, ?_, ?_, R1.bool _⟩
            · rw [← hst]
              exact (hext.trans (Ext.take c3 w3 _)).trans e7
            · have kp7 : Keep (c3.take H.length) (H3.take H.length) (c3.take H.length) ((H3.take H.length).set l (.loop tm4 ps4 asn4 bd4 jump st)) := Keep.set_loop hl4 _ _
              have kp6 : Keep c H (c3.take H.length) (H3.take H.length) := by
                intro m x hx
                have hlt : m < H.length := by
                  rcases Nat.lt_or_ge m H.length with h' | h'
                  · exact h'
                  · rw [List.getElem?_eq_none h'] at hx; cases hx
                have := hkeep m x hx
                have e1 : (c3.take H.length).ρ[m]? = c3.ρ[m]? := by show (c3.ρ.take _)[m]? = _; rw [get_take hlt]
                have e2 : (H3.take H.length)[m]? = H3[m]? := get_take hlt
                cases x <;> simp only [e1, e2] <;> exact this
              exact kp6.trans kp7
            · rw [← hst]
              exact hr7
          · exact hq.elim
        · exact hq.elim
      cases e2 with
      | normal => exact fin true none .ready m1 rfl rfl
      | ret => exact fin false (some .ret) .done m1 rfl rfl
      | exit i => exact fin false (some (.exit i)) .done m1 rfl rfl
      | goto t => exact m1.elim
      | panic ch => exact m1.elim
      | outgrown => exact m1.elim
    · exact g1.elim
  | _ => exact g1.elim
end
end Go.Sx
/- Functions that hand back closures; the range over a function. -/
namespace Go.Sx
open Go

/-- A function that hands back one abstract value that holds no box. -/
structure PFnA (P : Program) (G : Nat → Option (List D)) (f : FuncId) (ds : List D) (Q : AV → Prop) : Prop where
  run : ∀ (c : Cx) (w : World) (vs : List Value), c.ρ = [] → HR c [] w → GR G c w → All2 (RV c.I c.J w) vs ds →
    Calls P f vs.toArray w fun e w' => ∃ v av c', e = .returned v ∧ Q av ∧ c'.ρ = [] ∧ Ext c w c' w' ∧ HR c' [] w' ∧ RA c' [] w' av v

/-- Boxes of data that nobody writes any more. -/
def freeze1 (H : List Box) : AV → Option AV
  | .d x => some (.d x)
  | .iptr cs => some (.iptr cs)
  | .full ds => some (.full ds)
  | .ptr l 0 =>
    match H[l]? with
    | some (.cells _ cs) => (cs.mapM avD1).map .iptr
    | _ => none
  | _ => none

def freezeA (H : List Box) : AV → Option AV
  | .clo f fi ca =>
    match fi.mapM (freeze1 H), ca.mapM (freeze1 H) with
    | some fi', some ca' => some (.clo f fi' ca')
    | _, _ => none
  | a => freeze1 H a

def retA (P : Program) (fn : Func) (Q : AV → Prop) : Post := fun e tm H =>
  match e with
  | .ret => match fn.results.toList.mapM (resF P tm H) with
    | some [av] => match freezeA H av with
      | some r => Q r
      | none => False
    | _ => False
  | _ => False

def Cx.freeze (c : Cx) (H : List Box) : Cx := { ρ := [], I := fun b o => c.I b o ∨ ∃ (l k : Nat) (T : TypeId) (cs : List AV), c.ρ[l]? = some (some (b, k)) ∧ H[l]? = some (.cells T cs), J := c.J }

section
variable {P : Program} {G : Nat → Option (List D)} {c : Cx} {H : List Box} {w : World} {tm : List AV} {a : Act}

theorem Ext.freeze (c : Cx) (H : List Box) (w : World) : Ext c w (c.freeze H) w :=
  ⟨rfl, rfl, rfl, fun _ _ h => .inl h, fun _ h => h, fun _ _ _ => rfl, fun _ _ => rfl, Nat.le_refl _, fun _ _ _ => rfl, fun b o h => by
    rcases h with h | ⟨l, k, T, cs, h1, h2⟩
    · exact .inl h
    · exact .inr (.inr ⟨l, k, h1⟩), fun _ h => .inl h, fun l b k h => by simp [Cx.freeze] at h⟩

theorem HR.freeze (hR : HR c H w) : HR (c.freeze H) [] w where
  len := rfl
  inj l l' b k k' h := by simp [Cx.freeze] at h
  box l b k x h := by simp [Cx.freeze] at h
  non l x h := by simp [Cx.freeze] at h
  lt l b k h := by simp [Cx.freeze] at h
  ilt b o h := by
    rcases h with h | ⟨l, k, T, cs, h1, h2⟩
    · exact hR.ilt b o h
    · exact hR.lt l b k h1
  jlt := hR.jlt
  iap b o l k hi h := by simp [Cx.freeze] at h
  jap r l k hr h := by simp [Cx.freeze] at h

theorem freeze1_sound (hR : HR c H w) {av r : AV} {v : Value} (h : RA c H w av v) (hf : freeze1 H av = some r) : RA (c.freeze H) [] w r v := by
  have e := Ext.freeze c H w
  unfold freeze1 at hf
  split at hf
  · cases hf
    cases h with
    | d h => exact .d (h.ext e)
  · cases hf
    cases h with
    | iptr h => exact .iptr fun j x hx => ⟨e.isub _ _ (h j x hx).1, by
        obtain ⟨hi, u, hu, hr⟩ := h j x hx
        exact ⟨u, hu, hr.ext e⟩⟩
  · cases hf
    cases h with
    | full h => exact .full (h.ext e)
  · rename_i l
    split at hf
    · rename_i T cs hl
      cases hm : cs.mapM avD1 with
      | none => rw [hm] at hf; cases hf
      | some ds =>
        rw [hm] at hf; cases hf
        cases h with
        | @ptr _ _ b k T' cs' hH hρ =>
          obtain ⟨vs, h1, h2⟩ := hR.box l b k _ hρ hl
          have h3 := mapM_avD1 hm h2
          refine .iptr fun j x hx => ⟨.inr ⟨l, k, T, cs, hρ, hl⟩, ?_⟩
          obtain ⟨u, hu, hr⟩ := h3.get hx
          exact ⟨u, by simp [World.cell?, h1, hu], hr.ext e⟩
    · cases hf
  · cases hf

theorem freezeL_sound (hR : HR c H w) : ∀ {aas rs : List AV} {vs : List Value}, aas.mapM (freeze1 H) = some rs → All2 (fun v a => RA c H w a v) vs aas → All2 (fun v a => RA (c.freeze H) [] w a v) vs rs
  | [], rs, vs, h, h2 => by
    simp at h; subst h
    have := h2.nil_right; subst this; exact All2.nil
  | a :: aas, rs, vs, h, h2 => by
    rw [List.mapM_cons] at h
    cases ha : freeze1 H a with
    | none => rw [ha] at h; cases h
    | some x =>
      rw [ha] at h
      cases hr : aas.mapM (freeze1 H) with
      | none => rw [hr] at h; cases h
      | some xs =>
        rw [hr] at h; simp at h; subst h
        obtain ⟨v, vs', rfl, h3, h4⟩ := h2.cons_right
        exact All2.cons (freeze1_sound hR h3 ha) (freezeL_sound hR hr h4)

theorem freezeA_sound (hR : HR c H w) {av r : AV} {v : Value} (h : RA c H w av v) (hf : freezeA H av = some r) : RA (c.freeze H) [] w r v := by
  unfold freezeA at hf
  split at hf
  · rename_i f fi ca
    split at hf
    · rename_i fi' ca' h1 h2
      cases hf
      cases h with
      | @clo _ _ _ fv cv l1 l2 g1 g2 =>
        have k1 := freezeL_sound hR h1 (vs := fv) ⟨l1.symm, fun i v a hv ha => g1 i a v ha hv⟩
        have k2 := freezeL_sound hR h2 (vs := cv) ⟨l2.symm, fun i v a hv ha => g2 i a v ha hv⟩
        exact .clo k1.1.symm k2.1.symm (fun i a v ha hv => k1.2 i v a hv ha) (fun i a v ha hv => k2.2 i v a hv ha)
    · cases hf
  · exact freeze1_sound hR h hf

theorem PFnA.walk {f : FuncId} {fn : Func} {code : Code} {ds : List D} {Q : AV → Prop} (hm : P.follows .mixedOrders = true) (L : Loops) (hf : P.funcs[f]? = some fn) (hb : fn.body = some code)
    (hL : LoopsOk P G none 0 L (loopsOf code)) (h : pw P G L code (startTm fn ds) [] (retA P fn Q)) : PFnA P G f ds Q := by
  refine ⟨fun c w vs hρ hr hg hvs => calls_of_body (c0 := c) (tm := startTm fn ds) (H0 := []) hf hb ?_ (pw_sound hm code _ _ _ hL h) ?_⟩
  · refine ⟨hr, hg, ?_, Dfs.nil (Nat.le_refl _)⟩
    show All2 _ (vs.toArray ++ Array.replicate (fn.ntmps - vs.toArray.size) undef).toList _
    have : (vs.toArray ++ Array.replicate (fn.ntmps - vs.toArray.size) undef).toList = vs ++ List.replicate (fn.ntmps - vs.length) undef := by simp
    rw [this]
    exact All2.start _ hvs
  · intro e c' H' w' tm' a' h1 h2 h3 h4
    cases e with
    | ret =>
      simp only [retA] at h1
      split at h1
      · rename_i av has
        split at h1
        · rename_i r hr'
          obtain ⟨vs', h5, h6⟩ := run_results h2 has
          obtain ⟨v, vs2, rfl, h7, h8⟩ := h6.cons_right
          have := h8.nil_right; subst this
          exact ⟨.inl rfl, v, h5, v, r, c'.freeze H', rfl, h1, rfl, h3.trans (Ext.freeze c' H' w'), h2.hr.freeze, freezeA_sound h2.hr h7 hr'⟩
        · exact h1.elim
      · exact h1.elim
    | _ => exact h1.elim

theorem PFnF.of_A {f : FuncId} {ds : List D} {Q : List D → Prop} (h : PFnA P G f ds fun av => ∃ l, av = .full l ∧ Q l) : PFnF P G f ds Q :=
  ⟨fun c w vs a b d e => (h.run c w vs a b d e).mono fun _ _ ⟨v, _, c', e1, ⟨l, e2, e3⟩, e4, e5, e6, e7⟩ => ⟨v, l, c', e1, e3, e4, e5, e6, e2 ▸ e7⟩⟩
end

/-! The range over a function -/
def iterEnd (j : Nat) (tm : List AV) (Q : Post) (n : Nat) (H : List Box) : Prop :=
  match H[n]? with
  | some (.loop _ _ _ _ pend st) =>
    if (H.take n).all (Box.under n) then
      st ≠ .busy ∧ ((pend = none ∧ Q .normal tm (H.take n)) ∨ (pend = some .ret ∧ Q .ret tm (H.take n)) ∨ (pend = some (.exit j) ∧ Q .normal tm (H.take n)))
    else False
  | _ => False

def iterW (P : Program) (G : Nat → Option (List D)) (keep : List Nat) (j g : Nat) (ps : List Nat) (asn bd : Code) (tm : List AV) (H : List Box) (Q : Post) : Prop :=
  match tm.getD g .any with
  | .clo f fi ca =>
    if okFn P f && tm.all plainAV then
      PCall P G f (fi ++ [.yld H.length] ++ ca) (H ++ [.loop (stS keep [] 0 tm) ps asn bd none .ready]) fun _ H' =>
        exH (H ++ [.loop (stS keep [] 0 tm) ps asn bd none .ready]) fun H'' => H' = H'' ∧ iterEnd j tm Q H.length H''
    else False
  | _ => False

structure RangeParts where
  ops : Array Oper
  j : Nat
  g : Nat
  ps : Array Tmp
  asn : Code
  bd : Code

def rangeParts : Code → Option RangeParts
  | .seq (.region _ ops false) (.block j (.rangeFunc (.tmp g) ps asn bd)) => some ⟨ops, j, g, ps, asn, bd⟩
  | _ => none

def rpPs (c : Code) : List Nat := match rangeParts c with | some r => r.ps.toList | none => []
def rpJ (c : Code) : Nat := match rangeParts c with | some r => r.j | none => 0
def rpAsn (c : Code) : Code := match rangeParts c with | some r => r.asn | none => .skip
def rpBd (c : Code) : Code := match rangeParts c with | some r => r.bd | none => .skip

/-- The piece itself. -/
def unScope : Code → Code
  | .scope c => c
  | c => c

/-- The region's last operation is the call that hands back the function to range over; what it hands back is told ('it'). -/
def rangeW (P : Program) (G : Nat → Option (List D)) (keep : List Nat) (it : List D → AV) (code : Code) (tm : List AV) (H : List Box) (Q : Post) : Prop :=
  match rangeParts code with
  | some r =>
    opsW P G r.ops r.ops.toList.dropLast tm H fun tm1 H1 =>
      match r.ops.toList.getLast? with
      | some o =>
        match o.guard, o.op, o.dst with
        | none, .call { callee := .value f, args, argTypes := _ }, some d =>
          match calleeAV (ev G (getT [] tm1) f) with
          | some (k, [], []) =>
            if okFn P k then
              match (args.toList.map (ev G (getT [] tm1))).mapM avD with
              | some ds => PFnA P G k ds (fun av => av = it ds) ∧ iterW P G keep (rpJ code) r.g (rpPs code) (rpAsn code) (rpBd code) (clearOpt (setSlot tm1 (some d) (dull (it ds)))) H1 Q
              | none => False
            else False
          | _ => False
        | _, _, _ => False
      | none => False
  | none => False
end Go.Sx
/- The range over a function, sound. -/
namespace Go.Sx
open Go

section
variable {P : Program} {G : Nat → Option (List D)} {nb : Nat} {rd : Option Nat} {c : Cx} {H : List Box} {w : World} {tm : List AV} {a : Act} {n : Nat}

theorem RA.bare {c' : Cx} {w' : World} {ρ : List (Option (Nat × Nat))} {av : AV} {v : Value} (hρ : c'.ρ = []) (h : RA c' [] w' av v) : RA { c' with ρ := ρ } H w' av v := by
  have := RA.more (ρ2 := ρ) (H2 := H) (by simp [hρ]) h
  simpa [hρ] using this

theorem stS_forget (keep : List Nat) : ∀ (i : Nat) {tm : List AV} {vs : List Value}, All2 (fun v a => RA c H w a v) vs tm → All2 (fun v a => RA c H w a v) vs (stS keep [] i tm)
  | i, [], vs, h => by simpa [stS] using h
  | i, a :: r, vs, h => by
    obtain ⟨v, vs', rfl, h1, h2⟩ := h.cons_right
    simp only [stS, findU]
    refine All2.cons ?_ (stS_forget keep (i + 1) h2)
    split
    · exact h1.dull
    · exact .any v

theorem run_call_it {g : Operand} {l f : Nat} {fv cv : List Value} (hf : a.eval g = .func (.func f) fv.toArray cv.toArray) (hok : okFn P f = true) :
    ∃ d, (resolve a.eval (rangeCall g l) 0).run P w = .ok d w ∧ (invoke d.target d.args).run P w = .ok (.enter f (fv ++ [Value.func (.yield l) #[] #[]] ++ cv).toArray) w := by
  unfold okFn at hok
  cases hfn : P.funcs[f]? with
  | none => rw [hfn] at hok; simp at hok
  | some fn =>
    rw [hfn] at hok
    simp only [Bool.and_eq_true, Bool.not_eq_true'] at hok
    obtain ⟨h1, h2⟩ := hok
    have h3 : fn.body.isNone = false := by cases hb : fn.body with
      | none => rw [hb] at h2; simp at h2
      | some b => rfl
    refine ⟨{ target := .fn (.func f) cv.toArray, args := fv.toArray ++ #[Value.func (.yield l) #[] #[]] }, ?_, ?_⟩
    · simp only [resolve, hf, Deferred.ofValue, Sem.run_pure]
      simp [Act.eval]
    · have ha : fv.toArray ++ #[Value.func (.yield l) #[] #[]] ++ cv.toArray = (fv ++ [Value.func (.yield l) #[] #[]] ++ cv).toArray := by
        apply Array.ext'; simp
      simp only [invoke, callFunc, Sem.run_bind, Sem.run_pure, Result.andThen_ok, run_program, hfn, h1, Bool.false_eq_true, if_false, h3]
      rw [ha]

theorem iterW_sound {keep : List Nat} {j g : Nat} {ps : Array Tmp} {asn bd : Code} {Q : Post} 
    (h : iterW P G keep j g ps.toList asn bd tm H Q) : PW P G none n (.block j (.rangeFunc (.tmp g) ps asn bd)) tm H Q := by
  refine ⟨fun nb c a w hR => ?_⟩
  unfold iterW at h
  split at h
  · rename_i f fi ca hcl
    split at h
    · rename_i hok
      simp only [Bool.and_eq_true] at hok
      obtain ⟨hok, hpl⟩ := hok
      have hg := ev_sound (tags := []) hR (fun g p h => by simp [hasTag] at h) (.tmp g)
      have hev : ev G (getT [] tm) (.tmp g) = .clo f fi ca := by
        show getT [] tm g = _
        unfold getT
        rw [hcl]
      rw [hev] at hg
      generalize hgv : a.eval (.tmp g) = gv at hg
      cases hg with
      | @clo _ _ _ fv cv l1 l2 g1 g2 =>
      refine wpIn_block (wpIn_rangeFunc fun fn _ => ?_)
      let w1 : World := w.alloc (.deferred (some []))
      let rec_ : Loop := { state := .ready, pending := none, fn, tmps := a.tmps, params := ps, assign := asn, body := bd, defers := w.heap.size }
      let w2 : World := w1.alloc (.loop rec_)
      have hs1 : w1.heap.size = w.heap.size + 1 := World.size_alloc w _
      obtain ⟨d, hd1, hd2⟩ := run_call_it (P := P) (w := w2) (a := a) (g := .tmp g) (l := w1.heap.size) hgv hok
      refine ⟨w.heap.size + 1, [mark w.heap.size], w2, d, w2, f, _, w2, run_enterLoop_outer fn a.tmps ps asn bd, by rw [← hs1]; exact hd1, fun _ _ => trivial, hd2, fun h => by simp [Fen, Fence.wide] at h, ?_⟩
      refine callsIn_fen ?_
      -- the boxes
      have e1 : Ext c w c w1 := Ext.push_free c w _ hR.hr.ilt hR.hr.jlt
      have hr1 : HR c H w1 := hR.hr.push_free _
      let x : Box := .loop (stS keep [] 0 tm) ps.toList asn bd none .ready
      have e2 : Ext c w1 (c.grow w1.heap.size 0) w2 := Ext.push_box c w1 _ 0 hr1.ilt hr1.jlt
      have kp2 : Keep c H (c.grow w1.heap.size 0) (H ++ [x]) := Keep.grow c H _ 0 x hR.hr.len
      have htm2 : All2 (fun v a => RA (c.grow w1.heap.size 0) (H ++ [x]) w2 a v) a.tmps.toList tm := by
        have h3 := (hR.tm.ext e1 (Keep.refl c H)).ext e2 kp2
        refine ⟨h3.1, fun i v y hv hy => ?_⟩
        have h4 := h3.2 i v y hv hy
        have h5 := List.all_eq_true.1 hpl _ (List.mem_of_getElem? hy)
        cases y <;> first
          | exact h4
          | simp [plainAV] at h5
      have hr2 : HR (c.grow w1.heap.size 0) (H ++ [x]) w2 := by
        refine HR.push_box hr1 (.loop rec_) 0 x ⟨rec_, by simp, rfl, rfl, rfl, rfl, rfl, stS_forget keep 0 htm2⟩
      have hext2 := e1.trans e2
      have hdf1 : Dfs nb (c.grow w1.heap.size 0) w2 (mark w.heap.size :: a.defers) := by
        obtain ⟨d0, ms, d1, d2, d3⟩ := hR.df.ext hext2
        have hnot : ∀ m ∈ ms, m < w.heap.size := fun m hm => by
          obtain ⟨_, ms', q1, _, q3⟩ := hR.df
          have : ms' = ms := by
            have h6 : ms'.map mark = ms.map mark := q1.symm.trans d1
            have hinj : Function.Injective mark := fun x y hxy => by simpa [mark] using hxy
            exact (List.map_inj_right (fun x y hxy => hinj hxy)).1 h6
          subst this
          exact heap_lt (q3 m hm).2.1
        refine ⟨d0, w.heap.size :: ms, by rw [d1]; rfl, List.nodup_cons.2 ⟨fun h => Nat.lt_irrefl _ (hnot _ h), d2⟩, fun m hm => ?_⟩
        rcases List.mem_cons.1 hm with rfl | hm
        · refine ⟨hR.df.1, ?_, fun l k hl => ?_, fun o hi => ?_, fun hj => ?_⟩
          · show ((w.heap.push _).push _)[w.heap.size]? = _
            rw [Array.getElem?_push]
            simp
          · rcases get_snoc_cases hl with hl | ⟨_, hl⟩
            · exact Nat.lt_irrefl _ (hR.hr.lt l _ k hl)
            · simp at hl; omega
          · exact Nat.lt_irrefl _ (hR.hr.ilt _ o hi)
          · exact Nat.lt_irrefl _ (hR.hr.jlt _ hj)
        · exact d3 m hm
      have hargs : All2 (fun v a => RA (c.grow w1.heap.size 0) (H ++ [x]) w2 a v) (fv ++ [Value.func (.yield w1.heap.size) #[] #[]] ++ cv) (fi ++ [.yld H.length] ++ ca) := by
        have k1 : All2 (fun v a => RA (c.grow w1.heap.size 0) (H ++ [x]) w2 a v) fv fi := ⟨l1.symm, fun i v a hv ha => ((g1 i a v ha hv).ext e1 (Keep.refl c H)).ext e2 kp2⟩
        have k2 : All2 (fun v a => RA (c.grow w1.heap.size 0) (H ++ [x]) w2 a v) cv ca := ⟨l2.symm, fun i v a hv ha => ((g2 i a v ha hv).ext e1 (Keep.refl c H)).ext e2 kp2⟩
        have k3 : RA (c.grow w1.heap.size 0) (H ++ [x]) w2 (.yld H.length) (.func (.yield w1.heap.size) #[] #[]) :=
          .yld (k := 0) (by simp [x]; exact ⟨rfl, rfl, rfl, rfl, rfl, rfl⟩) (by simp [Cx.grow, ← hR.hr.len])
        exact (k1.append (All2.cons k3 All2.nil)).append k2
      refine (h.run (c.grow w1.heap.size 0) w2 _ hr2 (hR.gr.ext hext2) hargs).mono fun en w3 hen => ?_
      obtain ⟨v, rs, c3, H3, rfl, hq, hl3, e3, k3, hr3, _⟩ := hen
      obtain ⟨H'', rfl, hend⟩ := exH_some hq
      unfold iterEnd at hend
      split at hend
      · rename_i tm' ps' asn' bd' pend st hl
        split at hend
        · rename_i hund
          obtain ⟨hst, hend⟩ := hend
          have hlen3 : H3.length = H.length + 1 := by simpa using hl3
          have hlx : (H ++ [x])[H.length]? = some x := by simp
          obtain ⟨⟨p4, s4, hq4⟩, hρ4⟩ := k3 H.length _ hlx
          have hρ3 : c3.ρ[H.length]? = some (some (w1.heap.size, 0)) := by rw [hρ4]; simp [Cx.grow, ← hR.hr.len]
          obtain ⟨r3, t1, t2, t3, t4, t5, t6, t7⟩ := hr3.box H.length _ _ _ hρ3 hl
          obtain ⟨e4, hr4⟩ := loop_set hr3 hl hρ3 t1 pend .exhausted
          have e5 : ({ r3 with state := .exhausted, pending := pend } : Loop) = { r3 with state := .exhausted } := by rw [← t5]
          rw [e5] at e4 hr4
          have hrun : (Instr.endLoop (w.heap.size + 1)).run P w3 = .ok pend (w3.putObj (w.heap.size + 1) (.loop { r3 with state := .exhausted })) := by
            rw [hs1] at t1
            rw [← t5]
            exact run_endLoop t1 (by rw [t6]; exact hst)
          rw [hs1] at e4 hr4
          refine ⟨pend, _, hrun, ?_⟩
          have htk : (H3.set H.length (.loop tm' ps' asn' bd' pend .exhausted)).take H.length = H3.take H.length := by
            rw [List.take_set_of_le (Nat.le_refl _)]
          have hr5 : HR (c3.take H.length) (H3.take H.length) (w3.putObj (w.heap.size + 1) (.loop { r3 with state := .exhausted })) := by
            have := hr4.take (n := H.length) (by rw [htk]; exact hund)
            rwa [htk] at this
          have e6 : Ext c w (c3.take H.length) (w3.putObj (w.heap.size + 1) (.loop { r3 with state := .exhausted })) := (hext2.trans (e3.trans e4)).trans (Ext.take _ _ _)
          have k6 : Keep c H (c3.take H.length) (H3.take H.length) := by
            intro m y hy
            have hlt : m < H.length := by
              rcases Nat.lt_or_ge m H.length with h' | h'
              · exact h'
              · rw [List.getElem?_eq_none h'] at hy; cases hy
            have := (kp2.trans k3) m y hy
            have e1 : (c3.take H.length).ρ[m]? = c3.ρ[m]? := by show (c3.ρ.take _)[m]? = _; rw [get_take hlt]
            have e2 : (H3.take H.length)[m]? = H3[m]? := get_take hlt
            cases y <;> simp only [e1, e2] <;> exact this
          have hRep : Rep G nb (c3.take H.length) (H3.take H.length) (w3.putObj (w.heap.size + 1) (.loop { r3 with state := .exhausted })) tm { a with defers := [mark w.heap.size] ++ a.defers } :=
            ⟨hr5, hR.gr.ext e6, hR.tm.ext e6 k6, ((hdf1.ext e3).ext e4).ext (Ext.take _ _ _)⟩
          have hEnds : ∀ e, Q e tm (H3.take H.length) → Ends G nb n c H w Q e { a with defers := [mark w.heap.size] ++ a.defers } (w3.putObj (w.heap.size + 1) (.loop { r3 with state := .exhausted })) :=
            fun e he => ⟨_, tm, _, he, hRep, e6, k6.cut n⟩
          rcases hend with ⟨rfl, hq⟩ | ⟨rfl, hq⟩ | ⟨rfl, hq⟩
          · exact hEnds .normal hq
          · exact wpIn_ret (hEnds .ret hq)
          · refine wpIn_exit ?_
            simp only [Exit.inBlock, if_true]
            exact hEnds .normal hq
        · exact hend.elim
      · exact hend.elim
    · exact h.elim
  · exact h.elim

theorem rangeW_sound' {keep : List Nat} {it : List D → AV} {code : Code} {Q : Post} (h : rangeW P G keep it code tm H Q) : PW P G none n code tm H Q := by
  unfold rangeW at h
  split at h
  · rename_i r hr
    have hcode : ∃ id, code = .seq (.region id r.ops false) (.block r.j (.rangeFunc (.tmp r.g) r.ps r.asn r.bd)) := by
      unfold rangeParts at hr
      split at hr
      · cases hr; exact ⟨_, rfl⟩
      · cases hr
    have ha : rpAsn code = r.asn := by unfold rpAsn; rw [hr]
    have hb : rpBd code = r.bd := by unfold rpBd; rw [hr]
    have hj : rpJ code = r.j := by unfold rpJ; rw [hr]
    have hps : rpPs code = r.ps.toList := by unfold rpPs; rw [hr]
    obtain ⟨id, rfl⟩ := hcode
    rw [ha, hb, hj, hps] at h
    refine ⟨fun nb c a w hR => ?_⟩
    cases hlast : r.ops.toList.getLast? with
    | none =>
      have h0 : r.ops.toList = [] := List.getLast?_eq_none_iff.1 hlast
      rw [h0] at h
      simp [opsW] at h
    | some o =>
      have happ : r.ops.toList = r.ops.toList.dropLast ++ [o] := by
        obtain ⟨ys, hys⟩ := List.getLast?_eq_some_iff.1 hlast
        rw [hys]; simp
      rw [hlast] at h
      refine wpIn_seq (wpIn_region ?_)
      have hsz : List.range r.ops.size = List.range' 0 (r.ops.toList.dropLast.length + [o].length) := by
        rw [List.range_eq_range']
        congr 1
        have := congrArg List.length happ
        simpa using this
      rw [hsz]
      refine opsW_pre (r := [o]) _ 0 c H w tm a (by simpa using happ) hR h ?_
      intro a1 w1 c1 tm1 H1 hk hR1 e1 k1
      have ho : r.ops[r.ops.toList.dropLast.length]? = some o := by
        have : r.ops.toList[r.ops.toList.dropLast.length]? = some o := by
          rw [happ]; simp
        simpa using this
      simp only at hk
      split at hk
      · rename_i f args types d hgd hop hdst
        split at hk
        · rename_i k hcal
          split at hk
          · rename_i hok
            split at hk
            · rename_i ds hds
              obtain ⟨hA, hI⟩ := hk
              have he := ev_sound (tags := []) hR1 (fun g p h => by simp [hasTag] at h)
              obtain ⟨fv, cv, hfv, hargs⟩ := callee_args (args := args) he hcal
              have hrv := mapM_avD (by simpa using hds) hargs
              simp only [List.length_cons, List.length_nil, Nat.zero_add]
              rw [show List.range' r.ops.toList.dropLast.length 1 = [r.ops.toList.dropLast.length] from rfl, wpOpsIn_cons]
              unfold wpOpIn
              rw [ho]
              simp only
              have hw : Region.wanted o (yielded r.ops a1.tmps) = true := by simp [Region.wanted, hgd]
              rw [if_pos hw]
              refine wpIn_enter (by rw [hop]; intro d hd; cases hd) (run_call hop hfv hok) ?_
              refine (hA.run { c1 with ρ := [] } w1 _ rfl hR1.hr.nil hR1.gr hrv).mono fun en w2 hen => ?_
              obtain ⟨v, av, c2, rfl, rfl, hρ2, hext, hhr, hra⟩ := hen
              obtain ⟨e2, k2, h2⟩ := back_from hR1.hr hext hhr
              have hra2 : RA { c2 with ρ := c1.ρ } H1 w2 (it ds) v := RA.bare hρ2 hra
              have hR2 := hR1.put e2 k2 h2 o.dst (slot_dull hra2)
              refine ⟨v, rfl, ?_⟩
              simp only [wpOpsIn]
              rw [hdst] at hR2 ⊢
              have hfin := (iterW_sound (n := n) (ps := r.ps) hI).run nb _ _ w2 hR2.clear
              refine wpIn_mono hfin fun e a3 w3 hE => ?_
              exact hE.later (e1.trans e2) ((k1.trans k2).cut n)
            · exact hk.elim
          · exact hk.elim
        · exact hk.elim
      · exact hk.elim
  · exact h.elim

theorem rangeW_sound {keep : List Nat} {it : List D → AV} {b : Code} (hb : isScope b = true) (tm : List AV) (H : List Box) (Q : Post) (h : rangeW P G keep it (unScope b) tm H Q) : PW P G none n (mkLoop b) tm H Q := by
  have : mkLoop b = unScope b := by cases b <;> first | rfl | simp [isScope] at hb
  rw [this]
  exact rangeW_sound' h
end
end Go.Sx
/- Contracts of the library's taken over. -/
namespace Go.Sx
open Go Go.RowKit

section
variable {P : Program} {G : Nat → Option (List D)} {c : Cx} {w w' : World}

theorem Ext.below (h : Below w.heap.size w w') (hR : HR c [] w) : Ext c w c w' where
  os := h.os
  tape := h.tape
  output := h.output
  isub _ _ h := h
  jsub _ h := h
  icell b o hi := cell_of_heap (h.block b (hR.ilt b o hi)) _ _
  jobj r hr := h.block r (hR.jlt r hr)
  size := h.size
  frame b hb _ := h.block b hb
  inew _ _ h := .inl h
  jnew _ h := .inl h
  fresh l b k h := .inl ⟨l, k, h⟩

theorem HR.below (h : Below w.heap.size w w') (hρ : c.ρ = []) (hR : HR c [] w) : HR c [] w' where
  len := hR.len
  inj := hR.inj
  box l b k x h1 := by rw [hρ] at h1; simp at h1
  non l x h1 := by rw [hρ] at h1; simp at h1
  lt l b k h1 := by rw [hρ] at h1; simp at h1
  ilt b o hi := Nat.lt_of_lt_of_le (hR.ilt b o hi) h.size
  jlt r hr := Nat.lt_of_lt_of_le (hR.jlt r hr) h.size
  iap := hR.iap
  jap := hR.jap

/-- A contract that leaves the world below as it was and hands back a value that reads in every world. -/
theorem PFn.of_calls {f : FuncId} {ds : List D} {r : D} {v : Value} (hv : ∀ I J w, RV I J w v r) (h : ∀ (c : Cx) (w : World) (vs : List Value), c.ρ = [] → HR c [] w → All2 (RV c.I c.J w) vs ds → Calls P f vs.toArray w fun e w' => e = .returned v ∧ Below w.heap.size w w') : PFn P G f ds (· = [r]) := by
  refine ⟨⟨_, rfl⟩, fun c w vs hρ hr _ hvs => (h c w vs hρ hr hvs).mono fun e w' he => ?_⟩
  obtain ⟨rfl, hb⟩ := he
  exact ⟨v, [r], c, rfl, rfl, hρ, Ext.below hb hr, HR.below hb hρ hr, hv _ _ _⟩
end
end Go.Sx
/- Formulas as plain data: the model. -/
namespace Go.Fo
open Go Go.Sx

structure Tm where
  kind : Int
  name : List UInt8
  n : Int
  deriving DecidableEq

structure Bd where
  name : List UInt8
  sort : Int
  deriving DecidableEq

inductive Fm where
  | mk (kind : Int) (name : List UInt8) (n : Int) (ts : List Tm) (bs : List Bd) (l : List Fm)

def Fm.kind : Fm → Int
  | .mk k _ _ _ _ _ => k
def Fm.name : Fm → List UInt8
  | .mk _ s _ _ _ _ => s
def Fm.n : Fm → Int
  | .mk _ _ n _ _ _ => n
def Fm.ts : Fm → List Tm
  | .mk _ _ _ t _ _ => t
def Fm.bs : Fm → List Bd
  | .mk _ _ _ _ b _ => b
def Fm.l : Fm → List Fm
  | .mk _ _ _ _ _ l => l

theorem Fm.eta (f : Fm) : Fm.mk f.kind f.name f.n f.ts f.bs f.l = f := by cases f; rfl

def Tm.d (t : Tm) : D := .agg [.int .i64 t.kind, .str t.name, .int .i64 t.n]
def Bd.d (b : Bd) : D := .agg [.str b.name, .int .i64 b.sort]

mutual
def Fm.d : Fm → D
  | .mk k nm n ts bs l => .agg [.int .i64 k, .str nm, .int .i64 n, .sl (ts.map Tm.d), .sl (bs.map Bd.d), .sl (Fm.ds l)]
def Fm.ds : List Fm → List D
  | [] => []
  | x :: r => x.d :: Fm.ds r
end

theorem Fm.ds_eq : ∀ l : List Fm, Fm.ds l = l.map Fm.d
  | [] => by simp [Fm.ds]
  | x :: r => by simp [Fm.ds, Fm.ds_eq r]

theorem Fm.d_mk (k : Int) (nm : List UInt8) (n : Int) (ts : List Tm) (bs : List Bd) (l : List Fm) :
    (Fm.mk k nm n ts bs l).d = .agg [.int .i64 k, .str nm, .int .i64 n, .sl (ts.map Tm.d), .sl (bs.map Bd.d), .sl (l.map Fm.d)] := by
  rw [Fm.d, Fm.ds_eq]

theorem Fm.d_eq (f : Fm) : f.d = .agg [.int .i64 f.kind, .str f.name, .int .i64 f.n, .sl (f.ts.map Tm.d), .sl (f.bs.map Bd.d), .sl (f.l.map Fm.d)] := by
  cases f; exact Fm.d_mk _ _ _ _ _ _

/-! What a field of an element reads as. -/
section
variable {i : Nat}
theorem cell_tm0 {ts : List Tm} {t : Tm} (h : ts[i]? = some t) : cellAt (ts.map Tm.d) i 0 = some (.int .i64 t.kind) := by simp [cellAt, h, Tm.d, D.cells]
theorem cell_tm1 {ts : List Tm} {t : Tm} (h : ts[i]? = some t) : cellAt (ts.map Tm.d) i (0 + 1) = some (.str t.name) := by simp [cellAt, h, Tm.d, D.cells]
theorem cell_tm2 {ts : List Tm} {t : Tm} (h : ts[i]? = some t) : cellAt (ts.map Tm.d) i (0 + 1 + 1) = some (.int .i64 t.n) := by simp [cellAt, h, Tm.d, D.cells]
theorem cell_bd0 {bs : List Bd} {b : Bd} (h : bs[i]? = some b) : cellAt (bs.map Bd.d) i 0 = some (.str b.name) := by simp [cellAt, h, Bd.d, D.cells]
theorem cell_bd1 {bs : List Bd} {b : Bd} (h : bs[i]? = some b) : cellAt (bs.map Bd.d) i (0 + 1) = some (.int .i64 b.sort) := by simp [cellAt, h, Bd.d, D.cells]
theorem cell_fm0 {l : List Fm} {f : Fm} (h : l[i]? = some f) : cellAt (l.map Fm.d) i 0 = some (.int .i64 f.kind) := by simp [cellAt, h, Fm.d_eq, D.cells]
theorem cell_fm1 {l : List Fm} {f : Fm} (h : l[i]? = some f) : cellAt (l.map Fm.d) i (0 + 1) = some (.str f.name) := by simp [cellAt, h, Fm.d_eq, D.cells]
theorem cell_fm2 {l : List Fm} {f : Fm} (h : l[i]? = some f) : cellAt (l.map Fm.d) i (0 + 1 + 1) = some (.int .i64 f.n) := by simp [cellAt, h, Fm.d_eq, D.cells]
theorem cell_fm3 {l : List Fm} {f : Fm} (h : l[i]? = some f) : cellAt (l.map Fm.d) i (0 + 1 + 1 + 1) = some (.sl (f.ts.map Tm.d)) := by simp [cellAt, h, Fm.d_eq, D.cells]
theorem cell_fm4 {l : List Fm} {f : Fm} (h : l[i]? = some f) : cellAt (l.map Fm.d) i (0 + 1 + 1 + 1 + 1) = some (.sl (f.bs.map Bd.d)) := by simp [cellAt, h, Fm.d_eq, D.cells]
theorem cell_fm5 {l : List Fm} {f : Fm} (h : l[i]? = some f) : cellAt (l.map Fm.d) i (0 + 1 + 1 + 1 + 1 + 1) = some (.sl (f.l.map Fm.d)) := by simp [cellAt, h, Fm.d_eq, D.cells]

theorem agg_tm {ts : List Tm} {t : Tm} (h : ts[i]? = some t) : aggAt [.int .i64, .str, .int .i64] (ts.map Tm.d) i = t.d := by
  simp only [aggAt, Sx.rowAt, cell_tm0 h, cell_tm1 h, cell_tm2 h]; rfl
theorem agg_bd {bs : List Bd} {b : Bd} (h : bs[i]? = some b) : aggAt [.str, .int .i64] (bs.map Bd.d) i = b.d := by
  simp only [aggAt, Sx.rowAt, cell_bd0 h, cell_bd1 h]; rfl
theorem agg_fm {l : List Fm} {f : Fm} (h : l[i]? = some f) : aggAt [.int .i64, .str, .int .i64, .sl, .sl, .sl] (l.map Fm.d) i = f.d := by
  simp only [aggAt, Sx.rowAt, cell_fm0 h, cell_fm1 h, cell_fm2 h, cell_fm3 h, cell_fm4 h, cell_fm5 h]; rw [Fm.d_eq]; rfl
end

/-! Sizes -/
mutual
def Fm.rank : Fm → Nat
  | .mk _ _ _ _ _ l => 1 + Fm.ranks l
def Fm.ranks : List Fm → Nat
  | [] => 0
  | x :: r => x.rank + Fm.ranks r
end

theorem Fm.ranks_mem : ∀ {l : List Fm} {x : Fm}, x ∈ l → x.rank ≤ Fm.ranks l
  | y :: r, x, h => by
    rw [Fm.ranks]
    rcases List.mem_cons.1 h with rfl | h
    · omega
    · have := Fm.ranks_mem h; omega

theorem Fm.rank_lt {f x : Fm} (h : x ∈ f.l) : x.rank < f.rank := by
  cases f with
  | mk k nm n ts bs l =>
    have := Fm.ranks_mem (l := l) h
    rw [Fm.rank]; omega

theorem Fm.induct {M : Fm → Prop} (h : ∀ f, (∀ x ∈ f.l, M x) → M f) (f : Fm) : M f := by
  have : ∀ n (f : Fm), f.rank < n → M f := by
    intro n
    induction n with
    | zero => intro f hf; omega
    | succ n ih => intro f hf; exact h f fun x hx => ih x (by have := Fm.rank_lt hx; omega)
  exact this _ f (Nat.lt_succ_self _)

theorem get_of_lt {α : Type} {l : List α} {x : Int} (h0 : 0 ≤ x) (h : x < (l.length : Int)) : ∃ y, l[x.toNat]? = some y ∧ y ∈ l := by
  have hlt : x.toNat < l.length := by omega
  exact ⟨l[x.toNat], by simp [hlt], List.getElem_mem hlt⟩

theorem wrap64 {n : Int} (h0 : -9223372036854775808 ≤ n) (h1 : n < 9223372036854775808) : IntKind.wrap IntKind.i64 n = n := by
  simp only [IntKind.wrap]
  simp [IntKind.signed, IntKind.bits]
  omega
end Go.Fo
/- Contracts of the small functions. -/
namespace Go.Fo
open Go Go.Sx Go.Proofs
set_option maxRecDepth 100000

theorem mixed : Tryd.prog.follows .mixedOrders = true := by kernel_rfl
def L0 : Loops := fun _ => none
theorem ok0 {G : Nat → Option (List D)} {rd : Option Nat} {n : Nat} {L : Loops} {code : Code} (h : loopsOf code = []) : LoopsOk Tryd.prog G rd n L (loopsOf code) := by rw [h]; exact LoopsOk.nil

section
variable {G : Nat → Option (List D)}

def atomB (k : Int) : Bool := decide (3 ≤ k) && decide (k ≤ 9)
def quantB (k : Int) : Bool := decide (14 ≤ k) && decide (k ≤ 17)
def countB (k : Int) : Bool := decide (k = 16) || decide (k = 17)
def numB (n : Int) : Bool := decide (0 ≤ n) && decide (n ≤ 1099511627776)

theorem bif_and (a b : Bool) : (bif a then b else false) = (a && b) := by cases a <;> rfl
theorem bif_or (a b : Bool) : (bif a then true else b) = (a || b) := by cases a <;> rfl

theorem fn42 (k : Int) : PFn Tryd.prog G 68 [.int .i64 k] (· = [.bool (atomB k)]) := by
  refine PFn.walk (fn := Tryd.f68) (code := bodyOf Tryd.f68) mixed L0 Tryd.func68 (by kernel_rfl) ⟨_, rfl⟩ (ok0 (by kernel_rfl)) ?_
  apply @of_vc _ (
    [D.bool (bif decide (k ≥ (3 : Int)) then decide (k ≤ (9 : Int)) else false)] = [D.bool (atomB k)])
  · kernel_rfl
  simp only [bif_and, atomB, ge_iff_le]
theorem fn43 (k : Int) : PFn Tryd.prog G 69 [.int .i64 k] (· = [.bool (quantB k)]) := by
  refine PFn.walk (fn := Tryd.f69) (code := bodyOf Tryd.f69) mixed L0 Tryd.func69 (by kernel_rfl) ⟨_, rfl⟩ (ok0 (by kernel_rfl)) ?_
  apply @of_vc _ (
    [D.bool (bif decide (k ≥ (14 : Int)) then decide (k ≤ (17 : Int)) else false)] = [D.bool (quantB k)])
  · kernel_rfl
  simp only [bif_and, quantB, ge_iff_le]
theorem fn44 (k : Int) : PFn Tryd.prog G 70 [.int .i64 k] (· = [.bool (countB k)]) := by
  refine PFn.walk (fn := Tryd.f70) (code := bodyOf Tryd.f70) mixed L0 Tryd.func70 (by kernel_rfl) ⟨_, rfl⟩ (ok0 (by kernel_rfl)) ?_
  apply @of_vc _ (
    [D.bool (bif k == (16 : Int) then true else k == (17 : Int))] = [D.bool (countB k)])
  · kernel_rfl
  simp only [bif_or, countB]
  rfl
theorem fn51 (k : Int) : PFn Tryd.prog G 76 [.int .i64 k] (· = [.bool (numB k)]) := by
  refine PFn.walk (fn := Tryd.f76) (code := bodyOf Tryd.f76) mixed L0 Tryd.func76 (by kernel_rfl) ⟨_, rfl⟩ (ok0 (by kernel_rfl)) ?_
  apply @of_vc _ (
    [D.bool (bif decide (k ≥ (0 : Int)) then decide (k ≤ (1099511627776 : Int)) else false)] = [D.bool (numB k)])
  · kernel_rfl
  simp only [bif_and, numB, ge_iff_le]
theorem fn59 (k : Int) : PFn Tryd.prog G 62 [.int .i64 k] (· = [.bool (atomB k)]) := by
  refine PFn.walk (fn := Tryd.f62) (code := bodyOf Tryd.f62) mixed L0 Tryd.func62 (by kernel_rfl) ⟨_, rfl⟩ (ok0 (by kernel_rfl)) ?_
  apply @of_vc _ (
    [D.bool (bif decide (k ≥ (3 : Int)) then decide (k ≤ (9 : Int)) else false)] = [D.bool (atomB k)])
  · kernel_rfl
  simp only [bif_and, atomB, ge_iff_le]
theorem fn68 (k : Int) : PFn Tryd.prog G 91 [.int .i64 k] (· = [.bool (quantB k)]) := by
  refine PFn.walk (fn := Tryd.f91) (code := bodyOf Tryd.f91) mixed L0 Tryd.func91 (by kernel_rfl) ⟨_, rfl⟩ (ok0 (by kernel_rfl)) ?_
  apply @of_vc _ (
    [D.bool (bif decide (k ≥ (14 : Int)) then decide (k ≤ (17 : Int)) else false)] = [D.bool (quantB k)])
  · kernel_rfl
  simp only [bif_and, quantB, ge_iff_le]
def signB (s : List UInt8) : Bool := s == [61] || s == [33, 61] || s == [60] || s == [60, 61] || s == [62] || s == [62, 61]
theorem fn67 (s : List UInt8) : PFn Tryd.prog G 90 [.str s] (· = [.bool (signB s)]) := by
  refine PFn.walk (fn := Tryd.f90) (code := bodyOf Tryd.f90) mixed L0 Tryd.func90 (by kernel_rfl) ⟨_, rfl⟩ (ok0 (by kernel_rfl)) ?_
  apply @of_vc _ (
    [D.bool (bif bif bif bif bif s == Array.toList (ByteArray.data (ByteArray.mk #[(61 : UInt8)])) then true else s == Array.toList (ByteArray.data (ByteArray.mk #[(33 : UInt8), (61 :
    UInt8)])) then true else s == Array.toList (ByteArray.data (ByteArray.mk #[(60 : UInt8)])) then true else s == Array.toList (ByteArray.data (ByteArray.mk #[(60 : UInt8), (61 : UInt8)]))
    then true else s == Array.toList (ByteArray.data (ByteArray.mk #[(62 : UInt8)])) then true else s == Array.toList (ByteArray.data (ByteArray.mk #[(62 : UInt8), (61 : UInt8)])))] =
    [D.bool (signB s)])
  · kernel_rfl
  simp only [bif_or, signB]

def turnS (s : List UInt8) : List UInt8 :=
  if s == [61] then [33, 61] else if s == [33, 61] then [61] else if s == [60] then [62, 61] else if s == [62, 61] then [60] else if s == [60, 61] then [62] else [60, 61]
def partsI (k : Int) : Int :=
  if k = 10 ∨ k = 14 ∨ k = 15 ∨ k = 16 ∨ k = 17 then 1 else if k = 11 ∨ k = 12 ∨ k = 13 then 2 else if k = 1 ∨ k = 2 ∨ atomB k = true then 0 else -1
theorem fn52 (k : Int) : PFn Tryd.prog G 83 [.int .i64 k] (· = [.int .i64 (partsI k)]) := by
  refine PFn.walk (fn := Tryd.f83) (code := bodyOf Tryd.f83) mixed L0 Tryd.func83 (by kernel_rfl) ⟨_, rfl⟩ (ok0 (by kernel_rfl)) ?_
  apply @of_vc _ (
    ((k == (10 : Int)) = true → ((k == (10 : Int)) = true → [D.int IntKind.i64 (1 : Int)] = [D.int IntKind.i64 (partsI k)]) ∧ ((k == (10 : Int)) = false → ((k == (11 : Int)) = true → ((k ==
    (11 : Int)) = true → [D.int IntKind.i64 (2 : Int)] = [D.int IntKind.i64 (partsI k)]) ∧ ((k == (11 : Int)) = false → PFn Tryd.prog G (62 : Nat) [D.int IntKind.i64 k] fun (rs : List D) =>
    ∃ (b : Bool), rs = [D.bool b] ∧ ((bif bif k == (1 : Int) then true else k == (2 : Int) then true else b) = true → [D.int IntKind.i64 (0 : Int)] = [D.int IntKind.i64 (partsI k)]) ∧ ((bif
    bif k == (1 : Int) then true else k == (2 : Int) then true else b) = false → [D.int IntKind.i64 (-1 : Int)] = [D.int IntKind.i64 (partsI k)]))) ∧ ((k == (11 : Int)) = false → ((k == (12
    : Int)) = true → ((k == (12 : Int)) = true → [D.int IntKind.i64 (2 : Int)] = [D.int IntKind.i64 (partsI k)]) ∧ ((k == (12 : Int)) = false → PFn Tryd.prog G (62 : Nat) [D.int IntKind.i64
    k] fun (rs : List D) => ∃ (b : Bool), rs = [D.bool b] ∧ ((bif bif k == (1 : Int) then true else k == (2 : Int) then true else b) = true → [D.int IntKind.i64 (0 : Int)] = [D.int
    IntKind.i64 (partsI k)]) ∧ ((bif bif k == (1 : Int) then true else k == (2 : Int) then true else b) = false → [D.int IntKind.i64 (-1 : Int)] = [D.int IntKind.i64 (partsI k)]))) ∧ ((k ==
    (12 : Int)) = false → ((k == (13 : Int)) = true → [D.int IntKind.i64 (2 : Int)] = [D.int IntKind.i64 (partsI k)]) ∧ ((k == (13 : Int)) = false → PFn Tryd.prog G (62 : Nat) [D.int
    IntKind.i64 k] fun (rs : List D) => ∃ (b : Bool), rs = [D.bool b] ∧ ((bif bif k == (1 : Int) then true else k == (2 : Int) then true else b) = true → [D.int IntKind.i64 (0 : Int)] =
    [D.int IntKind.i64 (partsI k)]) ∧ ((bif bif k == (1 : Int) then true else k == (2 : Int) then true else b) = false → [D.int IntKind.i64 (-1 : Int)] = [D.int IntKind.i64 (partsI k)]))))))
    ∧ ((k == (10 : Int)) = false → ((k == (14 : Int)) = true → ((k == (14 : Int)) = true → [D.int IntKind.i64 (1 : Int)] = [D.int IntKind.i64 (partsI k)]) ∧ ((k == (14 : Int)) = false → ((k
    == (11 : Int)) = true → ((k == (11 : Int)) = true → [D.int IntKind.i64 (2 : Int)] = [D.int IntKind.i64 (partsI k)]) ∧ ((k == (11 : Int)) = false → PFn Tryd.prog G (62 : Nat) [D.int
    IntKind.i64 k] fun (rs : List D) => ∃ (b : Bool), rs = [D.bool b] ∧ ((bif bif k == (1 : Int) then true else k == (2 : Int) then true else b) = true → [D.int IntKind.i64 (0 : Int)] =
    [D.int IntKind.i64 (partsI k)]) ∧ ((bif bif k == (1 : Int) then true else k == (2 : Int) then true else b) = false → [D.int IntKind.i64 (-1 : Int)] = [D.int IntKind.i64 (partsI k)]))) ∧
    ((k == (11 : Int)) = false → ((k == (12 : Int)) = true → ((k == (12 : Int)) = true → [D.int IntKind.i64 (2 : Int)] = [D.int IntKind.i64 (partsI k)]) ∧ ((k == (12 : Int)) = false → PFn
    Tryd.prog G (62 : Nat) [D.int IntKind.i64 k] fun (rs : List D) => ∃ (b : Bool), rs = [D.bool b] ∧ ((bif bif k == (1 : Int) then true else k == (2 : Int) then true else b) = true → [D.int
    IntKind.i64 (0 : Int)] = [D.int IntKind.i64 (partsI k)]) ∧ ((bif bif k == (1 : Int) then true else k == (2 : Int) then true else b) = false → [D.int IntKind.i64 (-1 : Int)] = [D.int
    IntKind.i64 (partsI k)]))) ∧ ((k == (12 : Int)) = false → ((k == (13 : Int)) = true → [D.int IntKind.i64 (2 : Int)] = [D.int IntKind.i64 (partsI k)]) ∧ ((k == (13 : Int)) = false → PFn
    Tryd.prog G (62 : Nat) [D.int IntKind.i64 k] fun (rs : List D) => ∃ (b : Bool), rs = [D.bool b] ∧ ((bif bif k == (1 : Int) then true else k == (2 : Int) then true else b) = true → [D.int
    IntKind.i64 (0 : Int)] = [D.int IntKind.i64 (partsI k)]) ∧ ((bif bif k == (1 : Int) then true else k == (2 : Int) then true else b) = false → [D.int IntKind.i64 (-1 : Int)] = [D.int
    IntKind.i64 (partsI k)])))))) ∧ ((k == (14 : Int)) = false → ((k == (15 : Int)) = true → ((k == (15 : Int)) = true → [D.int IntKind.i64 (1 : Int)] = [D.int IntKind.i64 (partsI k)]) ∧ ((k
    == (15 : Int)) = false → ((k == (11 : Int)) = true → ((k == (11 : Int)) = true → [D.int IntKind.i64 (2 : Int)] = [D.int IntKind.i64 (partsI k)]) ∧ ((k == (11 : Int)) = false → PFn
    Tryd.prog G (62 : Nat) [D.int IntKind.i64 k] fun (rs : List D) => ∃ (b : Bool), rs = [D.bool b] ∧ ((bif bif k == (1 : Int) then true else k == (2 : Int) then true else b) = true → [D.int
    IntKind.i64 (0 : Int)] = [D.int IntKind.i64 (partsI k)]) ∧ ((bif bif k == (1 : Int) then true else k == (2 : Int) then true else b) = false → [D.int IntKind.i64 (-1 : Int)] = [D.int
    IntKind.i64 (partsI k)]))) ∧ ((k == (11 : Int)) = false → ((k == (12 : Int)) = true → ((k == (12 : Int)) = true → [D.int IntKind.i64 (2 : Int)] = [D.int IntKind.i64 (partsI k)]) ∧ ((k ==
    (12 : Int)) = false → PFn Tryd.prog G (62 : Nat) [D.int IntKind.i64 k] fun (rs : List D) => ∃ (b : Bool), rs = [D.bool b] ∧ ((bif bif k == (1 : Int) then true else k == (2 : Int) then
    true else b) = true → [D.int IntKind.i64 (0 : Int)] = [D.int IntKind.i64 (partsI k)]) ∧ ((bif bif k == (1 : Int) then true else k == (2 : Int) then true else b) = false → [D.int
    IntKind.i64 (-1 : Int)] = [D.int IntKind.i64 (partsI k)]))) ∧ ((k == (12 : Int)) = false → ((k == (13 : Int)) = true → [D.int IntKind.i64 (2 : Int)] = [D.int IntKind.i64 (partsI k)]) ∧
    ((k == (13 : Int)) = false → PFn Tryd.prog G (62 : Nat) [D.int IntKind.i64 k] fun (rs : List D) => ∃ (b : Bool), rs = [D.bool b] ∧ ((bif bif k == (1 : Int) then true else k == (2 : Int)
    then true else b) = true → [D.int IntKind.i64 (0 : Int)] = [D.int IntKind.i64 (partsI k)]) ∧ ((bif bif k == (1 : Int) then true else k == (2 : Int) then true else b) = false → [D.int
    IntKind.i64 (-1 : Int)] = [D.int IntKind.i64 (partsI k)])))))) ∧ ((k == (15 : Int)) = false → ((k == (16 : Int)) = true → ((k == (16 : Int)) = true → [D.int IntKind.i64 (1 : Int)] =
    [D.int IntKind.i64 (partsI k)]) ∧ ((k == (16 : Int)) = false → ((k == (11 : Int)) = true → ((k == (11 : Int)) = true → [D.int IntKind.i64 (2 : Int)] = [D.int IntKind.i64 (partsI k)]) ∧
    ((k == (11 : Int)) = false → PFn Tryd.prog G (62 : Nat) [D.int IntKind.i64 k] fun (rs : List D) => ∃ (b : Bool), rs = [D.bool b] ∧ ((bif bif k == (1 : Int) then true else k == (2 : Int)
    then true else b) = true → [D.int IntKind.i64 (0 : Int)] = [D.int IntKind.i64 (partsI k)]) ∧ ((bif bif k == (1 : Int) then true else k == (2 : Int) then true else b) = false → [D.int
    IntKind.i64 (-1 : Int)] = [D.int IntKind.i64 (partsI k)]))) ∧ ((k == (11 : Int)) = false → ((k == (12 : Int)) = true → ((k == (12 : Int)) = true → [D.int IntKind.i64 (2 : Int)] = [D.int
    IntKind.i64 (partsI k)]) ∧ ((k == (12 : Int)) = false → PFn Tryd.prog G (62 : Nat) [D.int IntKind.i64 k] fun (rs : List D) => ∃ (b : Bool), rs = [D.bool b] ∧ ((bif bif k == (1 : Int)
    then true else k == (2 : Int) then true else b) = true → [D.int IntKind.i64 (0 : Int)] = [D.int IntKind.i64 (partsI k)]) ∧ ((bif bif k == (1 : Int) then true else k == (2 : Int) then
    true else b) = false → [D.int IntKind.i64 (-1 : Int)] = [D.int IntKind.i64 (partsI k)]))) ∧ ((k == (12 : Int)) = false → ((k == (13 : Int)) = true → [D.int IntKind.i64 (2 : Int)] =
    [D.int IntKind.i64 (partsI k)]) ∧ ((k == (13 : Int)) = false → PFn Tryd.prog G (62 : Nat) [D.int IntKind.i64 k] fun (rs : List D) => ∃ (b : Bool), rs = [D.bool b] ∧ ((bif bif k == (1 :
    Int) then true else k == (2 : Int) then true else b) = true → [D.int IntKind.i64 (0 : Int)] = [D.int IntKind.i64 (partsI k)]) ∧ ((bif bif k == (1 : Int) then true else k == (2 : Int)
    then true else b) = false → [D.int IntKind.i64 (-1 : Int)] = [D.int IntKind.i64 (partsI k)])))))) ∧ ((k == (16 : Int)) = false → ((k == (17 : Int)) = true → [D.int IntKind.i64 (1 : Int)]
    = [D.int IntKind.i64 (partsI k)]) ∧ ((k == (17 : Int)) = false → ((k == (11 : Int)) = true → ((k == (11 : Int)) = true → [D.int IntKind.i64 (2 : Int)] = [D.int IntKind.i64 (partsI k)]) ∧
    ((k == (11 : Int)) = false → PFn Tryd.prog G (62 : Nat) [D.int IntKind.i64 k] fun (rs : List D) => ∃ (b : Bool), rs = [D.bool b] ∧ ((bif bif k == (1 : Int) then true else k == (2 : Int)
    then true else b) = true → [D.int IntKind.i64 (0 : Int)] = [D.int IntKind.i64 (partsI k)]) ∧ ((bif bif k == (1 : Int) then true else k == (2 : Int) then true else b) = false → [D.int
    IntKind.i64 (-1 : Int)] = [D.int IntKind.i64 (partsI k)]))) ∧ ((k == (11 : Int)) = false → ((k == (12 : Int)) = true → ((k == (12 : Int)) = true → [D.int IntKind.i64 (2 : Int)] = [D.int
    IntKind.i64 (partsI k)]) ∧ ((k == (12 : Int)) = false → PFn Tryd.prog G (62 : Nat) [D.int IntKind.i64 k] fun (rs : List D) => ∃ (b : Bool), rs = [D.bool b] ∧ ((bif bif k == (1 : Int)
    then true else k == (2 : Int) then true else b) = true → [D.int IntKind.i64 (0 : Int)] = [D.int IntKind.i64 (partsI k)]) ∧ ((bif bif k == (1 : Int) then true else k == (2 : Int) then
    true else b) = false → [D.int IntKind.i64 (-1 : Int)] = [D.int IntKind.i64 (partsI k)]))) ∧ ((k == (12 : Int)) = false → ((k == (13 : Int)) = true → [D.int IntKind.i64 (2 : Int)] =
    [D.int IntKind.i64 (partsI k)]) ∧ ((k == (13 : Int)) = false → PFn Tryd.prog G (62 : Nat) [D.int IntKind.i64 k] fun (rs : List D) => ∃ (b : Bool), rs = [D.bool b] ∧ ((bif bif k == (1 :
    Int) then true else k == (2 : Int) then true else b) = true → [D.int IntKind.i64 (0 : Int)] = [D.int IntKind.i64 (partsI k)]) ∧ ((bif bif k == (1 : Int) then true else k == (2 : Int)
    then true else b) = false → [D.int IntKind.i64 (-1 : Int)] = [D.int IntKind.i64 (partsI k)]))))))))))
  · kernel_rfl
  repeat' first | refine And.intro ?_ ?_ | intro _
  all_goals first
    | (simp_all [partsI]; done)
    | (refine (fn59 k).mono ?_; rintro rs rfl; refine ⟨_, rfl, ?_⟩; simp_all [partsI]; done)
    | (refine (fn59 k).mono ?_; rintro rs rfl; refine ⟨_, rfl, fun h => ?_, fun h => ?_⟩ <;> simp_all [partsI, or_assoc]; done)

def Fm.not (f : Fm) : Fm := .mk 10 [] 0 [] [] [f]
def alwaysB (f : Fm) : Bool := f.kind == 1 || (f.kind == 16 && f.n == 0) || (f.kind == 17 && f.n == 1099511627776)
theorem fn56 (f : Fm) : PFn Tryd.prog G 78 [f.d] (· = [.bool (alwaysB f)]) := by
  rw [Fm.d_eq]
  refine PFn.walk (fn := Tryd.f78) (code := bodyOf Tryd.f78) mixed L0 Tryd.func78 (by kernel_rfl) ⟨_, rfl⟩ (ok0 (by kernel_rfl)) ?_
  apply @of_vc _ (
    [D.bool (bif bif Fm.kind f == (1 : Int) then true else bif Fm.kind f == (16 : Int) then Fm.n f == (0 : Int) else false then true else bif Fm.kind f == (17 : Int) then Fm.n f ==
    (1099511627776 : Int) else false)] = [D.bool (alwaysB f)])
  · kernel_rfl
  simp only [bif_or, bif_and, alwaysB]

def Fm.two (k : Int) (a b : Fm) : Fm := .mk k [] 0 [] [] [a, b]
def Fm.one (k : Int) (f : Fm) (n : Int) (x : Fm) : Fm := .mk k [] n [] f.bs [x]
end
end Go.Fo
/- Sizes and depths. -/
namespace Go.Fo
open Go Go.Sx Go.Proofs
set_option maxRecDepth 100000

theorem ranks_take_succ {l : List Fm} {i : Nat} {z : Fm} (h : l[i]? = some z) : Fm.ranks (l.take (i + 1)) = Fm.ranks (l.take i) + z.rank := by
  induction l generalizing i with
  | nil => simp at h
  | cons y r ih =>
    cases i with
    | zero => simp at h; subst h; simp [Fm.ranks]
    | succ i => simp at h; simp only [List.take_succ_cons, Fm.ranks]; rw [ih h]; omega
theorem ranks_take_le (l : List Fm) (i : Nat) : Fm.ranks (l.take i) ≤ Fm.ranks l := by
  induction l generalizing i with
  | nil => simp
  | cons y r ih =>
    cases i with
    | zero => simp [Fm.ranks]
    | succ i => simp only [List.take_succ_cons, Fm.ranks]; have := ih i; omega
theorem Fm.rank_eq (f : Fm) : f.rank = 1 + Fm.ranks f.l := by cases f; rfl
theorem ranks_len (l : List Fm) : l.length ≤ Fm.ranks l := by
  induction l with
  | nil => simp [Fm.ranks]
  | cons y r ih =>
    have := y.rank_eq
    simp only [Fm.ranks, List.length_cons]; omega

theorem get_nat {α : Type} {l : List α} {x : Nat} (h : x < l.length) : ∃ y, l[x]? = some y ∧ y ∈ l := ⟨l[x], by simp [h], List.getElem_mem h⟩

mutual
def Fm.depth : Fm → Nat
  | .mk _ _ _ _ _ l => Fm.depths l + 1
def Fm.depths : List Fm → Nat
  | [] => 0
  | x :: r => max x.depth (Fm.depths r)
end
theorem depths_take_succ {l : List Fm} {i : Nat} {z : Fm} (h : l[i]? = some z) : Fm.depths (l.take (i + 1)) = max (Fm.depths (l.take i)) z.depth := by
  induction l generalizing i with
  | nil => simp at h
  | cons y r ih =>
    cases i with
    | zero => simp at h; subst h; simp [Fm.depths]
    | succ i => simp at h; simp only [List.take_succ_cons, Fm.depths]; rw [ih h]; omega
theorem Fm.depth_eq (f : Fm) : f.depth = Fm.depths f.l + 1 := by cases f; rfl
theorem depths_le {l : List Fm} (h : ∀ x ∈ l, x.depth ≤ x.rank) : Fm.depths l ≤ Fm.ranks l := by
  induction l with
  | nil => simp [Fm.depths]
  | cons y r ih =>
    simp only [Fm.depths, Fm.ranks]
    have h1 := h y (by simp)
    have h2 := ih fun x hx => h x (by simp [hx])
    omega
theorem Fm.depth_le (f : Fm) : f.depth ≤ f.rank := by
  induction f using Fm.induct with
  | h f ih => rw [f.depth_eq, f.rank_eq]; have := depths_le ih; omega
theorem depths_mem {l : List Fm} {x : Fm} (h : x ∈ l) : x.depth ≤ Fm.depths l := by
  induction l with
  | nil => cases h
  | cons y r ih =>
    simp only [Fm.depths]
    rcases List.mem_cons.1 h with rfl | h
    · omega
    · have := ih h; omega
theorem depths_take_le (l : List Fm) (i : Nat) : Fm.depths (l.take i) ≤ Fm.depths l := by
  induction l generalizing i with
  | nil => simp
  | cons y r ih =>
    cases i with
    | zero => simp [Fm.depths]
    | succ i => simp only [List.take_succ_cons, Fm.depths]; have := ih i; omega

section
variable {G : Nat → Option (List D)}

theorem fn16 (f : Fm) (hf : f.rank < 4611686018427387904) : PFn Tryd.prog G 55 [f.d] (· = [.int .i64 f.rank]) := by
  induction f using Fm.induct with
  | h f ih =>
  have hr := f.rank_eq
  rw [f.d_eq]
  refine PFn.walk (fn := Tryd.f55) (code := bodyOf Tryd.f55) mixed
    (LL [(3, loopW (α := Nat) Tryd.prog G L0 0 (loopN (bodyOf Tryd.f55) 0) [1] (fun x => x ≤ f.l.length) (fun x => f.l.length - x)
      (fun x => [(3, .d (.int .i64 (1 + (Fm.ranks (f.l.take x) : Int)))), (4, .d (.int .i64 x))]) (fun H _ => H))])
    Tryd.func55 (by kernel_rfl) ⟨_, rfl⟩ (LoopsOk.one (b1 := loopN (bodyOf Tryd.f55) 0) (by kernel_rfl) (by kernel_rfl) (loopW_sound mixed (ok0 (by kernel_rfl)))) ?_
  · apply @of_vc _ (
      ∃ (x0 : Nat), x0 ≤ List.length (Fm.l f) ∧ ((AV.ptr (0 : Nat) (0 : Nat) = AV.ptr (0 : Nat) (0 : Nat) ∧ (1 : Int) = (1 : Int) + (↑(Fm.ranks (List.take x0 (Fm.l f))) : Int) ∧ (0 : Int) =
      (↑x0 : Int) ∧ True) ∧ (Fm.kind f = Fm.kind f ∧ Fm.name f = Fm.name f ∧ Fm.n f = Fm.n f ∧ List.map Tm.d (Fm.ts f) = List.map Tm.d (Fm.ts f) ∧ List.map Bd.d (Fm.bs f) = List.map Bd.d
      (Fm.bs f) ∧ List.map Fm.d (Fm.l f) = List.map Fm.d (Fm.l f) ∧ True) ∧ True) ∧ ∀ (x : Nat), x ≤ List.length (Fm.l f) → (decide ((↑x : Int) < (↑(List.length (List.map Fm.d (Fm.l f))) :
      Int)) = true → ((0 : Int) ≤ (↑x : Int) ∧ (List.map Fm.d (Fm.l f))[Int.toNat (↑x : Int)]? = some (aggAt [Sh.int IntKind.i64, Sh.str, Sh.int IntKind.i64, Sh.sl, Sh.sl, Sh.sl] (List.map
      Fm.d (Fm.l f)) (Int.toNat (↑x : Int)))) ∧ PFn Tryd.prog G (55 : Nat) [aggAt [Sh.int IntKind.i64, Sh.str, Sh.int IntKind.i64, Sh.sl, Sh.sl, Sh.sl] (List.map Fm.d (Fm.l f)) (Int.toNat
      (↑x : Int))] fun (rs : List D) => ∃ (n : Int), rs = [D.int IntKind.i64 n] ∧ ∃ (y : Nat), y ≤ List.length (Fm.l f) ∧ List.length (Fm.l f) - y < List.length (Fm.l f) - x ∧ (AV.ptr (0 :
      Nat) (0 : Nat) = AV.ptr (0 : Nat) (0 : Nat) ∧ IntKind.wrap IntKind.i64 ((1 : Int) + (↑(Fm.ranks (List.take x (Fm.l f))) : Int) + n) = (1 : Int) + (↑(Fm.ranks (List.take y (Fm.l f))) :
      Int) ∧ IntKind.wrap IntKind.i64 ((↑x : Int) + (1 : Int)) = (↑y : Int) ∧ True) ∧ (Fm.kind f = Fm.kind f ∧ Fm.name f = Fm.name f ∧ Fm.n f = Fm.n f ∧ List.map Tm.d (Fm.ts f) = List.map
      Tm.d (Fm.ts f) ∧ List.map Bd.d (Fm.bs f) = List.map Bd.d (Fm.bs f) ∧ List.map Fm.d (Fm.l f) = List.map Fm.d (Fm.l f) ∧ True) ∧ True) ∧ (decide ((↑x : Int) < (↑(List.length (List.map
      Fm.d (Fm.l f))) : Int)) = false → [D.int IntKind.i64 ((1 : Int) + (↑(Fm.ranks (List.take x (Fm.l f))) : Int))] = [D.int IntKind.i64 (↑(Fm.rank f) : Int)]))
    · kernel_rfl
    refine ⟨0, by omega, by simp [Fm.ranks], fun x hx => ⟨fun hlt => ?_, fun hge => ?_⟩⟩
    · simp only [List.length_map, decide_eq_true_eq] at hlt
      obtain ⟨z, hz, hm⟩ := get_nat (l := f.l) (x := x) (by omega)
      simp only [Int.toNat_natCast]
      rw [agg_fm hz]
      refine ⟨⟨by omega, by simp [hz]⟩, ?_⟩
      have hzr := Fm.rank_lt hm
      refine (ih z hm (by omega)).mono ?_
      rintro rs rfl
      have h1 := ranks_take_succ hz
      have h2 := ranks_take_le f.l (x + 1)
      have h3 := ranks_len f.l
      refine ⟨_, rfl, x + 1, by omega, by omega, ?_⟩
      rw [wrap64 (by omega) (by omega), wrap64 (by omega) (by omega)]
      simp only [true_and, and_true]
      refine ⟨?_, ?_⟩ <;> omega
    · simp only [List.length_map, decide_eq_false_iff_not] at hge
      have : x = f.l.length := by omega
      subst this
      rw [List.take_length, hr]
      simp

theorem fn18 (f : Fm) (hf : f.rank < 4611686018427387904) : PFn Tryd.prog G 56 [f.d] (· = [.int .i64 f.depth]) := by
  induction f using Fm.induct with
  | h f ih =>
  have hr := f.rank_eq
  have hd := f.depth_eq
  have hdl := f.depth_le
  rw [f.d_eq]
  refine PFn.walk (fn := Tryd.f56) (code := bodyOf Tryd.f56) mixed
    (LL [(3, loopW (α := Nat) Tryd.prog G L0 0 (loopN (bodyOf Tryd.f56) 0) [1] (fun x => x ≤ f.l.length) (fun x => f.l.length - x)
      (fun x => [(3, .d (.int .i64 (Fm.depths (f.l.take x) : Int))), (4, .d (.int .i64 x))]) (fun H _ => H))])
    Tryd.func56 (by kernel_rfl) ⟨_, rfl⟩ (LoopsOk.one (b1 := loopN (bodyOf Tryd.f56) 0) (by kernel_rfl) (by kernel_rfl) (loopW_sound mixed (ok0 (by kernel_rfl)))) ?_
  apply @of_vc _ (
    ∃ (x0 : Nat), x0 ≤ List.length (Fm.l f) ∧ ((AV.ptr (0 : Nat) (0 : Nat) = AV.ptr (0 : Nat) (0 : Nat) ∧ (0 : Int) = (↑(Fm.depths (List.take x0 (Fm.l f))) : Int) ∧ (0 : Int) = (↑x0 : Int) ∧
    True) ∧ (Fm.kind f = Fm.kind f ∧ Fm.name f = Fm.name f ∧ Fm.n f = Fm.n f ∧ List.map Tm.d (Fm.ts f) = List.map Tm.d (Fm.ts f) ∧ List.map Bd.d (Fm.bs f) = List.map Bd.d (Fm.bs f) ∧
    List.map Fm.d (Fm.l f) = List.map Fm.d (Fm.l f) ∧ True) ∧ True) ∧ ∀ (x : Nat), x ≤ List.length (Fm.l f) → (decide ((↑x : Int) < (↑(List.length (List.map Fm.d (Fm.l f))) : Int)) = true →
    ((0 : Int) ≤ (↑x : Int) ∧ (List.map Fm.d (Fm.l f))[Int.toNat (↑x : Int)]? = some (aggAt [Sh.int IntKind.i64, Sh.str, Sh.int IntKind.i64, Sh.sl, Sh.sl, Sh.sl] (List.map Fm.d (Fm.l f))
    (Int.toNat (↑x : Int)))) ∧ PFn Tryd.prog G (56 : Nat) [aggAt [Sh.int IntKind.i64, Sh.str, Sh.int IntKind.i64, Sh.sl, Sh.sl, Sh.sl] (List.map Fm.d (Fm.l f)) (Int.toNat (↑x : Int))] fun
    (rs : List D) => ∃ (n : Int), rs = [D.int IntKind.i64 n] ∧ ∃ (y : Nat), y ≤ List.length (Fm.l f) ∧ List.length (Fm.l f) - y < List.length (Fm.l f) - x ∧ (AV.ptr (0 : Nat) (0 : Nat) =
    AV.ptr (0 : Nat) (0 : Nat) ∧ (if n > (↑(Fm.depths (List.take x (Fm.l f))) : Int) then n else (↑(Fm.depths (List.take x (Fm.l f))) : Int)) = (↑(Fm.depths (List.take y (Fm.l f))) : Int) ∧
    IntKind.wrap IntKind.i64 ((↑x : Int) + (1 : Int)) = (↑y : Int) ∧ True) ∧ (Fm.kind f = Fm.kind f ∧ Fm.name f = Fm.name f ∧ Fm.n f = Fm.n f ∧ List.map Tm.d (Fm.ts f) = List.map Tm.d (Fm.ts
    f) ∧ List.map Bd.d (Fm.bs f) = List.map Bd.d (Fm.bs f) ∧ List.map Fm.d (Fm.l f) = List.map Fm.d (Fm.l f) ∧ True) ∧ True) ∧ (decide ((↑x : Int) < (↑(List.length (List.map Fm.d (Fm.l f)))
    : Int)) = false → [D.int IntKind.i64 (IntKind.wrap IntKind.i64 ((↑(Fm.depths (List.take x (Fm.l f))) : Int) + (1 : Int)))] = [D.int IntKind.i64 (↑(Fm.depth f) : Int)]))
  · kernel_rfl
  refine ⟨0, by omega, by simp [Fm.depths], fun x hx => ⟨fun hlt => ?_, fun hge => ?_⟩⟩
  · simp only [List.length_map, decide_eq_true_eq] at hlt
    obtain ⟨z, hz, hm⟩ := get_nat (l := f.l) (x := x) (by omega)
    simp only [Int.toNat_natCast]
    rw [agg_fm hz]
    refine ⟨⟨by omega, by simp [hz]⟩, ?_⟩
    have hzr := Fm.rank_lt hm
    refine (ih z hm (by omega)).mono ?_
    rintro rs rfl
    have h1 := depths_take_succ hz
    have h3 := ranks_len f.l
    refine ⟨_, rfl, x + 1, by omega, by omega, ?_⟩
    rw [wrap64 (by omega) (by omega)]
    simp only [true_and, and_true]
    refine ⟨?_, ?_⟩
    · rw [h1]; omega
    · omega
  · simp only [List.length_map, decide_eq_false_iff_not] at hge
    have : x = f.l.length := by omega
    subst this
    rw [List.take_length, wrap64 (by omega) (by omega), hd]
    simp

theorem fn17 (f : Fm) (hf : f.rank < 4611686018427387904) : PFn Tryd.prog G 48 [f.d] (· = [.int .i64 f.depth]) := by
  induction f using Fm.induct with
  | h f ih =>
  have hr := f.rank_eq
  have hd := f.depth_eq
  have hdl := f.depth_le
  rw [f.d_eq]
  refine PFn.walk (fn := Tryd.f48) (code := bodyOf Tryd.f48) mixed
    (LL [(3, loopW (α := Nat) Tryd.prog G L0 0 (loopN (bodyOf Tryd.f48) 0) [1, 7, 8] (fun x => x ≤ f.l.length) (fun x => f.l.length - x)
      (fun x => [(3, .d (.int .i64 (Fm.depths (f.l.take x) : Int))), (9, .d (.int .i64 x))]) (fun H _ => H))])
    Tryd.func48 (by kernel_rfl) ⟨_, rfl⟩ (LoopsOk.one (b1 := loopN (bodyOf Tryd.f48) 0) (by kernel_rfl) (by kernel_rfl) (loopW_sound mixed (ok0 (by kernel_rfl)))) ?_
  apply @of_vc _ (
    ∃ (x0 : Nat), x0 ≤ List.length (Fm.l f) ∧ ((AV.ptr (0 : Nat) (0 : Nat) = AV.ptr (0 : Nat) (0 : Nat) ∧ (0 : Int) = (↑(Fm.depths (List.take x0 (Fm.l f))) : Int) ∧ List.map Fm.d (Fm.l f) =
    List.map Fm.d (Fm.l f) ∧ (↑(List.length (List.map Fm.d (Fm.l f))) : Int) = (↑(List.length (List.map Fm.d (Fm.l f))) : Int) ∧ (0 : Int) = (↑x0 : Int) ∧ True) ∧ (Fm.kind f = Fm.kind f ∧
    Fm.name f = Fm.name f ∧ Fm.n f = Fm.n f ∧ List.map Tm.d (Fm.ts f) = List.map Tm.d (Fm.ts f) ∧ List.map Bd.d (Fm.bs f) = List.map Bd.d (Fm.bs f) ∧ List.map Fm.d (Fm.l f) = List.map Fm.d
    (Fm.l f) ∧ True) ∧ True) ∧ ∀ (x : Nat), x ≤ List.length (Fm.l f) → (decide ((↑x : Int) < (↑(List.length (List.map Fm.d (Fm.l f))) : Int)) = true → ((0 : Int) ≤ (↑x : Int) ∧ (List.map
    Fm.d (Fm.l f))[Int.toNat (↑x : Int)]? = some (aggAt [Sh.int IntKind.i64, Sh.str, Sh.int IntKind.i64, Sh.sl, Sh.sl, Sh.sl] (List.map Fm.d (Fm.l f)) (Int.toNat (↑x : Int)))) ∧ PFn
    Tryd.prog G (48 : Nat) [aggAt [Sh.int IntKind.i64, Sh.str, Sh.int IntKind.i64, Sh.sl, Sh.sl, Sh.sl] (List.map Fm.d (Fm.l f)) (Int.toNat (↑x : Int))] fun (rs : List D) => ∃ (n : Int), rs
    = [D.int IntKind.i64 n] ∧ ∃ (y : Nat), y ≤ List.length (Fm.l f) ∧ List.length (Fm.l f) - y < List.length (Fm.l f) - x ∧ (AV.ptr (0 : Nat) (0 : Nat) = AV.ptr (0 : Nat) (0 : Nat) ∧ (if n >
    (↑(Fm.depths (List.take x (Fm.l f))) : Int) then n else (↑(Fm.depths (List.take x (Fm.l f))) : Int)) = (↑(Fm.depths (List.take y (Fm.l f))) : Int) ∧ List.map Fm.d (Fm.l f) = List.map
    Fm.d (Fm.l f) ∧ (↑(List.length (List.map Fm.d (Fm.l f))) : Int) = (↑(List.length (List.map Fm.d (Fm.l f))) : Int) ∧ IntKind.wrap IntKind.i64 ((↑x : Int) + (1 : Int)) = (↑y : Int) ∧ True)
    ∧ (Fm.kind f = Fm.kind f ∧ Fm.name f = Fm.name f ∧ Fm.n f = Fm.n f ∧ List.map Tm.d (Fm.ts f) = List.map Tm.d (Fm.ts f) ∧ List.map Bd.d (Fm.bs f) = List.map Bd.d (Fm.bs f) ∧ List.map Fm.d
    (Fm.l f) = List.map Fm.d (Fm.l f) ∧ True) ∧ True) ∧ (decide ((↑x : Int) < (↑(List.length (List.map Fm.d (Fm.l f))) : Int)) = false → [D.int IntKind.i64 (IntKind.wrap IntKind.i64
    ((↑(Fm.depths (List.take x (Fm.l f))) : Int) + (1 : Int)))] = [D.int IntKind.i64 (↑(Fm.depth f) : Int)]))
  · kernel_rfl
  refine ⟨0, by omega, by simp [Fm.depths], fun x hx => ⟨fun hlt => ?_, fun hge => ?_⟩⟩
  · simp only [List.length_map, decide_eq_true_eq] at hlt
    obtain ⟨z, hz, hm⟩ := get_nat (l := f.l) (x := x) (by omega)
    simp only [Int.toNat_natCast]
    rw [agg_fm hz]
    refine ⟨⟨by omega, by simp [hz]⟩, ?_⟩
    have hzr := Fm.rank_lt hm
    refine (ih z hm (by omega)).mono ?_
    rintro rs rfl
    have h1 := depths_take_succ hz
    have h3 := ranks_len f.l
    refine ⟨_, rfl, x + 1, by omega, by omega, ?_⟩
    rw [wrap64 (by omega) (by omega)]
    simp only [true_and, and_true]
    refine ⟨?_, ?_⟩
    · rw [h1]; omega
    · omega
  · simp only [List.length_map, decide_eq_false_iff_not] at hge
    have : x = f.l.length := by omega
    subst this
    rw [List.take_length, wrap64 (by omega) (by omega), hd]
    simp
end
end Go.Fo
/- Weights; lists of strings; equality. -/
namespace Go.Fo
open Go Go.Sx Go.Proofs
set_option maxRecDepth 100000

def sumT (ts : List Tm) : Nat := (ts.map fun t => t.name.length).sum
def sumB (bs : List Bd) : Nat := (bs.map fun b => b.name.length).sum
mutual
def Fm.wt : Fm → Nat
  | .mk _ s _ ts bs l => 1 + s.length + ts.length + bs.length + sumT ts + sumB bs + Fm.wts l
def Fm.wts : List Fm → Nat
  | [] => 0
  | x :: r => x.wt + Fm.wts r
end
theorem Fm.wt_eq (f : Fm) : f.wt = 1 + f.name.length + f.ts.length + f.bs.length + sumT f.ts + sumB f.bs + Fm.wts f.l := by cases f; rfl
theorem wts_mem {l : List Fm} {x : Fm} (h : x ∈ l) : x.wt ≤ Fm.wts l := by
  induction l with
  | nil => cases h
  | cons y r ih =>
    simp only [Fm.wts]
    rcases List.mem_cons.1 h with rfl | h
    · omega
    · have := ih h; omega
theorem Fm.wt_lt {f x : Fm} (h : x ∈ f.l) : x.wt < f.wt := by have := wts_mem h; have := f.wt_eq; omega
theorem Fm.rank_le_wt (f : Fm) : f.rank ≤ f.wt := by
  induction f using Fm.induct with
  | h f ih =>
    rw [f.rank_eq, f.wt_eq]
    have : ∀ l : List Fm, (∀ x ∈ l, x.rank ≤ x.wt) → Fm.ranks l ≤ Fm.wts l := by
      intro l
      induction l with
      | nil => simp [Fm.ranks]
      | cons y r ih2 =>
        intro h
        simp only [Fm.ranks, Fm.wts]
        have h1 := h y (by simp)
        have h2 := ih2 fun x hx => h x (by simp [hx])
        omega
    have := this f.l ih
    omega
theorem wts_len (l : List Fm) : l.length ≤ Fm.wts l := by
  induction l with
  | nil => simp [Fm.wts]
  | cons y r ih =>
    have := y.wt_eq
    simp only [Fm.wts, List.length_cons]; omega

mutual
def Fm.beq : Fm → Fm → Bool
  | .mk k s n ts bs l, .mk k' s' n' ts' bs' l' => k == k' && s == s' && n == n' && ts == ts' && bs == bs' && Fm.beqs l l'
def Fm.beqs : List Fm → List Fm → Bool
  | [], [] => true
  | x :: r, y :: q => x.beq y && Fm.beqs r q
  | _, _ => false
end
theorem Fm.beq_eq (a b : Fm) : a.beq b = (a.kind == b.kind && a.name == b.name && a.n == b.n && a.ts == b.ts && a.bs == b.bs && Fm.beqs a.l b.l) := by
  cases a; cases b; rw [Fm.beq]; rfl

theorem cell_str {ss : List (List UInt8)} {s : List UInt8} {i : Nat} (h : ss[i]? = some s) : cellAt (ss.map D.str) i 0 = some (.str s) := by simp [cellAt, h, D.cells]

section
variable {G : Nat → Option (List D)}

theorem fn55 (ss : List (List UInt8)) (s : List UInt8) (hl : ss.length < 4611686018427387904) : PFn Tryd.prog G 77 [.sl (ss.map D.str), .str s] (fun rs => ∃ r : Int, rs = [.int .i64 r] ∧ decide (r ≥ 0) = ss.contains s) := by
  refine PFn.walk (fn := Tryd.f77) (code := bodyOf Tryd.f77) mixed
    (LL [(2, loopW (α := Nat) Tryd.prog G L0 0 (loopN (bodyOf Tryd.f77) 0) [0, 1, 7] (fun x => x ≤ ss.length ∧ s ∉ ss.take x) (fun x => ss.length - x)
      (fun x => [(8, .d (.int .i64 x))]) (fun H _ => H))])
    Tryd.func77 (by kernel_rfl) ⟨_, if ss.contains s then 0 else -1, rfl, by cases ss.contains s <;> simp⟩ (LoopsOk.one (b1 := loopN (bodyOf Tryd.f77) 0) (by kernel_rfl) (by kernel_rfl) (loopW_sound mixed (ok0 (by kernel_rfl)))) ?_
  apply @of_vc _ (
    ∃ (x0 : Nat), (x0 ≤ List.length ss ∧ ¬s ∈ List.take x0 ss) ∧ ((List.map D.str ss = List.map D.str ss ∧ s = s ∧ (↑(List.length (List.map D.str ss)) : Int) = (↑(List.length (List.map D.str
    ss)) : Int) ∧ (0 : Int) = (↑x0 : Int) ∧ True) ∧ True) ∧ ∀ (x : Nat), x ≤ List.length ss ∧ ¬s ∈ List.take x ss → (decide ((↑x : Int) < (↑(List.length (List.map D.str ss)) : Int)) = true →
    ((0 : Int) ≤ (↑x : Int) ∧ (List.map D.str ss)[Int.toNat (↑x : Int)]? = some (D.str (D.toStr (Option.getD (cellAt (List.map D.str ss) (Int.toNat (↑x : Int)) (0 : Nat)) default)))) ∧ ((s
    == D.toStr (Option.getD (cellAt (List.map D.str ss) (Int.toNat (↑x : Int)) (0 : Nat)) default)) = true → ∃ (r : Int), [D.int IntKind.i64 (↑x : Int)] = [D.int IntKind.i64 r] ∧ decide (r ≥
    (0 : Int)) = List.contains ss s) ∧ ((s == D.toStr (Option.getD (cellAt (List.map D.str ss) (Int.toNat (↑x : Int)) (0 : Nat)) default)) = false → ∃ (y : Nat), (y ≤ List.length ss ∧ ¬s ∈
    List.take y ss) ∧ List.length ss - y < List.length ss - x ∧ (List.map D.str ss = List.map D.str ss ∧ s = s ∧ (↑(List.length (List.map D.str ss)) : Int) = (↑(List.length (List.map D.str
    ss)) : Int) ∧ IntKind.wrap IntKind.i64 ((↑x : Int) + (1 : Int)) = (↑y : Int) ∧ True) ∧ True)) ∧ (decide ((↑x : Int) < (↑(List.length (List.map D.str ss)) : Int)) = false → ∃ (r : Int),
    [D.int IntKind.i64 (-1 : Int)] = [D.int IntKind.i64 r] ∧ decide (r ≥ (0 : Int)) = List.contains ss s))
  · kernel_rfl
  refine ⟨0, by simp, by simp, fun x hx => ⟨fun hlt => ?_, fun hge => ?_⟩⟩
  · simp only [List.length_map, decide_eq_true_eq] at hlt
    obtain ⟨z, hz, hm⟩ := get_nat (l := ss) (x := x) (by omega)
    simp only [Int.toNat_natCast]
    rw [cell_str hz]
    refine ⟨⟨by omega, by simp [hz, D.toStr]⟩, fun h => ?_, fun h => ?_⟩
    · simp only [Option.getD_some, D.toStr, beq_iff_eq] at h
      subst h
      exact ⟨_, rfl, by simp [hm]⟩
    · simp only [Option.getD_some, D.toStr, beq_eq_false_iff_ne, ne_eq] at h
      refine ⟨x + 1, ⟨by omega, ?_⟩, by omega, ?_⟩
      · rw [List.take_add_one, hz]
        simp only [Option.toList_some, List.mem_append, List.mem_singleton, not_or]
        exact ⟨hx.2, fun e => h e⟩
      · rw [wrap64 (by omega) (by omega)]
        simp
  · simp only [List.length_map, decide_eq_false_iff_not] at hge
    have : x = ss.length := by omega
    subst this
    have := hx.2
    rw [List.take_length] at this
    exact ⟨_, rfl, by simp [this]⟩

theorem fn34 (ss : List (List UInt8)) (s : List UInt8) (hl : ss.length < 4611686018427387904) : PFn Tryd.prog G 50 [.sl (ss.map D.str), .str s] (· = [.bool (ss.contains s)]) := by
  refine PFn.walk (fn := Tryd.f50) (code := bodyOf Tryd.f50) mixed L0 Tryd.func50 (by kernel_rfl) ⟨_, rfl⟩ (ok0 (by kernel_rfl)) ?_
  apply @of_vc _ (
    PFn Tryd.prog G (77 : Nat) [D.sl (List.map D.str ss), D.str s] fun (rs : List D) => ∃ (n : Int), rs = [D.int IntKind.i64 n] ∧ [D.bool (decide (n ≥ (0 : Int)))] = [D.bool (List.contains
    ss s)])
  · kernel_rfl
  refine (fn55 ss s hl).mono ?_
  rintro rs ⟨r, rfl, hr⟩
  exact ⟨_, rfl, by rw [← hr]⟩

theorem take_next {α : Type} {a b : List α} {i : Nat} {y : α} (h : a.take i = b.take i) (ha : a[i]? = some y) (hb : b[i]? = some y) : a.take (i + 1) = b.take (i + 1) := by
  rw [List.take_add_one, List.take_add_one, h, ha, hb]
theorem beqs_take {a b : List Fm} {i : Nat} {y z : Fm} (ha : a[i]? = some y) (hb : b[i]? = some z) : Fm.beqs (a.take (i + 1)) (b.take (i + 1)) = (Fm.beqs (a.take i) (b.take i) && y.beq z) := by
  induction a generalizing b i with
  | nil => simp at ha
  | cons u r ih =>
    cases b with
    | nil => simp at hb
    | cons v q =>
      cases i with
      | zero => simp at ha hb; subst ha; subst hb; simp [Fm.beqs]
      | succ i => simp at ha hb; simp only [List.take_succ_cons, Fm.beqs]; rw [ih ha hb, Bool.and_assoc]
theorem beqs_ne {a b : List Fm} {i : Nat} {y z : Fm} (ha : a[i]? = some y) (hb : b[i]? = some z) (h : y.beq z = false) : Fm.beqs a b = false := by
  induction a generalizing b i with
  | nil => simp at ha
  | cons u r ih =>
    cases b with
    | nil => simp at hb
    | cons v q =>
      cases i with
      | zero => simp at ha hb; subst ha; subst hb; simp [Fm.beqs, h]
      | succ i => simp at ha hb; simp only [Fm.beqs]; rw [ih ha hb, Bool.and_false]
theorem beqs_len {a b : List Fm} (h : a.length ≠ b.length) : Fm.beqs a b = false := by
  induction a generalizing b with
  | nil => cases b with
    | nil => simp at h
    | cons v q => rw [Fm.beqs]; · simp
                  · simp
  | cons u r ih => cases b with
    | nil => rw [Fm.beqs]; · simp
             · simp
    | cons v q => simp only [List.length_cons, ne_eq, Nat.add_right_cancel_iff] at h; simp only [Fm.beqs]; rw [ih h, Bool.and_false]

theorem tm_ne {a b : Tm} : (a.kind == b.kind && (a.name == b.name && a.n == b.n)) = (a == b) := by
  cases a; cases b
  rw [Bool.eq_iff_iff]
  simp
theorem bd_ne {a b : Bd} : (a.name == b.name && a.sort == b.sort) = (a == b) := by
  cases a; cases b
  rw [Bool.eq_iff_iff]
  simp

end
end Go.Fo
/- Same. -/
namespace Go.Fo
open Go Go.Sx Go.Proofs
set_option maxRecDepth 100000
theorem beq_parts {a b : Fm} : a.beq b = true ↔ a.kind = b.kind ∧ a.name = b.name ∧ a.n = b.n ∧ a.ts = b.ts ∧ a.bs = b.bs ∧ Fm.beqs a.l b.l = true := by
  rw [Fm.beq_eq]; simp [and_assoc]
theorem beqs_len' {a b : List Fm} (h : Fm.beqs a b = true) : a.length = b.length := by
  rcases Classical.em (a.length = b.length) with h1 | h1
  · exact h1
  · rw [beqs_len h1] at h; cases h
theorem beq_false {a b : Fm} (h : ¬ (a.kind = b.kind ∧ a.name = b.name ∧ a.n = b.n ∧ a.ts = b.ts ∧ a.bs = b.bs ∧ Fm.beqs a.l b.l = true)) : a.beq b = false := by
  cases hb : a.beq b with
  | false => rfl
  | true => exact absurd (beq_parts.1 hb) h
section
variable {G : Nat → Option (List D)}

end
end Go.Fo
/- Weigh and Few. -/
namespace Go.Fo
open Go Go.Sx Go.Proofs
set_option maxRecDepth 100000

theorem sumT_take {l : List Tm} {i : Nat} {z : Tm} (h : l[i]? = some z) : sumT (l.take (i + 1)) = sumT (l.take i) + z.name.length := by
  unfold sumT
  rw [List.take_add_one, h]
  simp
theorem sumB_take {l : List Bd} {i : Nat} {z : Bd} (h : l[i]? = some z) : sumB (l.take (i + 1)) = sumB (l.take i) + z.name.length := by
  unfold sumB
  rw [List.take_add_one, h]
  simp
theorem sumT_le (l : List Tm) (i : Nat) : sumT (l.take i) ≤ sumT l := by
  have : sumT l = sumT (l.take i) + sumT (l.drop i) := by
    unfold sumT; rw [← List.sum_append, ← List.map_append, List.take_append_drop]
  omega
theorem sumB_le (l : List Bd) (i : Nat) : sumB (l.take i) ≤ sumB l := by
  have : sumB l = sumB (l.take i) + sumB (l.drop i) := by
    unfold sumB; rw [← List.sum_append, ← List.map_append, List.take_append_drop]
  omega
theorem wts_take {l : List Fm} {i : Nat} {z : Fm} (h : l[i]? = some z) : Fm.wts (l.take (i + 1)) = Fm.wts (l.take i) + z.wt := by
  induction l generalizing i with
  | nil => simp at h
  | cons y r ih =>
    cases i with
    | zero => simp at h; subst h; simp [Fm.wts]
    | succ i => simp at h; simp only [List.take_succ_cons, Fm.wts]; rw [ih h]; omega
theorem wts_le (l : List Fm) (i : Nat) : Fm.wts (l.take i) ≤ Fm.wts l := by
  induction l generalizing i with
  | nil => simp
  | cons y r ih =>
    cases i with
    | zero => simp [Fm.wts]
    | succ i => simp only [List.take_succ_cons, Fm.wts]; have := ih i; omega

def Upb (b : Int) (n B : Nat) : Prop := n ≤ B ∧ ((n : Int) ≤ b → n = B)

section
variable {G : Nat → Option (List D)}

end
end Go.Fo
