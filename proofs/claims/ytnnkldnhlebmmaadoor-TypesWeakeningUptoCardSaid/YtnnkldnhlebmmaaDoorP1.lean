/- Joined texts: the walk by computed conditions, the contracts of the functions, the plain laws. -/
import Derived.Calls
import Derived.OrdersIn
import Derived.KernelRfl
import Derived.Laws.Sem
import Derived.Laws.Cells
import Derived.Laws.CopyRow
import Derived.Laws.Strings
import Derived.Laws.StructEq
import Derived.Laws.Cover3
import Derived.Laws.AppendOwn
set_option linter.unusedVariables false
set_option linter.unusedSimpArgs false
/- Abstract data, abstract values, abstract boxes, and how the machine's values and blocks stand for them. -/
namespace Go.Sx
open Go

/-- Plain data: what a value reads as. 'agg' is flat: its parts are of one cell each. -/
inductive D where
  | int (k : IntKind) (n : Int)
  | bool (b : Bool)
  | str (s : List UInt8)
  | sl (ds : List D)
  | agg (cs : List D)
  | fn (f : Nat)
  | gmap (es : List (D × D))

instance : Inhabited D := ⟨.bool false⟩

def D.cells : D → List D
  | .agg cs => cs
  | d => [d]

def cellAt (ds : List D) (i j : Nat) : Option D := (ds[i]?).bind fun d => d.cells[j]?

/-- A value of one cell reads as a datum: every cell that is read on the way lies in 'I', every map in 'J'. -/
inductive R1 (I : Nat → Nat → Prop) (J : Nat → Prop) (w : World) : Value → D → Prop
  | int (k : IntKind) (n : Int) : R1 I J w (.int k n) (.int k n)
  | bool (b : Bool) : R1 I J w (.bool b) (.bool b)
  | str (s : List UInt8) : R1 I J w (.string ⟨s.toArray⟩) (.str s)
  | fn (f : Nat) : R1 I J w (.func (.func f) #[] #[]) (.fn f)
  | nil : R1 I J w (.slice none 0 0) (.sl [])
  | emp (a : Addr) (cap : Nat) : R1 I J w (.slice (some a) 0 cap) (.sl [])
  | sl (b off cap sz : Nat) (ds : List D) (vals : Nat → Nat → Value)
      (hsz : ∀ d ∈ ds, d.cells.length = sz)
      (hc : ∀ i j d, cellAt ds i j = some d → I b (off + i * sz + j) ∧ w.cell? ⟨b, off + i * sz + j, none⟩ = some (vals i j))
      (hr : ∀ i j d, cellAt ds i j = some d → R1 I J w (vals i j) d)
      (hcap : ds.length ≤ cap) : R1 I J w (.slice (some ⟨b, off, none⟩) ds.length cap) (.sl ds)
  | gmap (r : Nat) (ents : Array MapEntry) (clk : Nat) (es : List (D × D)) (hJ : J r) (hw : w.heap[r]? = some (.map ents clk))
      (hlen : ents.size = es.length)
      (hk : ∀ (i : Nat) kv, es[i]? = some kv → R1 I J w (ents.getD i default).key kv.1)
      (hv : ∀ (i : Nat) kv, es[i]? = some kv → R1 I J w (ents.getD i default).val kv.2) : R1 I J w (.map (some r)) (.gmap es)

/-- Two lists, place by place. -/
def All2 {α β : Type} (R : α → β → Prop) (xs : List α) (ys : List β) : Prop :=
  xs.length = ys.length ∧ ∀ (i : Nat) x y, xs[i]? = some x → ys[i]? = some y → R x y

theorem All2.nil {α β : Type} {R : α → β → Prop} : All2 R [] [] := ⟨rfl, by simp⟩
theorem All2.cons {α β : Type} {R : α → β → Prop} {x : α} {y : β} {xs : List α} {ys : List β} (h : R x y) (hs : All2 R xs ys) : All2 R (x :: xs) (y :: ys) := by
  refine ⟨by simp [hs.1], fun i a b ha hb => ?_⟩
  cases i with
  | zero => simp at ha hb; subst ha; subst hb; exact h
  | succ i => simp at ha hb; exact hs.2 i a b ha hb
theorem All2.nil_right {α β : Type} {R : α → β → Prop} {xs : List α} (h : All2 R xs []) : xs = [] := by
  have := h.1; simpa using this
theorem All2.cons_right {α β : Type} {R : α → β → Prop} {y : β} {xs : List α} {ys : List β} (h : All2 R xs (y :: ys)) :
    ∃ x xs', xs = x :: xs' ∧ R x y ∧ All2 R xs' ys := by
  cases xs with
  | nil => have := h.1; simp at this
  | cons x xs =>
    refine ⟨x, xs, rfl, h.2 0 x y rfl rfl, by have := h.1; simpa using this, fun i a b ha hb => h.2 (i + 1) a b (by simpa using ha) (by simpa using hb)⟩
theorem All2.mono {α β : Type} {R R' : α → β → Prop} {xs : List α} {ys : List β} (h : All2 R xs ys) (hr : ∀ x y, R x y → R' x y) : All2 R' xs ys :=
  ⟨h.1, fun i x y hx hy => hr _ _ (h.2 i x y hx hy)⟩
theorem All2.append {α β : Type} {R : α → β → Prop} {xs xs' : List α} {ys ys' : List β} (h : All2 R xs ys) (h' : All2 R xs' ys') : All2 R (xs ++ xs') (ys ++ ys') := by
  refine ⟨by simp [h.1, h'.1], fun i a b ha hb => ?_⟩
  rw [List.getElem?_append] at ha hb
  rw [h.1] at ha
  split at ha
  · rename_i hlt; rw [if_pos hlt] at hb; exact h.2 i a b ha hb
  · rename_i hlt; rw [if_neg hlt] at hb; exact h'.2 _ a b ha hb
theorem All2.set {α β : Type} {R : α → β → Prop} {xs : List α} {ys : List β} (h : All2 R xs ys) (i : Nat) {x : α} {y : β} (hr : R x y) : All2 R (xs.set i x) (ys.set i y) := by
  refine ⟨by simp [h.1], fun j a b ha hb => ?_⟩
  rw [List.getElem?_set] at ha hb
  rw [h.1] at ha
  split at ha
  · rename_i e; subst e; simp only [if_true] at hb
    split at ha
    · rename_i hlt; simp only [hlt, if_true] at hb; simp at ha hb; subst ha; subst hb; exact hr
    · simp at ha
  · rename_i e; rw [if_neg e] at hb; exact h.2 j a b ha hb
theorem All2.get {α β : Type} {R : α → β → Prop} {xs : List α} {ys : List β} (h : All2 R xs ys) {i : Nat} {y : β} (hy : ys[i]? = some y) : ∃ x, xs[i]? = some x ∧ R x y := by
  have hlt : i < ys.length := by rcases Nat.lt_or_ge i ys.length with h | h; exact h; simp [List.getElem?_eq_none h] at hy
  have hx : i < xs.length := by rw [h.1]; exact hlt
  exact ⟨xs[i], by simp [hx], h.2 i _ y (by simp [hx]) hy⟩
theorem All2.drop {α β : Type} {R : α → β → Prop} {xs : List α} {ys : List β} (h : All2 R xs ys) (n : Nat) : All2 R (xs.drop n) (ys.drop n) :=
  ⟨by simp [h.1], fun i a b ha hb => h.2 (n + i) a b (by simpa using ha) (by simpa using hb)⟩
theorem All2.take {α β : Type} {R : α → β → Prop} {xs : List α} {ys : List β} (h : All2 R xs ys) (n : Nat) : All2 R (xs.take n) (ys.take n) := by
  refine ⟨by simp [h.1], fun i a b ha hb => ?_⟩
  rw [List.getElem?_take] at ha hb
  split at ha
  · rename_i hlt; rw [if_pos hlt] at hb; exact h.2 i a b ha hb
  · simp at ha

/-- A value, whatever its size, reads as a datum. -/
def RV (I : Nat → Nat → Prop) (J : Nat → Prop) (w : World) (v : Value) (x : D) : Prop :=
  match x with
  | .agg cs => ∃ vs : List Value, v = .agg vs.toArray ∧ All2 (R1 I J w) vs cs
  | x => R1 I J w v x

theorem RV.cells {I J w v x} (h : RV I J w v x) : All2 (R1 I J w) v.cells.toList x.cells := by
  cases x <;> simp only [RV] at h <;> first
    | (obtain ⟨vs, rfl, hv⟩ := h; simpa [Value.cells, D.cells] using hv)
    | exact (by have h' := h; cases h <;> exact All2.cons h' All2.nil)

/-- Abstract values. -/
inductive AV where
  | d (x : D)
  | ptr (l o : Nat)
  | iptr (cs : List D)
  | clo (f : Nat) (first cap : List AV)
  | full (ds : List D)
  | vec (l : Nat) (ds : List D)
  | map (l : Nat)
  | tup (vs : List AV)
  | agg (cs : List AV)
  | any
  | opt (g : Nat) (pol : Bool) (x : AV)
  | yld (l : Nat)
  | nils

instance : Inhabited AV := ⟨.any⟩

/-- Abstract boxes: what the walk may write. -/
inductive Box where
  | cells (T : TypeId) (cs : List AV)
  | map (es : List (D × D))
  | vec (n sz : Nat)
  | dead
  | loop (tm : List AV) (ps : List Nat) (asn bd : Code) (pend : Option Code) (st : LoopState)

/-- Where the boxes lie (block, and for a growing slice its capacity), which cells and maps nobody writes any more. -/
structure Cx where
  ρ : List (Option (Nat × Nat))
  I : Nat → Nat → Prop
  J : Nat → Prop

/-- An abstract value stands for a value. -/
inductive RA (c : Cx) (H : List Box) (w : World) : AV → Value → Prop
  | d {x : D} {v : Value} (h : RV c.I c.J w v x) : RA c H w (.d x) v
  | ptr {l o b k : Nat} {T : TypeId} {cs : List AV} (hH : H[l]? = some (.cells T cs)) (h : c.ρ[l]? = some (some (b, k))) : RA c H w (.ptr l o) (.pointer (some ⟨b, o, none⟩))
  | iptr {cs : List D} {b o : Nat} (h : ∀ (j : Nat) x, cs[j]? = some x → c.I b (o + j) ∧ ∃ v, w.cell? ⟨b, o + j, none⟩ = some v ∧ R1 c.I c.J w v x) :
      RA c H w (.iptr cs) (.pointer (some ⟨b, o, none⟩))
  | clo {f : Nat} {fi ca : List AV} {fv cv : List Value} (hf : fi.length = fv.length) (hc : ca.length = cv.length)
      (h1 : ∀ (i : Nat) a v, fi[i]? = some a → fv[i]? = some v → RA c H w a v) (h2 : ∀ (i : Nat) a v, ca[i]? = some a → cv[i]? = some v → RA c H w a v) :
      RA c H w (.clo f fi ca) (.func (.func f) fv.toArray cv.toArray)
  | full {ds : List D} {a : Option Addr} {n : Nat} (h : R1 c.I c.J w (.slice a n n) (.sl ds)) : RA c H w (.full ds) (.slice a n n)
  | vec {l n sz : Nat} {ds : List D} {a : Option Addr} {m k : Nat} (h : R1 c.I c.J w (.slice a m k) (.sl ds)) (hH : H[l]? = some (.vec n sz)) (hn : ds.length ≤ n)
      (he : ds.length = n → k = m ∨ ∃ b, a = some ⟨b, 0, none⟩ ∧ c.ρ[l]? = some (some (b, k))) : RA c H w (.vec l ds) (.slice a m k)
  | map {l b k : Nat} {es : List (D × D)} (hH : H[l]? = some (.map es)) (h : c.ρ[l]? = some (some (b, k))) : RA c H w (.map l) (.map (some b))
  | tup {aas : List AV} {vs : List Value} (hl : aas.length = vs.length) (h : ∀ (i : Nat) a v, aas[i]? = some a → vs[i]? = some v → RA c H w a v) :
      RA c H w (.tup aas) (.tuple vs.toArray)
  | agg {aas : List AV} {vs : List Value} (hl : aas.length = vs.length) (h : ∀ (i : Nat) a v, aas[i]? = some a → vs[i]? = some v → RA c H w a v) :
      RA c H w (.agg aas) (.agg vs.toArray)
  | any (v : Value) : RA c H w .any v
  | opt (g : Nat) (pol : Bool) (x : AV) (v : Value) : RA c H w (.opt g pol x) v
  | yld {l b k : Nat} {tm : List AV} {ps : List Nat} {asn bd : Code} {pend : Option Code} {st : LoopState} (hH : H[l]? = some (.loop tm ps asn bd pend st)) (h : c.ρ[l]? = some (some (b, k))) : RA c H w (.yld l) (.func (.yield b) #[] #[])
  | nils : RA c H w .nils (.slice none 0 0)

/-- A box stands for a block. -/
def BoxR (c : Cx) (H : List Box) (w : World) (b k : Nat) : Box → Prop
  | .cells T cs => ∃ vs : List Value, w.heap[b]? = some (.cells vs.toArray T (0, 0)) ∧ All2 (fun v a => RA c H w a v) vs cs
  | .map es => ∃ ents clk, w.heap[b]? = some (.map ents clk) ∧ All2 (fun (e : MapEntry) (kv : D × D) => R1 c.I c.J w e.key kv.1 ∧ RV c.I c.J w e.val kv.2) ents.toList es
  | .vec n sz => ∃ vs T, w.heap[b]? = some (.cells vs T (0, 0)) ∧ vs.size = k * sz ∧ n ≤ k
  | .dead => True
  | .loop tm ps asn bd pend st => ∃ r : Loop, w.heap[b]? = some (.loop r) ∧ r.params.toList = ps ∧ r.assign = asn ∧ r.body = bd ∧ r.pending = pend ∧ r.state = st ∧ All2 (fun v a => RA c H w a v) r.tmps.toList tm

/-- The boxes lie where the context says, apart from each other and from all that is read. -/
structure HR (c : Cx) (H : List Box) (w : World) : Prop where
  len : c.ρ.length = H.length
  inj : ∀ l l' b k k' : Nat, c.ρ[l]? = some (some (b, k)) → c.ρ[l']? = some (some (b, k')) → l = l'
  box : ∀ (l b k : Nat) x, c.ρ[l]? = some (some (b, k)) → H[l]? = some x → BoxR c H w b k x
  non : ∀ (l : Nat) x, c.ρ[l]? = some none → H[l]? = some x → (∃ n sz, x = .vec n sz) ∨ x = .dead
  lt : ∀ l b k : Nat, c.ρ[l]? = some (some (b, k)) → b < w.heap.size
  ilt : ∀ b o, c.I b o → b < w.heap.size
  jlt : ∀ r, c.J r → r < w.heap.size
  iap : ∀ b o l k : Nat, c.I b o → c.ρ[l]? = some (some (b, k)) → ∃ n sz, H[l]? = some (.vec n sz) ∧ o < n * sz
  jap : ∀ r l k : Nat, c.J r → c.ρ[l]? ≠ some (some (r, k))

/-- From one moment to a later one. -/
structure Ext (c : Cx) (w : World) (c' : Cx) (w' : World) : Prop where
  os : w'.os = w.os
  tape : w'.tape = w.tape
  output : w'.output = w.output
  isub : ∀ b o, c.I b o → c'.I b o
  jsub : ∀ r, c.J r → c'.J r
  icell : ∀ b o, c.I b o → w'.cell? ⟨b, o, none⟩ = w.cell? ⟨b, o, none⟩
  jobj : ∀ r, c.J r → w'.heap[r]? = w.heap[r]?
  size : w.heap.size ≤ w'.heap.size
  frame : ∀ b, b < w.heap.size → (∀ l k : Nat, c.ρ[l]? ≠ some (some (b, k))) → w'.heap[b]? = w.heap[b]?
  inew : ∀ b o : Nat, c'.I b o → c.I b o ∨ w.heap.size ≤ b ∨ ∃ l k : Nat, c.ρ[l]? = some (some (b, k))
  jnew : ∀ r : Nat, c'.J r → c.J r ∨ w.heap.size ≤ r
  fresh : ∀ l b k : Nat, c'.ρ[l]? = some (some (b, k)) → (∃ l' k' : Nat, c.ρ[l']? = some (some (b, k'))) ∨ w.heap.size ≤ b

theorem Ext.refl (c : Cx) (w : World) : Ext c w c w :=
  ⟨rfl, rfl, rfl, fun _ _ h => h, fun _ h => h, fun _ _ _ => rfl, fun _ _ => rfl, Nat.le_refl _, fun _ _ _ => rfl, fun _ _ h => .inl h, fun _ h => .inl h, fun l _ k h => .inl ⟨l, k, h⟩⟩

theorem Ext.trans {c w c' w' c'' w''} (h : Ext c w c' w') (h' : Ext c' w' c'' w'') : Ext c w c'' w'' where
  os := h'.os.trans h.os
  tape := h'.tape.trans h.tape
  output := h'.output.trans h.output
  isub b o x := h'.isub b o (h.isub b o x)
  jsub r x := h'.jsub r (h.jsub r x)
  icell b o x := by rw [h'.icell b o (h.isub b o x), h.icell b o x]
  jobj r x := by rw [h'.jobj r (h.jsub r x), h.jobj r x]
  size := Nat.le_trans h.size h'.size
  frame b hb hn := by
    rw [h'.frame b (Nat.lt_of_lt_of_le hb h.size) (fun l k hl => ?_), h.frame b hb hn]
    rcases h.fresh l b k hl with ⟨l', k', hl'⟩ | hge
    · exact hn l' k' hl'
    · omega
  inew b o hi := by
    rcases h'.inew b o hi with h1 | h1 | ⟨l, k, h1⟩
    · exact h.inew b o h1
    · exact .inr (.inl (Nat.le_trans h.size h1))
    · rcases h.fresh l b k h1 with ⟨l', k', h2⟩ | h2
      · exact .inr (.inr ⟨l', k', h2⟩)
      · exact .inr (.inl h2)
  jnew r hr := by
    rcases h'.jnew r hr with h1 | h1
    · exact h.jnew r h1
    · exact .inr (Nat.le_trans h.size h1)
  fresh l b k hl := by
    rcases h'.fresh l b k hl with ⟨l', k', hl'⟩ | hge
    · exact h.fresh l' b k' hl'
    · exact .inr (Nat.le_trans h.size hge)

/-- How the boxes of one frame go on: the kinds stay; a growing slice grows, and lies where it lay if it has not. -/
def Keep (c : Cx) (H : List Box) (c' : Cx) (H' : List Box) : Prop :=
  ∀ (l : Nat) x, H[l]? = some x → match x with
    | .vec n sz => ∃ n', H'[l]? = some (.vec n' sz) ∧ n ≤ n' ∧ (n = n' → c'.ρ[l]? = c.ρ[l]?)
    | .dead => True
    | .cells T _ => (∃ cs', H'[l]? = some (.cells T cs')) ∧ c'.ρ[l]? = c.ρ[l]?
    | .map _ => (∃ es', H'[l]? = some (.map es')) ∧ c'.ρ[l]? = c.ρ[l]?
    | .loop tm ps asn bd _ _ => (∃ pend' st', H'[l]? = some (.loop tm ps asn bd pend' st')) ∧ c'.ρ[l]? = c.ρ[l]?

theorem Keep.refl (c : Cx) (H : List Box) : Keep c H c H := by
  intro l x h
  cases x <;> simp_all

theorem Keep.trans {c H c' H' c'' H''} (h : Keep c H c' H') (h' : Keep c' H' c'' H'') : Keep c H c'' H'' := by
  intro l x hx
  have h1 := h l x hx
  cases x with
  | vec n sz =>
    obtain ⟨n', a, b, e⟩ := h1
    obtain ⟨n'', a', b', e'⟩ := h' l _ a
    exact ⟨n'', a', Nat.le_trans b b', fun he => by
      have e1 : n = n' := by omega
      have e2 : n' = n'' := by omega
      rw [e' e2, e e1]⟩
  | dead => trivial
  | cells T cs =>
    obtain ⟨⟨cs', a⟩, e⟩ := h1
    obtain ⟨⟨cs'', a'⟩, e'⟩ := h' l _ a
    exact ⟨⟨cs'', a'⟩, by rw [e', e]⟩
  | map es =>
    obtain ⟨⟨cs', a⟩, e⟩ := h1
    obtain ⟨⟨cs'', a'⟩, e'⟩ := h' l _ a
    exact ⟨⟨cs'', a'⟩, by rw [e', e]⟩
  | loop tm ps asn bd pend st =>
    obtain ⟨⟨p1, s1, a⟩, e⟩ := h1
    obtain ⟨⟨p2, s2, a'⟩, e'⟩ := h' l _ a
    exact ⟨⟨p2, s2, a'⟩, by rw [e', e]⟩

theorem R1.ext {c w c' w'} (e : Ext c w c' w') {v x} (h : R1 c.I c.J w v x) : R1 c'.I c'.J w' v x := by
  induction h with
  | int k n => exact .int k n
  | bool b => exact .bool b
  | str s => exact .str s
  | fn f => exact .fn f
  | nil => exact .nil
  | emp a cap => exact .emp a cap
  | sl b off cap sz ds vals hsz hc hr hcap ih =>
    exact .sl b off cap sz ds vals hsz (fun i j d hd => ⟨e.isub _ _ (hc i j d hd).1, by rw [e.icell _ _ (hc i j d hd).1]; exact (hc i j d hd).2⟩) ih hcap
  | gmap r ents clk es hJ hw hlen hk hv ihk ihv => exact .gmap r ents clk es (e.jsub _ hJ) (by rw [e.jobj _ hJ]; exact hw) hlen ihk ihv

theorem RV.ext {c w c' w'} (e : Ext c w c' w') {v x} (h : RV c.I c.J w v x) : RV c'.I c'.J w' v x := by
  cases x <;> simp only [RV] at h ⊢ <;> first
    | exact R1.ext e h
    | (obtain ⟨vs, rfl, hv⟩ := h; exact ⟨vs, rfl, hv.mono fun _ _ => R1.ext e⟩)

theorem RA.ext {c H w c' H' w'} (e : Ext c w c' w') (k : Keep c H c' H') {v a} (h : RA c H w a v) : RA c' H' w' a v := by
  induction h with
  | d h => exact .d (h.ext e)
  | @ptr l o b q T cs hH h =>
    obtain ⟨⟨cs', h1⟩, h2⟩ := k l _ hH
    exact .ptr h1 (by rw [h2]; exact h)
  | iptr h => exact .iptr fun j x hx => ⟨e.isub _ _ (h j x hx).1, by
      obtain ⟨hi, v, hv, hr⟩ := h j x hx
      exact ⟨v, by rw [e.icell _ _ hi]; exact hv, hr.ext e⟩⟩
  | clo hf hc _ _ ih1 ih2 => exact .clo hf hc ih1 ih2
  | full h => exact .full (h.ext e)
  | nils => exact .nils
  | @vec l n sz ds a m q h hH hn he =>
    obtain ⟨n', a', b', e'⟩ := k l _ hH
    refine .vec (h.ext e) a' (by omega) fun hl => ?_
    have e1 : n = n' := by omega
    rcases he (by omega) with h1 | ⟨b, h1, h2⟩
    · exact .inl h1
    · exact .inr ⟨b, h1, by rw [e' e1]; exact h2⟩
  | @map l b q es hH h =>
    obtain ⟨⟨cs', h1⟩, h2⟩ := k l _ hH
    exact .map h1 (by rw [h2]; exact h)
  | tup hl _ ih => exact .tup hl ih
  | agg hl _ ih => exact .agg hl ih
  | any v => exact .any v
  | opt g p x v => exact .opt g p x v
  | @yld l b q tm ps asn bd pend st hH h =>
    obtain ⟨⟨p1, s1, h1⟩, h2⟩ := k l _ hH
    exact .yld h1 (by rw [h2]; exact h)
end Go.Sx
/- How the relations go over an allocation, a draw and a store. -/
namespace Go.Sx
open Go

theorem cell_of_heap {w w' : World} {b : Nat} (h : w'.heap[b]? = w.heap[b]?) (o : Nat) (s : Option Nat) : w'.cell? ⟨b, o, s⟩ = w.cell? ⟨b, o, s⟩ := by
  simp [World.cell?, h]

theorem heap_push_lt {w : World} {o : Obj} {b : Nat} (h : b < w.heap.size) : ({ w with heap := w.heap.push o } : World).heap[b]? = w.heap[b]? := by
  simp only
  rw [Array.getElem?_push]
  simp [Nat.ne_of_lt h]

theorem heap_push_eq (w : World) (o : Obj) : ({ w with heap := w.heap.push o } : World).heap[w.heap.size]? = some o := by
  simp

theorem BoxR.ext {c H w c' H' w' b k x} (e : Ext c w c' w') (kp : Keep c H c' H') (hb : w'.heap[b]? = w.heap[b]?) (h : BoxR c H w b k x) : BoxR c' H' w' b k x := by
  cases x with
  | cells T cs => obtain ⟨vs, h1, h2⟩ := h; exact ⟨vs, by rw [hb]; exact h1, h2.mono fun _ _ h => h.ext e kp⟩
  | map es => obtain ⟨en, clk, h1, h2⟩ := h; exact ⟨en, clk, by rw [hb]; exact h1, h2.mono fun _ _ h => ⟨h.1.ext e, h.2.ext e⟩⟩
  | vec n sz => obtain ⟨vs, T, h1, h2⟩ := h; exact ⟨vs, T, by rw [hb]; exact h1, h2⟩
  | dead => trivial
  | loop tm ps asn bd pend st => obtain ⟨r, h1, h2, h3, h4, h5, h6, h7⟩ := h; exact ⟨r, by rw [hb]; exact h1, h2, h3, h4, h5, h6, h7.mono fun _ _ h => h.ext e kp⟩

/-- A draw changes nothing that is told. -/
theorem Ext.drew (c : Cx) (w : World) (n : Nat) : Ext c w c { w with drawn := n } :=
  ⟨rfl, rfl, rfl, fun _ _ h => h, fun _ h => h, fun _ _ _ => rfl, fun _ _ => rfl, Nat.le_refl _, fun _ _ _ => rfl, fun _ _ h => .inl h, fun _ h => .inl h, fun l _ k h => .inl ⟨l, k, h⟩⟩

theorem HR.drew {c H w} (h : HR c H w) (n : Nat) : HR c H { w with drawn := n } where
  len := h.len
  inj := h.inj
  box l b k x h1 h2 := (h.box l b k x h1 h2).ext (Ext.drew c w n) (Keep.refl _ _) rfl
  non := h.non
  lt := h.lt
  ilt := h.ilt
  jlt := h.jlt
  iap := h.iap
  jap := h.jap

/-- A new block whose cells from now on nobody writes. -/
def Cx.imm (c : Cx) (b n : Nat) : Cx := { c with I := fun b' o => c.I b' o ∨ (b' = b ∧ o < n) }

theorem Ext.push_imm (c : Cx) (w : World) (o : Obj) (n : Nat) (hi : ∀ b o, c.I b o → b < w.heap.size) (hj : ∀ r, c.J r → r < w.heap.size) :
    Ext c w (c.imm w.heap.size n) { w with heap := w.heap.push o } where
  os := rfl
  tape := rfl
  output := rfl
  isub _ _ h := .inl h
  jsub _ h := h
  icell b o h := cell_of_heap (heap_push_lt (hi b o h)) _ _
  jobj r h := heap_push_lt (hj r h)
  size := by simp
  frame b hb _ := heap_push_lt hb
  inew b o h := by
    rcases h with h | ⟨rfl, _⟩
    · exact .inl h
    · exact .inr (.inl (Nat.le_refl _))
  jnew _ h := .inl h
  fresh l b k h := .inl ⟨l, k, h⟩

theorem HR.push_imm {c H w} (h : HR c H w) (o : Obj) (n : Nat) : HR (c.imm w.heap.size n) H { w with heap := w.heap.push o } where
  len := h.len
  inj := h.inj
  box l b k x h1 h2 := (h.box l b k x h1 h2).ext (Ext.push_imm c w o n h.ilt h.jlt) (Keep.refl _ _) (heap_push_lt (h.lt l b k h1))
  non := h.non
  lt l b k h1 := by have := h.lt l b k h1; simp; omega
  ilt b o hi := by
    rcases hi with hi | ⟨rfl, _⟩
    · have := h.ilt b o hi; simp; omega
    · simp
  jlt r hr := by have := h.jlt r hr; simp; omega
  iap b o l k hi h1 := by
    rcases hi with hi | ⟨rfl, _⟩
    · exact h.iap b o l k hi h1
    · exact absurd (h.lt l _ k h1) (Nat.lt_irrefl _)
  jap := h.jap

theorem Keep.imm (c : Cx) (H : List Box) (b n : Nat) : Keep c H (c.imm b n) H := Keep.refl c H

/-- A new box. -/
def Cx.grow (c : Cx) (b k : Nat) : Cx := { c with ρ := c.ρ ++ [some (b, k)] }

theorem get_snoc_lt {α : Type} {xs : List α} {y : α} {l : Nat} (h : l < xs.length) : (xs ++ [y])[l]? = xs[l]? := by
  rw [List.getElem?_append_left h]
theorem get_snoc_some {α : Type} {xs : List α} {x y : α} {l : Nat} (h : xs[l]? = some x) : (xs ++ [y])[l]? = some x := by
  have : l < xs.length := by rcases Nat.lt_or_ge l xs.length with h' | h'; exact h'; simp [List.getElem?_eq_none h'] at h
  rw [get_snoc_lt this, h]
theorem get_snoc_cases {α : Type} {xs : List α} {x y : α} {l : Nat} (h : (xs ++ [y])[l]? = some x) : xs[l]? = some x ∨ (l = xs.length ∧ x = y) := by
  rw [List.getElem?_append] at h
  split at h
  · exact .inl h
  · rename_i hl
    rcases Nat.lt_or_ge (l - xs.length) 1 with h1 | h1
    · have : l - xs.length = 0 := by omega
      rw [this] at h
      simp at h
      exact .inr ⟨by omega, h.symm⟩
    · rw [List.getElem?_eq_none (by simpa using h1)] at h; simp at h

theorem Keep.grow (c : Cx) (H : List Box) (b k : Nat) (x : Box) (hl : c.ρ.length = H.length) : Keep c H (c.grow b k) (H ++ [x]) := by
  intro l y hy
  have hlt : l < H.length := by rcases Nat.lt_or_ge l H.length with h' | h'; exact h'; simp [List.getElem?_eq_none h'] at hy
  have e1 : (H ++ [x])[l]? = some y := get_snoc_some hy
  have e2 : (c.grow b k).ρ[l]? = c.ρ[l]? := get_snoc_lt (by omega)
  cases y <;> simp only [e1, e2] <;> simp

theorem Ext.push_box (c : Cx) (w : World) (o : Obj) (k : Nat) (hi : ∀ b o, c.I b o → b < w.heap.size) (hj : ∀ r, c.J r → r < w.heap.size) :
    Ext c w (c.grow w.heap.size k) { w with heap := w.heap.push o } where
  os := rfl
  tape := rfl
  output := rfl
  isub _ _ h := h
  jsub _ h := h
  icell b o h := cell_of_heap (heap_push_lt (hi b o h)) _ _
  jobj r h := heap_push_lt (hj r h)
  size := by simp
  frame b hb _ := heap_push_lt hb
  inew _ _ h := .inl h
  jnew _ h := .inl h
  fresh l b k h := by
    rcases get_snoc_cases h with h | ⟨_, h⟩
    · exact .inl ⟨l, k, h⟩
    · simp at h; exact .inr (by omega)

theorem HR.push_box {c H w} (h : HR c H w) (o : Obj) (k : Nat) (x : Box) (hx : BoxR (c.grow w.heap.size k) (H ++ [x]) { w with heap := w.heap.push o } w.heap.size k x) :
    HR (c.grow w.heap.size k) (H ++ [x]) { w with heap := w.heap.push o } where
  len := by simp [Cx.grow, h.len]
  inj l l' b k k' h1 h2 := by
    rcases get_snoc_cases h1 with h1 | ⟨e1, h1⟩ <;> rcases get_snoc_cases h2 with h2 | ⟨e2, h2⟩
    · exact h.inj l l' b k k' h1 h2
    · simp at h2; have := h.lt l b k h1; omega
    · simp at h1; have := h.lt l' b k' h2; omega
    · omega
  box l b k y h1 h2 := by
    rcases get_snoc_cases h1 with h1 | ⟨e1, h1⟩
    · rcases get_snoc_cases h2 with h2 | ⟨e2, h2⟩
      · exact (h.box l b k y h1 h2).ext (Ext.push_box c w o _ h.ilt h.jlt) (Keep.grow c H _ _ x h.len) (heap_push_lt (h.lt l b k h1))
      · have := h.len
        rw [List.getElem?_eq_none (by omega)] at h1; simp at h1
    · rcases get_snoc_cases h2 with h2 | ⟨e2, h2⟩
      · have := h.len
        rw [List.getElem?_eq_none (by omega)] at h2; simp at h2
      · simp at h1; obtain ⟨rfl, rfl⟩ := h1; subst h2; exact hx
  non l y h1 h2 := by
    rcases get_snoc_cases h1 with h1 | ⟨e1, h1⟩
    · rcases get_snoc_cases h2 with h2 | ⟨e2, h2⟩
      · exact h.non l y h1 h2
      · have := h.len
        rw [List.getElem?_eq_none (by omega)] at h1; simp at h1
    · simp at h1
  lt l b k h1 := by
    rcases get_snoc_cases h1 with h1 | ⟨_, h1⟩
    · have := h.lt l b k h1; simp; omega
    · simp at h1; simp; omega
  ilt b o hi := by have := h.ilt b o hi; simp; omega
  jlt r hr := by have := h.jlt r hr; simp; omega
  iap b o l k hi h1 := by
    rcases get_snoc_cases h1 with h1 | ⟨_, h1⟩
    · obtain ⟨n, sz, h2, h3⟩ := h.iap b o l k hi h1
      exact ⟨n, sz, get_snoc_some h2, h3⟩
    · simp at h1; have := h.ilt b o hi; omega
  jap r l k hr h1 := by
    rcases get_snoc_cases h1 with h1 | ⟨_, h1⟩
    · exact h.jap r l k hr h1
    · simp at h1; have := h.jlt r hr; omega

/-- A box of cells is written anew. -/
theorem set_other {α : Type} {xs : List α} {y : α} {l l' : Nat} (h : l ≠ l') : (xs.set l y)[l']? = xs[l']? := by
  rw [List.getElem?_set]; simp [h]
theorem set_same {α : Type} {xs : List α} {x y : α} {l : Nat} (h : xs[l]? = some x) : (xs.set l y)[l]? = some y := by
  have : l < xs.length := by rcases Nat.lt_or_ge l xs.length with h' | h'; exact h'; simp [List.getElem?_eq_none h'] at h
  rw [List.getElem?_set]; simp [this]

section
variable {c : Cx} {H : List Box} {w w' : World} {l b k : Nat}

theorem Ext.set_box (hb : c.ρ[l]? = some (some (b, k))) (hR : HR c H w) (hos : w'.os = w.os) (ht : w'.tape = w.tape) (hout : w'.output = w.output)
    (hs : w'.heap.size = w.heap.size) (ho : ∀ b', b' ≠ b → w'.heap[b']? = w.heap[b']?) (hnv : ∀ n sz, H[l]? ≠ some (.vec n sz)) : Ext c w c w' where
  os := hos
  tape := ht
  output := hout
  isub _ _ h := h
  jsub _ h := h
  icell b' o hi := cell_of_heap (ho b' (fun e => by
    subst e
    obtain ⟨n, sz, h1, _⟩ := hR.iap b' o l k hi hb
    exact hnv n sz h1)) _ _
  jobj r hr := ho r (fun e => by subst e; exact hR.jap r l k hr hb)
  size := by omega
  frame b' _ hn := ho b' (fun e => by subst e; exact hn l k hb)
  inew _ _ h := .inl h
  jnew _ h := .inl h
  fresh l b k h := .inl ⟨l, k, h⟩

theorem Keep.set_cells {T : TypeId} {cs : List AV} (hl : H[l]? = some (.cells T cs)) (cs' : List AV) : Keep c H c (H.set l (.cells T cs')) := by
  intro m y hy
  by_cases e : l = m
  · subst e
    rw [hl] at hy
    simp at hy
    subst hy
    exact ⟨⟨cs', set_same hl⟩, rfl⟩
  · cases y <;> simp only [set_other e, hy] <;> simp

theorem Keep.set_map {es : List (D × D)} (hl : H[l]? = some (.map es)) (es' : List (D × D)) : Keep c H c (H.set l (.map es')) := by
  intro m y hy
  by_cases e : l = m
  · subst e
    rw [hl] at hy
    simp at hy
    subst hy
    exact ⟨⟨es', set_same hl⟩, rfl⟩
  · cases y <;> simp only [set_other e, hy] <;> simp

theorem HR.set_box {x y : Box} (hb : c.ρ[l]? = some (some (b, k))) (hR : HR c H w) (hl : H[l]? = some x) (hs : w'.heap.size = w.heap.size)
    (ho : ∀ b', b' ≠ b → w'.heap[b']? = w.heap[b']?) (hnv : ∀ n sz, x ≠ .vec n sz) (e : Ext c w c w') (kp : Keep c H c (H.set l y))
    (hy : BoxR c (H.set l y) w' b k y) : HR c (H.set l y) w' where
  len := by simp [hR.len]
  inj := hR.inj
  box m b' k' z h1 h2 := by
    by_cases hm : l = m
    · subst hm
      rw [set_same hl] at h2
      rw [hb] at h1
      simp at h1 h2
      obtain ⟨rfl, rfl⟩ := h1
      subst h2
      exact hy
    · rw [set_other hm] at h2
      refine (hR.box m b' k' z h1 h2).ext e kp (ho b' (fun e' => ?_))
      subst e'
      exact hm (hR.inj l m b' k k' hb h1)
  non m z h1 h2 := by
    by_cases hm : l = m
    · subst hm; rw [hb] at h1; simp at h1
    · rw [set_other hm] at h2; exact hR.non m z h1 h2
  lt m b' k' h1 := by rw [hs]; exact hR.lt m b' k' h1
  ilt b' o h := by rw [hs]; exact hR.ilt b' o h
  jlt r h := by rw [hs]; exact hR.jlt r h
  iap b' o m k' hi h1 := by
    obtain ⟨n, sz, h2, h3⟩ := hR.iap b' o m k' hi h1
    by_cases hm : l = m
    · subst hm; rw [hl] at h2; simp at h2; exact absurd h2 (hnv n sz)
    · exact ⟨n, sz, by rw [set_other hm]; exact h2, h3⟩
  jap := hR.jap
end
end Go.Sx
/- What each operation makes of abstract values, and that it is so: operations that change no box. -/
namespace Go.Sx
open Go

def avD1 : AV → Option D
  | .d (.agg _) => none
  | .d x => some x
  | .full ds => some (.sl ds)
  | .nils => some (.sl [])
  | .vec _ ds => some (.sl ds)
  | .clo f [] [] => some (.fn f)
  | _ => none

def avD : AV → Option D
  | .d x => some x
  | .agg cs => (cs.mapM avD1).map .agg
  | a => avD1 a

section
variable {P : Program} {c : Cx} {H : List Box} {w : World}

theorem RV.one {I : Nat → Nat → Prop} {J : Nat → Prop} {v : Value} {x : D} (h : RV I J w v x) (hx : ∀ cs, x ≠ .agg cs) : R1 I J w v x := by
  cases x <;> first | exact h | exact absurd rfl (hx _)

theorem R1.rv {I : Nat → Nat → Prop} {J : Nat → Prop} {v : Value} {x : D} (h : R1 I J w v x) : RV I J w v x := by
  have h' := h
  cases h <;> exact h'

theorem avD1_sound {a : AV} {v : Value} {x : D} (h : RA c H w a v) (e : avD1 a = some x) : R1 c.I c.J w v x := by
  cases h with
  | @d y v h =>
    cases y <;> simp [avD1] at e <;> subst e <;> exact h
  | full h => simp [avD1] at e; subst e; exact h
  | nils => simp [avD1] at e; subst e; exact .nil
  | vec h => simp [avD1] at e; subst e; exact h
  | @clo f fi ca fv cv hf hc =>
    cases fi <;> cases ca <;> simp [avD1] at e
    subst e
    have : fv = [] := by simpa using hf.symm
    have : cv = [] := by simpa using hc.symm
    subst_vars
    exact .fn f
  | _ => simp [avD1] at e

theorem mapM_avD1 : ∀ {aas : List AV} {ds : List D} {vs : List Value}, aas.mapM avD1 = some ds → All2 (fun v a => RA c H w a v) vs aas → All2 (R1 c.I c.J w) vs ds
  | [], ds, vs, h, h2 => by
    simp at h; subst h
    have := h2.nil_right; subst this; exact All2.nil
  | a :: aas, ds, vs, h, h2 => by
    rw [List.mapM_cons] at h
    cases ha : avD1 a with
    | none => rw [ha] at h; simp at h
    | some x =>
      rw [ha] at h
      cases hr : aas.mapM avD1 with
      | none => rw [hr] at h; simp at h
      | some xs =>
        rw [hr] at h; simp at h; subst h
        obtain ⟨v, vs', rfl, h3, h4⟩ := h2.cons_right
        exact All2.cons (avD1_sound h3 ha) (mapM_avD1 hr h4)

theorem avD_sound {a : AV} {v : Value} {x : D} (h : RA c H w a v) (e : avD a = some x) : RV c.I c.J w v x := by
  cases a with
  | d y => simp [avD] at e; subst e; cases h; assumption
  | agg cs =>
    simp only [avD] at e
    cases hm : cs.mapM avD1 with
    | none => rw [hm] at e; simp at e
    | some xs =>
      rw [hm] at e; simp at e; subst e
      cases h with
      | @agg _ vs hl h => exact ⟨vs, rfl, mapM_avD1 hm ⟨hl.symm, fun i v a hv ha => h i a v ha hv⟩⟩
  | _ => exact (by simp only [avD] at e; exact (avD1_sound h e).rv)

theorem R1.oneCell {I : Nat → Nat → Prop} {J : Nat → Prop} {v : Value} {x : D} (h : R1 I J w v x) : v.oneCell' = true := by
  cases h <;> rfl

/-! Types -/
def aggB (P : Program) (T : TypeId) : Option Bool :=
  match P.underlying T with
  | some (.struct _) => some true
  | some (.array _ _) => some true
  | some _ => some false
  | none => none

def szOf (P : Program) (T : TypeId) : Option Nat := (P.info? T).map (·.size)

theorem run_isAgg {T : TypeId} {t : Bool} (h : aggB P T = some t) : (isAgg T).run P w = .ok t w := by
  unfold aggB at h
  cases hu : P.underlying T with
  | none => rw [hu] at h; simp at h
  | some d => rw [hu] at h; cases d <;> simp at h <;> subst h <;> simp [isAgg, run_underlying hu]

theorem run_szOf {T : TypeId} {n : Nat} (h : szOf P T = some n) : (sizeOf T).run P w = .ok n w := by
  unfold szOf at h
  cases hi : P.info? T with
  | none => rw [hi] at h; simp at h
  | some i => rw [hi] at h; simp at h; subst h; simp [sizeOf, typeInfo, hi]

/-! load -/
def Cells (w : World) (b o : Nat) (vs : List Value) : Prop := ∀ (j : Nat) v, vs[j]? = some v → w.cell? ⟨b, o + j, none⟩ = some v

theorem add_none (b o j : Nat) : (⟨b, o, none⟩ : Addr).add j = ⟨b, o + j, none⟩ := by unfold Addr.add; split <;> simp_all

theorem run_load_agg {T : TypeId} {b o : Nat} {vs : List Value} (hu : aggB P T = some true) (hs : szOf P T = some vs.length) (hc : Cells w b o vs) :
    (Instr.loadAt T (.pointer (some ⟨b, o, none⟩))).run P w = .ok (.agg vs.toArray) w := by
  have h1 : (loadCells ⟨b, o, none⟩ vs.length).run P w = .ok vs.toArray w := run_loadCells_list w ⟨b, o, none⟩ vs (fun j v hj => by rw [add_none]; exact hc j v hj)
  simp [Instr.loadAt, Instr.sureAddr, loadVar, run_isAgg hu, run_szOf hs, h1]

theorem run_load_one {T : TypeId} {b o : Nat} {v : Value} (hu : aggB P T = some false) (hc : w.cell? ⟨b, o, none⟩ = some v) :
    (Instr.loadAt T (.pointer (some ⟨b, o, none⟩))).run P w = .ok v w := by
  simp [Instr.loadAt, Instr.sureAddr, loadVar, run_isAgg hu, hc]

def loadA (P : Program) (T : TypeId) (cells : List AV) : Option AV :=
  match aggB P T with
  | some true => match szOf P T with
    | some n => if (cells.take n).length = n then some (.agg (cells.take n)) else none
    | none => none
  | some false => cells.head?
  | none => none

/-- Cells that hold what the abstract cells say, loaded. -/
theorem loadA_sound {T : TypeId} {b o : Nat} {cells : List AV} {vs : List Value} {a : AV} (h : loadA P T cells = some a) (hv : All2 (fun v a => RA c H w a v) vs cells) (hc : Cells w b o vs) :
    ∃ v, (Instr.loadAt T (.pointer (some ⟨b, o, none⟩))).run P w = .ok v w ∧ RA c H w a v := by
  unfold loadA at h
  cases hg : aggB P T with
  | none => rw [hg] at h; simp at h
  | some t =>
    rw [hg] at h
    cases t with
    | false =>
      simp at h
      cases cells with
      | nil => simp at h
      | cons x xs =>
        simp at h; subst h
        obtain ⟨v, vs', rfl, h3, h4⟩ := hv.cons_right
        exact ⟨v, run_load_one hg (by have := hc 0 v rfl; simpa using this), h3⟩
    | true =>
      simp only at h
      cases hs : szOf P T with
      | none => rw [hs] at h; simp at h
      | some n =>
        rw [hs] at h; simp only at h
        split at h
        · rename_i hn
          simp only [Option.some.injEq] at h; subst h
          have h5 := hv.take n
          have hlen : (vs.take n).length = n := by rw [h5.1, hn]
          refine ⟨.agg (vs.take n).toArray, run_load_agg hg (by rw [hlen]; exact hs) (fun j v hj => hc j v ?_), .agg h5.1.symm fun i a v ha hv' => h5.2 i v a hv' ha⟩
          rw [List.getElem?_take] at hj
          split at hj
          · exact hj
          · simp at hj
        · simp at h

/-! shapes of cells -/
inductive Sh where
  | int (k : IntKind)
  | bool
  | str
  | sl
  | fn

def D.toInt : D → Int
  | .int _ n => n
  | _ => 0
def D.toBool : D → Bool
  | .bool b => b
  | _ => false
def D.toStr : D → List UInt8
  | .str s => s
  | _ => []
def D.toSl : D → List D
  | .sl ds => ds
  | _ => []
def D.toFn : D → Nat
  | .fn f => f
  | _ => 0

def Sh.norm : Sh → D → D
  | .int k, x => .int k x.toInt
  | .bool, x => .bool x.toBool
  | .str, x => .str x.toStr
  | .sl, x => .sl x.toSl
  | .fn, x => .fn x.toFn

/-- The shapes of a type's cells. -/
def shapes (P : Program) : Nat → TypeId → Option (List Sh)
  | 0, _ => none
  | n + 1, T =>
    match P.underlying T with
    | some (.int k) => some [.int k]
    | some .bool => some [.bool]
    | some .string => some [.str]
    | some (.slice _) => some [.sl]
    | some (.func _ _ _) => some [.fn]
    | some (.struct fs) => (fs.toList.mapM fun f => shapes P n f.type).map List.flatten
    | some (.array m e) => (shapes P n e).map fun s => (List.replicate m s).flatten
    | _ => none

/-- The i-th element of a list of data, in the form of its type's cells. -/
def elemCells (P : Program) (T : TypeId) (ds : List D) (i : Nat) : Option (List D) :=
  (shapes P 9 T).map fun shs => shs.zipIdx.map fun (sh, j) => sh.norm ((cellAt ds i j).getD default)

def mkD (agg : Bool) (cs : List D) : D := if agg then .agg cs else cs.getD 0 default

/-! places -/
theorem run_fieldAt {T f : Nat} {fs : Array Field} {fd : Field} {n b o : Nat} (hu : P.underlying T = some (.struct fs)) (hf : fs[f]? = some fd) (hs : szOf P fd.type = some (n + 1)) :
    (Instr.fieldAt T (.pointer (some ⟨b, o, none⟩)) f).run P w = .ok (.pointer (some ⟨b, o + fd.offset, none⟩)) w := by
  simp [Instr.fieldAt, run_underlying hu, hf, Instr.sureAddr, fieldPlace, run_szOf hs, add_none]

theorem run_indexAt {T E : Nat} {b o len cap : Nat} {k : IntKind} {i : Int} {n : Nat} (hu : P.underlying T = some (.slice E)) (hs : szOf P E = some n) (h0 : 0 ≤ i) (h1 : i < len) :
    (Instr.indexAt T (.slice (some ⟨b, o, none⟩) len cap) (.int k i)).run P w = .ok (.pointer (some ⟨b, o + i.toNat * n, none⟩)) w := by
  simp [Instr.indexAt, asIntOf, run_underlying hu, run_szOf hs, h0, h1, add_none]

theorem size_mk (s : List UInt8) : (⟨s.toArray⟩ : ByteArray).size = s.length := by
  show s.toArray.size = _
  simp

theorem get_mk {s : List UInt8} {i : Nat} (h : i < s.length) : (⟨s.toArray⟩ : ByteArray)[i]? = some (s.getD i 0) := by
  have h2 : i < (⟨s.toArray⟩ : ByteArray).size := by rw [size_mk]; exact h
  rw [getElem?_pos (⟨s.toArray⟩ : ByteArray) i h2]
  have : (⟨s.toArray⟩ : ByteArray)[i] = s[i] := rfl
  rw [this]
  simp [List.getD, h]

theorem run_index_str {T : Nat} {s : List UInt8} {k : IntKind} {i : Int} (hu : P.underlying T = some .string) (h0 : 0 ≤ i) (h1 : i.toNat < s.length) :
    (Instr.index T (.string ⟨s.toArray⟩) (.int k i)).run P w = .ok (.int .u8 (s.getD i.toNat 0).toNat) w := by
  simp [Instr.index, asIntOf, run_underlying hu, h0, get_mk h1]

theorem run_len_slice {T E ty : Nat} {a : Option Addr} {n cap : Nat} (hu : P.underlying T = some (.slice E)) :
    (Builtin.len_ #[T] ty #[.slice a n cap]).run P w = .ok (.int .i64 n) w := by
  simp [Builtin.len_, run_underlying hu, goInt]

theorem run_len_str {T ty : Nat} {s : List UInt8} (hu : P.underlying T = some .string) :
    (Builtin.len_ #[T] ty #[.string ⟨s.toArray⟩]).run P w = .ok (.int .i64 s.length) w := by
  simp [Builtin.len_, run_underlying hu, goInt, size_mk]
end
end Go.Sx
/- Arithmetic, comparisons, building and taking apart: pure operations on abstract data. -/
namespace Go.Sx
open Go

def cmpF (op : BinOp) (a b : Int) : Option Bool :=
  match op with
  | .eql => some (a == b)
  | .neq => some (a != b)
  | .lss => some (decide (a < b))
  | .leq => some (decide (a ≤ b))
  | .gtr => some (decide (a > b))
  | .geq => some (decide (a ≥ b))
  | _ => none

def intF (op : BinOp) (k : IntKind) (a b : Int) : Option (D × Prop) :=
  match op with
  | .add => some (.int k (k.wrap (a + b)), True)
  | .sub => some (.int k (k.wrap (a - b)), True)
  | .mul => some (.int k (k.wrap (a * b)), True)
  | .quo => some (.int k (k.wrap (a.tdiv b)), b ≠ 0)
  | .rem => some (.int k (a.tmod b), b ≠ 0)
  | .and => some (.int k (k.wrap (BitVec.ofInt k.bits a &&& BitVec.ofInt k.bits b).toNat), True)
  | .or => some (.int k (k.wrap (BitVec.ofInt k.bits a ||| BitVec.ofInt k.bits b).toNat), True)
  | .xor => some (.int k (k.wrap (BitVec.ofInt k.bits a ^^^ BitVec.ofInt k.bits b).toNat), True)
  | .andNot => some (.int k (k.wrap (BitVec.ofInt k.bits a &&& ~~~(BitVec.ofInt k.bits b)).toNat), True)
  | op => (cmpF op a b).map fun r => (.bool r, True)

def shiftF (op : BinOp) (k : IntKind) (a b : Int) : Option (D × Prop) :=
  match op with
  | .shl => some (.int k (k.wrap (a * 2 ^ (min b.toNat k.bits))), 0 ≤ b)
  | .shr => some (.int k (a.fdiv (2 ^ (min b.toNat k.bits))), 0 ≤ b)
  | _ => none

def strF (op : BinOp) (s t : List UInt8) : Option (D × Prop) :=
  match op with
  | .add => some (.str (s ++ t), s.length + t.length ≤ 9223372036854775807)
  | .eql => some (.bool (s == t), True)
  | .neq => some (.bool (!(s == t)), True)
  | .lss => some (.bool (Op.bytesLess s t), True)
  | .leq => some (.bool (Op.bytesLess s t || s == t), True)
  | .gtr => some (.bool (!(Op.bytesLess s t || s == t)), True)
  | .geq => some (.bool (!(Op.bytesLess s t)), True)
  | _ => none

def eqlF (op : BinOp) (r : Bool) : Option (D × Prop) :=
  match op with
  | .eql => some (.bool r, True)
  | .neq => some (.bool (!r), True)
  | _ => none

/-- Two cells of plain kinds, held against each other. -/
def eqD : D → D → Option Bool
  | .int k a, .int k' b => if k = k' then some (a == b) else none
  | .bool a, .bool b => some (a == b)
  | .str s, .str t => some (s == t)
  | _, _ => none

def eqFieldsF (P : Program) (xs ys : List D) : List Field → Option Bool
  | [] => some true
  | f :: fs =>
    if f.name ≠ "_" then
      match P.underlying f.type, xs[f.offset]?, ys[f.offset]? with
      | some (.int _), some (.int k a), some (.int k' b) => if k = k' then (eqFieldsF P xs ys fs).map fun r => (a == b) && r else none
      | some .bool, some (.bool a), some (.bool b) => (eqFieldsF P xs ys fs).map fun r => (a == b) && r
      | some .string, some (.str s), some (.str t) => (eqFieldsF P xs ys fs).map fun r => (s == t) && r
      | _, _, _ => none
    else eqFieldsF P xs ys fs

def structOk (P : Program) (T : TypeId) : Bool := !P.stoodInHeld T && !P.eqGuardType P.depth T && (P.underlying T matches some (.struct _))

def binF (P : Program) (op : BinOp) (T : TypeId) (x y : D) : Option (D × Prop) :=
  match x, y with
  | .int k a, .int k' b =>
    match op with
    | .shl => shiftF op k a b
    | .shr => shiftF op k a b
    | op => if k = k' then intF op k a b else none
  | .str s, .str t => strF op s t
  | .bool a, .bool b => match P.underlying T with
    | some .bool => eqlF op (a == b)
    | _ => none
  | .agg xs, .agg ys => if structOk P T then (eqFieldsF P xs ys (P.fieldsOf T).toList).bind (eqlF op) else none
  | _, _ => none

section
variable {P : Program} {I : Nat → Nat → Prop} {J : Nat → Prop} {w : World}

theorem run_int_bin {op : BinOp} {k : IntKind} {a b : Int} {r : D} {F : Prop} {T : TypeId} (h : intF op k a b = some (r, F)) (hF : F) (hs : op ≠ .shl) (hs' : op ≠ .shr) :
    ∃ v, (binOp op T (.int k a) (.int k b)).run P w = .ok v w ∧ R1 I J w v r := by
  cases op <;> simp only [intF, cmpF, Option.map_some, Option.map_none] at h <;> first
    | exact absurd rfl hs
    | exact absurd rfl hs'
    | (cases h; refine ⟨_, ?_, R1.int _ _⟩; simp only [binOp, ne_eq, not_true_eq_false, if_false, Op.intArith, Op.intBits]; rfl)
    | (cases h; refine ⟨_, ?_, R1.int _ _⟩; simp only [binOp, ne_eq, not_true_eq_false, if_false, Op.intDiv, if_neg hF]; rfl)
    | (cases h; refine ⟨_, ?_, R1.bool _⟩; simp only [binOp, ne_eq, not_true_eq_false, if_false, Op.intCmp]; rfl)
    | cases h

theorem run_shift_bin {op : BinOp} {k k' : IntKind} {a b : Int} {r : D} {F : Prop} {T : TypeId} (h : shiftF op k a b = some (r, F)) (hF : F) :
    ∃ v, (binOp op T (.int k a) (.int k' b)).run P w = .ok v w ∧ R1 I J w v r := by
  cases op <;> simp only [shiftF] at h <;> cases h
  all_goals
    have : ¬ b < 0 := by omega
    refine ⟨_, ?_, R1.int _ _⟩
    simp only [binOp, Op.shift, if_neg this]
    rfl

theorem toList_mk' (s : List UInt8) : (⟨s.toArray⟩ : ByteArray).toList = s := ByteArray.toList_mk s

theorem append_mk (s t : List UInt8) : (⟨s.toArray⟩ : ByteArray) ++ ⟨t.toArray⟩ = ⟨(s ++ t).toArray⟩ := by
  have : ((⟨s.toArray⟩ : ByteArray) ++ ⟨t.toArray⟩).data = (s ++ t).toArray := by
    rw [ByteArray.data_append]
    simp
  cases h : ((⟨s.toArray⟩ : ByteArray) ++ ⟨t.toArray⟩) with
  | mk data => rw [h] at this; simp at this; rw [this]

theorem run_str_bin {op : BinOp} {s t : List UInt8} {r : D} {F : Prop} {T : TypeId} (h : strF op s t = some (r, F)) (hF : F) :
    ∃ v, (binOp op T (.string ⟨s.toArray⟩) (.string ⟨t.toArray⟩)).run P w = .ok v w ∧ R1 I J w v r := by
  cases op <;> simp only [strF] at h <;> cases h
  case add =>
    have : ¬ ((s.length + t.length : Nat) : Int) > IntKind.i64.max := by
      have e : IntKind.i64.max = 9223372036854775807 := by decide
      rw [e]; omega
    refine ⟨.string ⟨(s ++ t).toArray⟩, ?_, .str _⟩
    simp only [binOp, Op.stringOp, size_mk, if_neg this, append_mk]
    rfl
  all_goals
    refine ⟨.bool _, ?_, .bool _⟩
    simp [binOp, Op.stringOp]

theorem run_bool_bin {op : BinOp} {a b : Bool} {r : D} {F : Prop} {T : TypeId} (hu : P.underlying T = some .bool) (h : eqlF op (a == b) = some (r, F)) :
    ∃ v, (binOp op T (.bool a) (.bool b)).run P w = .ok v w ∧ R1 I J w v r := by
  have hd : Op.maxDepth = 9999 + 1 := rfl
  cases op <;> simp only [eqlF] at h <;> cases h
  all_goals
    refine ⟨.bool _, ?_, .bool _⟩
    simp [binOp, Op.equal, hd, run_equalIn_bool' w 9999 T a b hu]

theorem run_part_one {T off : Nat} {cs : Array Value} {v : Value} (hu : aggB P T = some false) (h : cs[off]? = some v) : (part T cs off).run P w = .ok v w := by
  simp [part, run_isAgg hu, h]

theorem eqFields_sound (d : Nat) {vs us : List Value} {xs ys : List D} (hx : All2 (R1 I J w) vs xs) (hy : All2 (R1 I J w) us ys) :
    ∀ (fs : List Field) (r : Bool), eqFieldsF P xs ys fs = some r → (Op.eqFields (d + 1) vs.toArray us.toArray fs).run P w = .ok r w
  | [], r, h => by simp [eqFieldsF] at h; subst h; simp [Op.eqFields]
  | f :: fs, r, h => by
    simp only [eqFieldsF] at h
    by_cases hn : f.name ≠ "_"
    · rw [if_pos hn] at h
      simp only [Op.eqFields, if_pos hn]
      split at h
      · rename_i k0 k a k' b hu hxa hyb
        split at h
        · rename_i hk
          subst hk
          cases hr : eqFieldsF P xs ys fs with
          | none => rw [hr] at h; simp at h
          | some r' =>
            rw [hr] at h; simp at h; subst h
            obtain ⟨v, hv, hv'⟩ := hx.get hxa
            obtain ⟨u, hu1, hu'⟩ := hy.get hyb
            cases hv'; cases hu'
            have ag : aggB P f.type = some false := by simp [aggB, hu]
            have ih := eqFields_sound d hx hy fs r' hr
            simp only [Sem.run_bind, run_part_one (w := w) ag (show vs.toArray[f.offset]? = some (.int k a) by simpa using hv), run_part_one (w := w) ag (show us.toArray[f.offset]? = some (.int k b) by simpa using hu1), Result.andThen_ok, run_equalIn_int w d f.type k k0 a b hu]
            cases hab : (a == b) <;> simp [ih]
        · simp at h
      · rename_i a b hu hxa hyb
        cases hr : eqFieldsF P xs ys fs with
        | none => rw [hr] at h; simp at h
        | some r' =>
          rw [hr] at h; simp at h; subst h
          obtain ⟨v, hv, hv'⟩ := hx.get hxa
          obtain ⟨u, hu1, hu'⟩ := hy.get hyb
          cases hv'; cases hu'
          have ag : aggB P f.type = some false := by simp [aggB, hu]
          have ih := eqFields_sound d hx hy fs r' hr
          simp only [Sem.run_bind, run_part_one (w := w) ag (show vs.toArray[f.offset]? = some (.bool a) by simpa using hv), run_part_one (w := w) ag (show us.toArray[f.offset]? = some (.bool b) by simpa using hu1), Result.andThen_ok, run_equalIn_bool' w d f.type a b hu]
          cases hab : (a == b) <;> simp [ih]
      · rename_i s t hu hxa hyb
        cases hr : eqFieldsF P xs ys fs with
        | none => rw [hr] at h; simp at h
        | some r' =>
          rw [hr] at h; simp at h; subst h
          obtain ⟨v, hv, hv'⟩ := hx.get hxa
          obtain ⟨u, hu1, hu'⟩ := hy.get hyb
          cases hv'; cases hu'
          have ag : aggB P f.type = some false := by simp [aggB, hu]
          have ih := eqFields_sound d hx hy fs r' hr
          simp only [Sem.run_bind, run_part_one (w := w) ag (show vs.toArray[f.offset]? = some (.string ⟨s.toArray⟩) by simpa using hv), run_part_one (w := w) ag (show us.toArray[f.offset]? = some (.string ⟨t.toArray⟩) by simpa using hu1), Result.andThen_ok, run_equalIn_string w d f.type _ _ hu, toList_mk']
          cases hab : (s == t) <;> simp [ih]
      · simp at h
    · rw [if_neg hn] at h
      simp only [Op.eqFields, if_neg hn]
      exact eqFields_sound d hx hy fs r h

theorem eqGuard_plain {op : BinOp} {T : TypeId} {x y : Operand} {v u : Value} (h1 : v ≠ .nilIface) (h2 : ∀ cs, v ≠ .agg cs) : (eqGuard op T x y v u).run P w = .ok () w := by
  cases v <;> first
    | exact absurd rfl h1
    | exact absurd rfl (h2 _)
    | (cases op <;> rfl)

theorem binF_sound {op : BinOp} {T : TypeId} {x y : D} {v u : Value} {r : D} {F : Prop} {ox oy : Operand} (h : binF P op T x y = some (r, F)) (hF : F) (hv : RV I J w v x) (hu : RV I J w u y) :
    ∃ z, (do eqGuard op T ox oy v u; binOp op T v u : Sem Value).run P w = .ok z w ∧ R1 I J w z r := by
  unfold binF at h
  split at h
  · cases hv; cases hu
    rename_i k a k' b
    have g : (eqGuard op T ox oy (.int k a) (.int k' b)).run P w = .ok () w := eqGuard_plain (by simp) (by simp)
    simp only [Sem.run_bind, g, Result.andThen_ok]
    split at h
    · exact run_shift_bin h hF
    · exact run_shift_bin h hF
    · rename_i n1 n2
      split at h
      · rename_i hk; subst hk
        exact run_int_bin h hF (fun e => n1 e) (fun e => n2 e)
      · simp at h
  · cases hv; cases hu
    rename_i s t
    have g : (eqGuard op T ox oy (.string ⟨s.toArray⟩) (.string ⟨t.toArray⟩)).run P w = .ok () w := eqGuard_plain (by simp) (by simp)
    simp only [Sem.run_bind, g, Result.andThen_ok]
    exact run_str_bin h hF
  · cases hv; cases hu
    rename_i a b
    have g : (eqGuard op T ox oy (.bool a) (.bool b)).run P w = .ok () w := eqGuard_plain (by simp) (by simp)
    simp only [Sem.run_bind, g, Result.andThen_ok]
    split at h
    · rename_i hb; exact run_bool_bin hb h
    · simp at h
  · rename_i xs ys
    obtain ⟨vs, rfl, hvs⟩ := hv
    obtain ⟨us, rfl, hus⟩ := hu
    split at h
    · rename_i hok
      simp [structOk] at hok
      obtain ⟨⟨ok1, ok2⟩, ok3⟩ := hok
      have hst : P.underlying T = some (.struct (P.fieldsOf T)) := by
        unfold Program.fieldsOf
        split at ok3
        · rename_i fs hfs; rw [hfs]
        · simp at ok3
      cases hr : eqFieldsF P xs ys (P.fieldsOf T).toList with
      | none => rw [hr] at h; simp at h
      | some b =>
        rw [hr] at h; simp only [Option.bind_some] at h
        have e := eqFields_sound (P := P) 9998 hvs hus _ b hr
        have e2 := run_equalIn_struct (P := P) w 9999 T vs.toArray us.toArray hst ok1
        simp only [Sem.run_bind, run_eqGuard_agg w op T ox oy vs.toArray us.toArray ok2, Result.andThen_ok]
        cases op <;> simp only [eqlF] at h <;> cases h
        · exact ⟨.bool b, by rw [run_eql_struct, e2, e]; rfl, .bool _⟩
        · exact ⟨.bool (!b), by rw [run_neq_struct, e2, e]; rfl, .bool _⟩
    · simp at h
  · simp at h
end
end Go.Sx
/- Building structs and slices. -/
namespace Go.Sx
open Go

def valD1 : Value → Option D
  | .int k n => some (.int k n)
  | .bool b => some (.bool b)
  | .string s => some (.str s.data.toList)
  | .slice none 0 0 => some (.sl [])
  | _ => none

def valD : Value → Option D
  | .agg cs => (cs.toList.mapM valD1).map .agg
  | v => valD1 v

def putL {α : Type} (cs : List α) (off : Nat) : List α → List α
  | [] => cs
  | x :: xs => putL (cs.set off x) (off + 1) xs

theorem putL_length {α : Type} : ∀ (xs cs : List α) (off : Nat), (putL cs off xs).length = cs.length
  | [], _, _ => rfl
  | x :: xs, cs, off => by simp [putL, putL_length xs]

theorem putL_eq {α : Type} : ∀ (xs cs : List α) (off : Nat), off + xs.length ≤ cs.length → putL cs off xs = cs.take off ++ xs ++ cs.drop (off + xs.length)
  | [], cs, off, _ => by simp [putL]
  | x :: xs, cs, off, h => by
    simp at h
    rw [putL, putL_eq xs _ _ (by simp; omega)]
    have h1 : off < cs.length := by omega
    have t1 : (cs.set off x).take (off + 1) = cs.take off ++ [x] := by
      rw [List.take_succ_eq_append_getElem (by simpa using h1)]
      simp [List.take_set_of_le]
    have t2 : (cs.set off x).drop (off + 1 + xs.length) = cs.drop (off + (xs.length + 1)) := by
      rw [List.drop_set_of_lt (by omega)]
      congr 1
      omega
    rw [t1, t2]
    simp

theorem All2.putL {α β : Type} {R : α → β → Prop} : ∀ {xs : List α} {ys : List β} {cs : List α} {ds : List β} (off : Nat), All2 R cs ds → All2 R xs ys → All2 R (putL cs off xs) (putL ds off ys)
  | xs, [], cs, ds, off, h, hx => by have := hx.nil_right; subst this; exact h
  | xs, y :: ys, cs, ds, off, h, hx => by
    obtain ⟨x, xs', rfl, h1, h2⟩ := hx.cons_right
    exact All2.putL (off + 1) (h.set off h1) h2

theorem fold_put {off : Nat} : ∀ (xs : List Value) (k : Nat) (cs : Array Value),
    ((xs.zipIdx k).foldl (fun (cs : Array Value) (p : Value × Nat) => cs.setIfInBounds (off + p.2) p.1) cs).toList = putL cs.toList (off + k) xs
  | [], _, _ => rfl
  | x :: xs, k, cs => by
    simp only [List.zipIdx_cons, List.foldl_cons, putL]
    rw [fold_put xs (k + 1)]
    simp [Nat.add_assoc]

def fillL {β : Type} (place : Nat → Option (Nat × Nat)) (cells : List β) : List (Nat × List β) → Option (List β)
  | [] => some cells
  | (i, xs) :: rest =>
    match place i with
    | none => none
    | some (off, size) => if xs.length = size ∧ off + size ≤ cells.length then fillL place (putL cells off xs) rest else none

/-- An abstract value of one cell. -/
def isCell : AV → Bool
  | .d (.agg _) => false
  | .d _ => true
  | .ptr _ _ => true
  | .iptr _ => true
  | .clo _ _ _ => true
  | .full _ => true
  | .vec _ _ => true
  | .map _ => true
  | .yld _ => true
  | .nils => true
  | _ => false

def avCells : AV → Option (List AV)
  | .d x => some (x.cells.map .d)
  | .agg cs => if cs.all isCell then some cs else none
  | .any => none
  | .opt _ _ _ => none
  | .tup _ => none
  | a => some [a]

def zeroCell (v : Value) : AV :=
  match v with
  | .slice none 0 0 => .full []
  | v => match valD1 v with
    | some x => .d x
    | none => .any

section
variable {P : Program} {I : Nat → Nat → Prop} {J : Nat → Prop} {w : World}

theorem valD1_sound {v : Value} {x : D} (h : valD1 v = some x) : R1 I J w v x := by
  unfold valD1 at h
  split at h <;> cases h
  · exact .int _ _
  · exact .bool _
  · rename_i s
    have : s = ⟨s.data.toList.toArray⟩ := by cases s; simp
    rw [this]
    simp
    exact .str _
  · exact .nil

theorem mapM_valD1 : ∀ {vs : List Value} {xs : List D}, vs.mapM valD1 = some xs → All2 (R1 I J w) vs xs
  | [], xs, h => by simp at h; subst h; exact All2.nil
  | v :: vs, xs, h => by
    rw [List.mapM_cons] at h
    cases hv : valD1 v with
    | none => rw [hv] at h; simp at h
    | some y =>
      rw [hv] at h
      cases hr : vs.mapM valD1 with
      | none => rw [hr] at h; simp at h
      | some ys => rw [hr] at h; simp at h; subst h; exact All2.cons (valD1_sound hv) (mapM_valD1 hr)

theorem valD_sound {v : Value} {x : D} (h : valD v = some x) : RV I J w v x := by
  cases v with
  | agg cs =>
    simp only [valD] at h
    cases hm : cs.toList.mapM valD1 with
    | none => rw [hm] at h; simp at h
    | some xs => rw [hm] at h; simp at h; subst h; exact ⟨cs.toList, by simp, mapM_valD1 hm⟩
  | _ => exact (by simp only [valD] at h; exact (valD1_sound h).rv)

theorem fill_sound {β : Type} {R : Value → β → Prop} {place : Nat → Option (Nat × Nat)} : ∀ {parts : List (Nat × List β)} {vparts : List (Nat × Value)} {cs : Array Value} {ds out : List β},
    All2 (fun (p : Nat × Value) (q : Nat × List β) => p.1 = q.1 ∧ All2 R p.2.cells.toList q.2) vparts parts → All2 R cs.toList ds → fillL place ds parts = some out →
    ∃ cs', Instr.fill place cs vparts = some cs' ∧ All2 R cs'.toList out
  | [], vparts, cs, ds, out, hp, hc, h => by
    have := hp.nil_right; subst this
    simp [fillL] at h; subst h
    exact ⟨cs, rfl, hc⟩
  | (i, x) :: parts, vparts, cs, ds, out, hp, hc, h => by
    obtain ⟨⟨i', v⟩, vp, rfl, ⟨h1, h2⟩, hp'⟩ := hp.cons_right
    simp only at h1; subst h1
    simp only [fillL] at h
    cases hpl : place i' with
    | none => rw [hpl] at h; simp at h
    | some q =>
      obtain ⟨off, size⟩ := q
      rw [hpl] at h
      simp only at h
      split at h
      · rename_i hs
        have e1 : v.cells.size = size := by have := h2.1; simp at this; omega
        have e2 : cs.size = ds.length := by have := hc.1; simpa using this
        have hnot : ¬ ((decide (v.cells.size ≠ size) || decide (off + v.cells.size > cs.size)) = true) := by simp; omega
        have hfold : (v.cells.zipIdx.foldl (fun cs (x : Value × Nat) => cs.setIfInBounds (off + x.2) x.1) cs).toList = putL cs.toList off v.cells.toList := by
          rw [← Array.foldl_toList, Array.toList_zipIdx]
          exact fold_put _ _ _
        obtain ⟨cs', h3, h4⟩ := fill_sound (cs := v.cells.zipIdx.foldl (fun cs (x : Value × Nat) => cs.setIfInBounds (off + x.2) x.1) cs) hp' (by rw [hfold]; exact hc.putL off h2) h
        exact ⟨cs', by simp only [Instr.fill, hpl]; rw [if_neg hnot]; exact h3, h4⟩
      · simp at h
end

section
variable {P : Program} {c : Cx} {H : List Box} {w : World}

theorem R1.single {I : Nat → Nat → Prop} {J : Nat → Prop} {v : Value} {x : D} (h : R1 I J w v x) : v.cells.toList = [v] := by cases h <;> rfl

theorem isCell_one {a : AV} {v : Value} (h : RA c H w a v) (hc : isCell a = true) : v.oneCell' = true := by
  cases h with
  | @d x v h => cases x <;> first | (simp [isCell] at hc; done) | exact R1.oneCell h
  | _ => first | rfl | (simp [isCell] at hc; done)

theorem avCells_sound {a : AV} {v : Value} {cs : List AV} (h : RA c H w a v) (hc : avCells a = some cs) : All2 (fun v a => RA c H w a v) v.cells.toList cs ∧ ∀ u ∈ v.cells.toList, u.oneCell' = true := by
  cases h with
  | @d x v h =>
    simp [avCells] at hc; subst hc
    have h2 := h.cells
    refine ⟨⟨by simp [h2.1], fun i u y hu hy => ?_⟩, fun u hu => ?_⟩
    · simp only [List.getElem?_map] at hy
      cases hx : x.cells[i]? with
      | none => rw [hx] at hy; simp at hy
      | some z => rw [hx] at hy; simp at hy; subst hy; exact .d (h2.2 i u z hu hx).rv
    · obtain ⟨i, hi, he⟩ := List.mem_iff_getElem.1 hu
      have hi' : i < x.cells.length := by rw [← h2.1]; exact hi
      exact (h2.2 i u _ (by rw [List.getElem?_eq_getElem hi, he]) (List.getElem?_eq_getElem hi')).oneCell
  | ptr hH h => simp [avCells] at hc; subst hc; exact ⟨All2.cons (.ptr hH h) All2.nil, by intro u hu; simp [Value.cells] at hu; subst hu; rfl⟩
  | iptr h => simp [avCells] at hc; subst hc; exact ⟨All2.cons (.iptr h) All2.nil, by intro u hu; simp [Value.cells] at hu; subst hu; rfl⟩
  | clo a b h1 h2 => simp [avCells] at hc; subst hc; exact ⟨All2.cons (.clo a b h1 h2) All2.nil, by intro u hu; simp [Value.cells] at hu; subst hu; rfl⟩
  | full h => simp [avCells] at hc; subst hc; exact ⟨All2.cons (.full h) All2.nil, by intro u hu; simp [Value.cells] at hu; subst hu; rfl⟩
  | vec h a b d => simp [avCells] at hc; subst hc; exact ⟨All2.cons (.vec h a b d) All2.nil, by intro u hu; simp [Value.cells] at hu; subst hu; rfl⟩
  | map hH h => simp [avCells] at hc; subst hc; exact ⟨All2.cons (.map hH h) All2.nil, by intro u hu; simp [Value.cells] at hu; subst hu; rfl⟩
  | nils => simp [avCells] at hc; subst hc; exact ⟨All2.cons .nils All2.nil, by intro u hu; simp [Value.cells] at hu; subst hu; rfl⟩
  | tup => simp [avCells] at hc
  | @agg aas vs hl h =>
    simp only [avCells] at hc
    split at hc
    · rename_i hall
      simp only [Option.some.injEq] at hc; subst hc
      simp only [Value.cells]
      refine ⟨⟨hl.symm, fun i v a hv ha => h i a v ha hv⟩, fun u hu => ?_⟩
      obtain ⟨i, hi, he⟩ := List.mem_iff_getElem.1 hu
      have hi2 : i < vs.length := by simpa using hi
      have hi' : i < aas.length := by omega
      refine isCell_one (h i aas[i] u (by simp [hi']) ?_) (List.all_eq_true.1 hall _ (List.getElem_mem hi'))
      have he' : vs[i] = u := he
      simp [hi2, he']
    · simp at hc
  | any => simp [avCells] at hc
  | opt => simp [avCells] at hc
  | yld hH h => simp [avCells] at hc; subst hc; exact ⟨All2.cons (.yld hH h) All2.nil, by intro u hu; simp [Value.cells] at hu; subst hu; rfl⟩

theorem zeroCell_sound (v : Value) : RA c H w (zeroCell v) v := by
  unfold zeroCell
  split
  · exact .full .nil
  · split
    · rename_i x hx; exact .d (valD1_sound hx).rv
    · exact .any v

theorem All2.zero : ∀ (vs : List Value), All2 (fun v a => RA c H w a v) vs (vs.map zeroCell)
  | [] => All2.nil
  | v :: vs => All2.cons (zeroCell_sound v) (All2.zero vs)
end
end Go.Sx
/- Building structs and slices, run. -/
namespace Go.Sx
open Go

section
variable {P : Program} {w : World}

theorem run_mapM_list {α β : Type} {f : α → Sem β} {g : α → β} : ∀ (l : List α), (∀ x ∈ l, (f x).run P w = .ok (g x) w) → (l.mapM f).run P w = .ok (l.map g) w
  | [], _ => by simp
  | x :: l, h => by
    rw [List.mapM_cons]
    simp only [Sem.run_bind, h x (by simp), Result.andThen_ok, run_mapM_list l (fun y hy => h y (by simp [hy])), Sem.run_pure, List.map_cons]

theorem run_mapM_array {α β : Type} {f : α → Sem β} {g : α → β} (a : Array α) (h : ∀ x ∈ a.toList, (f x).run P w = .ok (g x) w) : (a.mapM f).run P w = .ok (a.toList.map g).toArray w := by
  rw [Array.mapM_eq_mapM_toList]
  simp only [Sem.run_map, run_mapM_list a.toList h, Result.andThen_ok]

def zeroV (P : Program) (T : TypeId) : Option Value := (P.info? T).bind (·.zero)

theorem run_zeroV {T : TypeId} {z : Value} (h : zeroV P T = some z) : (zeroValue T).run P w = .ok z w := by
  unfold zeroV at h
  cases hi : P.info? T with
  | none => rw [hi] at h; simp at h
  | some i => rw [hi] at h; simp at h; simp [zeroValue, typeInfo, hi, h]

def placeOf (P : Program) (fs : Array Field) (i : Nat) : Option (Nat × Nat) := (fs[i]?).map fun f => (f.offset, (szOf P f.type).getD 0)

def fieldsOk (P : Program) (fs : Array Field) : Bool := fs.toList.all fun f => (szOf P f.type).isSome

/-- A struct, built. -/
def buildF (P : Program) (T : TypeId) (parts : List (Nat × List AV)) : Option AV :=
  match P.underlying T, zeroV P T with
  | some (.struct fs), some (.agg zs) => if fieldsOk P fs then (fillL (placeOf P fs) (zs.toList.map zeroCell) parts).map .agg else none
  | some (.array _ E), some (.agg zs) =>
    match szOf P E with
    | some n => (fillL (fun i => some (i * n, n)) (zs.toList.map zeroCell) parts).map .agg
    | none => none
  | _, _ => none

theorem buildF_sound {c : Cx} {H : List Box} {T : TypeId} {parts : List (Nat × List AV)} {vparts : List (Nat × Value)} {x : AV}
    (h : buildF P T parts = some x) (hp : All2 (fun (p : Nat × Value) (q : Nat × List AV) => p.1 = q.1 ∧ All2 (fun v a => RA c H w a v) p.2.cells.toList q.2) vparts parts) :
    ∃ v, (Instr.build T vparts.toArray).run P w = .ok v w ∧ RA c H w x v := by
  unfold buildF at h
  split at h
  · rename_i fs zs hu hz
    split at h
    · rename_i hok
      cases hf : fillL (placeOf P fs) (zs.toList.map zeroCell) parts with
      | none => rw [hf] at h; simp at h
      | some out =>
        rw [hf] at h; simp at h; subst h
        obtain ⟨cs', h3, h4⟩ := fill_sound (cs := zs) hp (All2.zero (c := c) (H := H) (w := w) zs.toList) hf
        have hpl : (fs.mapM fun f => do pure (f.offset, ← sizeOf f.type) : Sem (Array (Nat × Nat))).run P w = .ok (fs.toList.map fun f => (f.offset, (szOf P f.type).getD 0)).toArray w := by
          refine run_mapM_array fs fun f hf => ?_
          have : (szOf P f.type).isSome = true := by
            have := List.all_eq_true.1 hok f hf; simpa using this
          obtain ⟨n, hn⟩ := Option.isSome_iff_exists.1 this
          simp [run_szOf hn, hn]
        have hpe : (fun i => ((fs.toList.map fun f => (f.offset, (szOf P f.type).getD 0)).toArray)[i]?) = placeOf P fs := by
          funext i; simp [placeOf]
        refine ⟨.agg cs', ?_, ?_⟩
        · simp only [Instr.build, Sem.run_bind, run_zeroV hz, Result.andThen_ok, run_underlying hu, hpl, Value.cells]
          rw [hpe, h3]
          rfl
        · have := RA.agg (c := c) (H := H) (w := w) (aas := out) (vs := cs'.toList) h4.1.symm fun i a v ha hv => h4.2 i v a hv ha
          simpa using this
    · simp at h
  · rename_i m E zs hu hz
    split at h
    · rename_i n hs
      cases hf : fillL (fun i => some (i * n, n)) (zs.toList.map zeroCell) parts with
      | none => rw [hf] at h; simp at h
      | some out =>
        rw [hf] at h; simp at h; subst h
        obtain ⟨cs', h3, h4⟩ := fill_sound (cs := zs) hp (All2.zero (c := c) (H := H) (w := w) zs.toList) hf
        refine ⟨.agg cs', ?_, ?_⟩
        · simp only [Instr.build, Sem.run_bind, run_zeroV hz, Result.andThen_ok, run_underlying hu, Value.cells, run_szOf hs]
          rw [h3]
          rfl
        · have := RA.agg (c := c) (H := H) (w := w) (aas := out) (vs := cs'.toList) h4.1.symm fun i a v ha hv => h4.2 i v a hv ha
          simpa using this
    · simp at h
  · simp at h

/-! slices -/
theorem fill_row {size : Nat} : ∀ (vs : List Value) (k : Nat) (cs : Array Value), (∀ v ∈ vs, v.cells.size = size) → (k + vs.length) * size ≤ cs.size →
    ∃ cs', Instr.fill (fun i => some (i * size, size)) cs ((vs.zipIdx k).map fun p => (p.2, p.1)) = some cs' ∧ cs'.size = cs.size ∧
      cs'.toList = cs.toList.take (k * size) ++ (vs.map fun v => v.cells.toList).flatten ++ cs.toList.drop ((k + vs.length) * size)
  | [], k, cs, _, _ => ⟨cs, rfl, rfl, by simp⟩
  | v :: vs, k, cs, hv, hs => by
    have e1 := hv v (by simp)
    have hmul : (k + (vs.length + 1)) * size = k * size + size + vs.length * size := by rw [Nat.add_mul, Nat.add_mul]; omega
    simp only [List.length_cons] at hs
    have hfold : (v.cells.zipIdx.foldl (fun cs (x : Value × Nat) => cs.setIfInBounds (k * size + x.2) x.1) cs).toList = putL cs.toList (k * size) v.cells.toList := by
      rw [← Array.foldl_toList, Array.toList_zipIdx]
      exact fold_put _ _ _
    have hsz : (v.cells.zipIdx.foldl (fun cs (x : Value × Nat) => cs.setIfInBounds (k * size + x.2) x.1) cs).size = cs.size := by
      have := congrArg List.length hfold
      rw [putL_length] at this
      simpa using this
    obtain ⟨cs', h3, h4, h5⟩ := fill_row vs (k + 1) (v.cells.zipIdx.foldl (fun cs (x : Value × Nat) => cs.setIfInBounds (k * size + x.2) x.1) cs) (fun u hu => hv u (by simp [hu])) (by rw [hsz, show k + 1 + vs.length = k + (vs.length + 1) by omega]; exact hs)
    have hnot : ¬ ((decide (v.cells.size ≠ size) || decide (k * size + v.cells.size > cs.size)) = true) := by simp; omega
    refine ⟨cs', ?_, by rw [h4, hsz], ?_⟩
    · simp only [List.zipIdx_cons, List.map_cons, Instr.fill]
      rw [if_neg hnot]
      exact h3
    · have hl : v.cells.toList.length = size := by simpa using e1
      rw [h5, hfold, putL_eq _ _ _ (by simp; omega), hl]
      have a1 : (k + 1) * size = k * size + size := by rw [Nat.add_mul]; omega
      have a2 : (k + 1 + vs.length) * size = k * size + size + vs.length * size := by rw [Nat.add_mul, Nat.add_mul]; omega
      have hk : (cs.toList.take (k * size)).length = k * size := by simp; omega
      have l1 : (cs.toList.take (k * size) ++ v.cells.toList).length = k * size + size := by rw [List.length_append, hk, hl]
      rw [a1, a2, List.take_append_of_le_length (by omega), List.take_of_length_le (by omega), List.drop_append, l1]
      rw [List.drop_eq_nil_of_le (by omega)]
      simp only [List.nil_append, List.drop_drop, List.map_cons, List.flatten_cons, List.length_cons, hmul]
      rw [show k * size + size + (k * size + size + vs.length * size - (k * size + size)) = k * size + size + vs.length * size by omega]
      simp

theorem flat_get {α : Type} {sz : Nat} : ∀ (L : List (List α)) (i j : Nat), (∀ l ∈ L, l.length = sz) → j < sz → L.flatten[i * sz + j]? = (L[i]?).bind fun l => l[j]?
  | [], i, j, _, _ => by simp
  | l :: L, 0, j, h, hj => by
    have := h l (by simp)
    simp [List.getElem?_append_left (show j < l.length by omega)]
  | l :: L, i + 1, j, h, hj => by
    have hl := h l (by simp)
    have ih := flat_get L i j (fun x hx => h x (by simp [hx])) hj
    have e : (i + 1) * sz + j = l.length + (i * sz + j) := by rw [Nat.add_mul, hl]; omega
    rw [List.flatten_cons, e, List.getElem?_append_right (by omega)]
    simp only [Nat.add_sub_cancel_left, List.getElem?_cons_succ]
    exact ih

/-- A row of values in a new block, read as a list of data. -/
theorem R1.new_row {c : Cx} {H : List Box} {sz cap : Nat} {vs : List Value} {ds : List D} {T : TypeId} {fr : Nat × Nat} (hR : HR c H w) (h : All2 (RV c.I c.J w) vs ds) (hsz : ∀ d ∈ ds, d.cells.length = sz)
    (rest : List Value) (hcap : ds.length ≤ cap) :
    R1 (c.imm w.heap.size (ds.length * sz)).I (c.imm w.heap.size (ds.length * sz)).J { w with heap := w.heap.push (.cells ((vs.map fun v => v.cells.toList).flatten ++ rest).toArray T fr) } (.slice (some ⟨w.heap.size, 0, none⟩) ds.length cap) (.sl ds) := by
  have e := Ext.push_imm c w (.cells ((vs.map fun v => v.cells.toList).flatten ++ rest).toArray T fr) (ds.length * sz) hR.ilt hR.jlt
  have hall : ∀ l ∈ vs.map (fun v => v.cells.toList), l.length = sz := by
    intro l hl
    obtain ⟨v, hv, rfl⟩ := List.mem_map.1 hl
    obtain ⟨i, hi, he⟩ := List.mem_iff_getElem.1 hv
    have hi' : i < ds.length := by rw [← h.1]; exact hi
    have := h.2 i v ds[i] (by simp [hi, he]) (by simp [hi'])
    rw [this.cells.1]
    exact hsz _ (List.getElem_mem _)
  have hget : ∀ i j d, cellAt ds i j = some d → ∃ u, ((vs.map fun v => v.cells.toList).flatten)[i * sz + j]? = some u ∧ R1 c.I c.J w u d ∧ i * sz + j < ds.length * sz := by
    intro i j d hd
    unfold cellAt at hd
    cases hi : ds[i]? with
    | none => rw [hi] at hd; simp at hd
    | some x =>
      rw [hi] at hd; simp only [Option.bind_some] at hd
      obtain ⟨v, hv, hr⟩ := h.get hi
      obtain ⟨u, hu, hr'⟩ := hr.cells.get hd
      have hil : i < ds.length := by rcases Nat.lt_or_ge i ds.length with h' | h'; exact h'; simp [List.getElem?_eq_none h'] at hi
      have hj : j < sz := by
        have : j < x.cells.length := by rcases Nat.lt_or_ge j x.cells.length with h' | h'; exact h'; simp [List.getElem?_eq_none h'] at hd
        rw [hsz x (List.mem_of_getElem? hi)] at this; exact this
      refine ⟨u, ?_, hr', ?_⟩
      · rw [flat_get _ _ _ hall hj]
        simp [hv]
        simpa using hu
      · calc i * sz + j < i * sz + sz := by omega
          _ = (i + 1) * sz := by rw [Nat.add_mul]; omega
          _ ≤ ds.length * sz := Nat.mul_le_mul_right _ hil
  refine R1.sl (I := (c.imm w.heap.size (ds.length * sz)).I) w.heap.size 0 cap sz ds (fun i j => (((vs.map fun v => v.cells.toList).flatten)[i * sz + j]?).getD undef) hsz ?_ ?_ hcap
  · intro i j d hd
    obtain ⟨u, hu, _, hlt⟩ := hget i j d hd
    refine ⟨.inr ⟨rfl, by omega⟩, ?_⟩
    have hlen : i * sz + j < ((vs.map fun v => v.cells.toList).flatten).length := by
      rcases Nat.lt_or_ge (i * sz + j) ((vs.map fun v => v.cells.toList).flatten).length with h' | h'
      · exact h'
      · simp only [List.getElem?_eq_none h'] at hu; simp at hu
    simp only [Nat.zero_add, World.cell?, Array.getElem?_push_size]
    simp only [Option.isSome_none, Bool.false_eq_true, if_false, List.getElem?_toArray]
    rw [List.getElem?_append_left hlen, hu]
    rfl
  · intro i j d hd
    obtain ⟨u, hu, hr, _⟩ := hget i j d hd
    simp only [hu, Option.getD_some]
    exact hr.ext e
end
end Go.Sx
/- The operations that change no box: what they give, and that it is so. -/
namespace Go.Sx
open Go

def ev (G : Nat → Option (List D)) (get : Nat → AV) : Operand → AV
  | .tmp t => get t
  | .const v => match v with
    | .slice none 0 0 => .full []
    | v => match valD v with
      | some x => .d x
      | none => .any
  | .global g => match G g with
    | some cs => .iptr cs
    | none => .any
  | .func f => .d (.fn f)

/-- The package's variables that are known: nobody writes them. -/
def GR (G : Nat → Option (List D)) (c : Cx) (w : World) : Prop :=
  ∀ g cs, G g = some cs → ∀ (j : Nat) x, cs[j]? = some x → c.I g j ∧ ∃ v, w.cell? ⟨g, j, none⟩ = some v ∧ R1 c.I c.J w v x

theorem GR.ext {G c w c' w'} (e : Ext c w c' w') (h : GR G c w) : GR G c' w' := by
  intro g cs hg j x hx
  obtain ⟨h1, v, h2, h3⟩ := h g cs hg j x hx
  exact ⟨e.isub _ _ h1, v, by rw [e.icell _ _ h1]; exact h2, h3.ext e⟩

def avSl : AV → Option (List D)
  | .d (.sl ds) => some ds
  | .full ds => some ds
  | .nils => some []
  | .vec _ ds => some ds
  | _ => none

def sameKind : D → D → Bool
  | .int k _, .int k' _ => decide (k = k')
  | .bool _, .bool _ => true
  | .str _, .str _ => true
  | _, _ => false

def beqD : D → D → Bool
  | .int _ a, .int _ b => a == b
  | .bool a, .bool b => a == b
  | .str s, .str t => s == t
  | _, _ => false

def lookD (es : List (D × D)) (k : D) : Option D := (es.find? fun kv => beqD k kv.1).map (·.2)

def Sh.ok : Sh → D → Bool
  | .int k, .int k' _ => decide (k = k')
  | .bool, .bool _ => true
  | .str, .str _ => true
  | .sl, .sl _ => true
  | .fn, .fn _ => true
  | _, _ => false

theorem Sh.norm_ok {sh : Sh} {x : D} (h : sh.ok x = true) : sh.norm x = x := by
  cases sh <;> cases x <;> simp [Sh.ok, Sh.norm, D.toInt, D.toBool, D.toStr, D.toSl, D.toFn] at h ⊢
  exact h

def keyOk : TypeDesc → D → Bool
  | .int _, .int _ _ => true
  | .string, .str _ => true
  | .bool, .bool _ => true
  | _, _ => false

/-- A look-up in a map of plain keys and elements of one cell. -/
def lookF (P : Program) (T : TypeId) (es : List (D × D)) (k : D) (commaOk : Bool) : Option (AV × Prop) :=
  match P.underlying T with
  | some (.map K E) =>
    match P.underlying K, zeroV P E, shapes P 2 E with
    | some kd, some z, some [sh] =>
      match valD1 z with
      | some zd =>
        if keyOk kd k && sh.ok zd then
          let r := sh.norm ((lookD es k).getD zd)
          let F : Prop := (es.all fun kv => sameKind k kv.1 && sh.ok kv.2) = true
          some (if commaOk then .tup [.d r, .d (.bool (lookD es k).isSome)] else .d r, F)
        else none
      | none => none
    | _, _, _ => none
  | _ => none

def isStr (P : Program) (T : TypeId) : Bool := P.underlying T matches some .string

/-- The bounds of a slice expression, of which the upper one is not beyond the length. -/
def boundsF (n : Nat) (lo hi : Option AV) : Option (Int × Int × Prop) :=
  match lo, hi with
  | none, none => some (0, n, True)
  | some (.d (.int _ l)), none => some (l, n, 0 ≤ l ∧ l ≤ n)
  | none, some (.d (.int _ h)) => some (0, h, 0 ≤ h ∧ h ≤ n)
  | some (.d (.int _ l)), some (.d (.int _ h)) => some (l, h, 0 ≤ l ∧ l ≤ h ∧ h ≤ n)
  | _, _ => none

/-- Data of one size. -/
def allSz (ds : List D) (sz : Nat) : Bool := ds.all fun d => d.cells.length == sz

def nilA : AV → Option Bool
  | .nils => some true
  | .d (.sl (_ :: _)) => some false
  | .full (_ :: _) => some false
  | .vec _ (_ :: _) => some false
  | _ => none

/-- A slice held against nil. -/
def nilF (P : Program) (op : BinOp) (T : TypeId) (a : AV) (y : Operand) : Option Bool :=
  match op, y with
  | .eql, .const (.slice none 0 0) => match P.underlying T with
    | some (.slice _) => nilA a
    | _ => none
  | .neq, .const (.slice none 0 0) => match P.underlying T with
    | some (.slice _) => (nilA a).map not
    | _ => none
  | _, _ => none

def rowFrom : List Sh → List D → Nat → List D
  | [], _, _ => []
  | s :: r, cs, k => s.norm ((cs[k]?).getD default) :: rowFrom r cs (k + 1)
/-- The i-th element of an array's cells, in the form of its type's cells. -/
def arrCells (P : Program) (E : TypeId) (cs : List D) (sz i : Nat) : Option (List D) :=
  match shapes P 9 E with
  | some shs => if shs.length = sz then some (rowFrom shs cs (i * sz)) else none
  | none => none

def opF (P : Program) (e : Operand → AV) (H : List Box) : Op → Option (AV × Prop)
  | .move x => some (e x, True)
  | .assign x => some (e x, True)
  | .load T a =>
    match e a with
    | .ptr l o => match H[l]? with
      | some (.cells _ cs) => (loadA P T (cs.drop o)).map fun r => (r, True)
      | _ => none
    | .iptr cs => (loadA P T (cs.map AV.d)).map fun r => (r, True)
    | _ => none
  | .fieldAddr T x f =>
    match P.underlying T with
    | some (.struct fs) => match fs[f]? with
      | some fd => match szOf P fd.type with
        | some (_ + 1) => match e x with
          | .ptr l o => some (.ptr l (o + fd.offset), True)
          | .iptr cs => some (.iptr (cs.drop fd.offset), True)
          | _ => none
        | _ => none
      | none => none
    | _ => none
  | .indexAddr T x i =>
    match P.underlying T, e i with
    | some (.slice E), .d (.int _ n) => match avSl (e x), aggB P E, szOf P E with
      | some ds, some ag, some sz => match elemCells P E ds n.toNat with
        | some cs => if cs.length = sz then some (.iptr cs, 0 ≤ n ∧ ds[n.toNat]? = some (mkD ag cs)) else none
        | none => none
      | _, _, _ => none
    | some (.array m E), .d (.int _ n) => match szOf P E with
      | some sz => match e x with
        | .ptr l o => some (.ptr l (o + n.toNat * sz), 0 ≤ n ∧ n < m)
        | .iptr cs => match arrCells P E cs sz n.toNat with
          | some xs => some (.iptr xs, (0 ≤ n ∧ n < m) ∧ (cs.drop (n.toNat * sz)).take sz = xs)
          | none => none
        | _ => none
      | none => none
    | _, _ => none
  | .index T x i =>
    match P.underlying T, e x, e i with
    | some .string, .d (.str s), .d (.int _ n) => some (.d (.int .u8 (s.getD n.toNat 0).toNat), 0 ≤ n ∧ n.toNat < s.length)
    | _, _, _ => none
  | .unOp .not _ x =>
    match e x with
    | .d (.bool b) => some (.d (.bool (!b)), True)
    | _ => none
  | .unOp .neg _ x =>
    match e x with
    | .d (.int k n) => some (.d (.int k (k.wrap (0 - n))), True)
    | _ => none
  | .binOp op T x y _ =>
    match nilF P op T (e x) y with
    | some r => some (.d (.bool r), True)
    | none => match avD (e x), avD (e y) with
      | some a, some b => (binF P op T a b).map fun r => (.d r.1, r.2)
      | _, _ => none
  | .convert S T x =>
    match P.underlying S, P.underlying T, e x with
    | some _, some (.int k), .d (.int _ n) => some (.d (.int k (k.wrap n)), True)
    | some _, some .string, .d (.str s) => some (.d (.str s), True)
    | _, _, _ => none
  | .extract t i =>
    match e t with
    | .tup vs => (vs[i]?).map fun a => (a, True)
    | _ => none
  | .build T parts =>
    match parts.toList.mapM (fun (p : Nat × Operand) => (avCells (e p.2)).map fun x => (p.1, x)) with
    | some ps => (buildF P T ps).map fun x => (x, True)
    | none => none
  | .buildSlice T len parts =>
    match P.underlying T with
    | some (.slice E) => match szOf P E, zeroV P E, parts.toList.mapM (fun (p : Nat × Operand) => avD (e p.2)) with
      | some sz, some _, some ds =>
        if parts.toList.map (·.1) = List.range len ∧ (ds.all fun d => d.cells.length == sz) = true ∧ len * sz ≤ 2 ^ 24 then some (.full ds, True) else none
      | _, _, _ => none
    | _ => none
  | .makeFunc (.func f) first cap => some (.clo f (first.toList.map e) (cap.toList.map e), True)
  | .lookup T x k ok =>
    match e x, avD1 (e k) with
    | .d (.gmap es), some kd => lookF P T es kd ok
    | .map l, some kd => match H[l]? with
      | some (.map es) => lookF P T es kd ok
      | _ => none
    | _, _ => none
  | .slice T x lo hi none =>
    match P.underlying T, e x with
    | some .string, .d (.str s) => match boundsF s.length (lo.map e) (hi.map e) with
      | some (l, h, F) => some (.d (.str ((s.take h.toNat).drop l.toNat)), F)
      | none => none
    | some (.slice E), a => match avSl a, szOf P E with
      | some ds, some sz => match boundsF ds.length (lo.map e) (hi.map e) with
        | some (l, h, F) => some (.d (.sl ((ds.take h.toNat).drop l.toNat)), F ∧ allSz ds sz = true)
        | none => none
      | _, _ => none
    | some (.array m E), .iptr cs => match szOf P E with
      | some sz => if sz = 1 ∧ m ≤ cs.length then match boundsF m (lo.map e) (hi.map e) with
          | some (l, h, F) => some (.d (.sl (((cs.take m).take h.toNat).drop l.toNat)), F)
          | none => none
        else none
      | none => none
    | _, _ => none
  | .nilCheck x =>
    match e x with
    | .ptr l o => some (.ptr l o, True)
    | .iptr cs => some (.iptr cs, True)
    | .clo f a b => some (.clo f a b, True)
    | .d (.fn f) => some (.d (.fn f), True)
    | _ => none
  | .call { callee := .builtin .len, args, argTypes } =>
    match args.toList, argTypes.toList with
    | [x], [T] => match P.underlying T, e x with
      | some .string, .d (.str s) => some (.d (.int .i64 s.length), True)
      | some (.slice _), a => (avSl a).map fun ds => (.d (.int .i64 ds.length), True)
      | _, _ => none
    | _, _ => none
  | .call { callee := .builtin .max, args, argTypes := _ } =>
    match args.toList with
    | [x, y] => match e x, e y with
      | .d (.int k a), .d (.int k' b) => if k = k' then some (.d (.int k (if b > a then b else a)), True) else none
      | _, _ => none
    | _ => none
  | .slice T x none (some hi) (some mx) =>
    match P.underlying T, avSl (e x), e hi, e mx with
    | some (.slice E), some ds, .d (.int _ h), .d (.int _ m) => match szOf P E with
      | some _ => some (.full (ds.take h.toNat), 0 ≤ h ∧ h ≤ ds.length ∧ m = h)
      | none => none
    | _, _, _, _ => none
  | _ => none

/-- What is to be shown of an operation that changes no box. -/
def Done (P : Program) (c : Cx) (H : List Box) (w : World) (s : Sem Value) (a : AV) : Prop :=
  ∃ v w' c', s.run P w = .ok v w' ∧ Ext c w c' w' ∧ Keep c H c' H ∧ HR c' H w' ∧ RA c' H w' a v

theorem Done.pure {P c H w s a v} (hR : HR c H w) (h : Sem.run P s w = .ok v w) (ha : RA c H w a v) : Done P c H w s a :=
  ⟨v, w, c, h, Ext.refl _ _, Keep.refl _ _, hR, ha⟩

section
variable {P : Program} {c : Cx} {H : List Box} {w : World} {e : Operand → AV} {r : Operand → Value}

theorem avSl_sound {a : AV} {v : Value} {ds : List D} (h : RA c H w a v) (he : avSl a = some ds) : ∃ ad n k, v = .slice ad n k ∧ R1 c.I c.J w v (.sl ds) ∧ n = ds.length := by
  have key : R1 c.I c.J w v (.sl ds) := by
    cases h with
    | @d x v h => cases x <;> simp [avSl] at he; subst he; exact h
    | full h => simp [avSl] at he; subst he; exact h
    | nils => simp [avSl] at he; subst he; exact .nil
    | vec h => simp [avSl] at he; subst he; exact h
    | _ => simp [avSl] at he
  have k2 := key
  cases k2 with
  | nil => exact ⟨_, _, _, rfl, key, rfl⟩
  | emp => exact ⟨_, _, _, rfl, key, rfl⟩
  | sl => exact ⟨_, _, _, rfl, key, rfl⟩

theorem load_sound {T : TypeId} {x : Operand} {a : AV} (hR : HR c H w) (he : RA c H w (e x) (r x))
    (h : (match e x with
      | .ptr l o => match H[l]? with
        | some (.cells _ cs) => (loadA P T (cs.drop o)).map fun r => (r, True)
        | _ => none
      | .iptr cs => (loadA P T (cs.map AV.d)).map fun r => (r, True)
      | _ => none : Option (AV × Prop)) = some (a, True)) : Done P c H w (Instr.loadAt T (r x)) a := by
  generalize e x = ex at *
  generalize r x = rx at *
  cases he with
  | @ptr l o b k T' cs hH hl =>
    simp only [hH] at h
    cases hla : loadA P T (cs.drop o) with
    | none => rw [hla] at h; simp at h
    | some a' =>
      rw [hla] at h; simp at h; subst h
      obtain ⟨vs, hw, hv⟩ := hR.box l b k _ hl hH
      obtain ⟨v, h1, h2⟩ := loadA_sound (b := b) (o := o) hla (hv.drop o) (fun j v hj => by
        simp only [List.getElem?_drop] at hj
        simp [World.cell?, hw, hj])
      exact Done.pure hR h1 h2
  | @iptr cs b o hc =>
    simp only at h
    cases hla : loadA P T (cs.map AV.d) with
    | none => rw [hla] at h; simp at h
    | some a' =>
      rw [hla] at h; simp at h; subst h
      let vs : List Value := (List.range cs.length).map fun j => (w.cell? ⟨b, o + j, none⟩).getD undef
      have hv : ∀ (j : Nat) v, vs[j]? = some v → j < cs.length ∧ w.cell? ⟨b, o + j, none⟩ = some v := by
        intro j v hj
        have hlt : j < cs.length := by
          rcases Nat.lt_or_ge j cs.length with h' | h'
          · exact h'
          · simp [vs, List.getElem?_eq_none (show (List.range cs.length).length ≤ j by simpa using h')] at hj
        simp [vs, hlt] at hj
        obtain ⟨_, u, hu, _⟩ := hc j cs[j] (by simp [hlt])
        rw [hu] at hj; simp at hj; subst hj
        exact ⟨hlt, hu⟩
      obtain ⟨v, h1, h2⟩ := loadA_sound (c := c) (H := H) (b := b) (o := o) hla (vs := vs) ⟨by simp [vs], fun j u y hu hy => by
        obtain ⟨hlt, hcell⟩ := hv j u hu
        simp [hlt] at hy
        obtain ⟨_, u', hu', hr'⟩ := hc j cs[j] (by simp [hlt])
        rw [hu'] at hcell; simp at hcell; subst hcell
        subst hy
        exact .d hr'.rv⟩ (fun j u hu => (hv j u hu).2)
      exact Done.pure hR h1 h2
  | _ => simp at h

theorem arr_index_sound {T E m : Nat} {i : Operand} {x : Operand} {n : Int} {k : IntKind} {sz : Nat} {a : AV} {F : Prop} (hR : HR c H w) (hu : P.underlying T = some (.array m E)) (hs : szOf P E = some sz) (hi : r i = .int k n) (hx : RA c H w (e x) (r x))
    (h : (match e x with
        | .ptr l o => some (.ptr l (o + n.toNat * sz), 0 ≤ n ∧ n < m)
        | .iptr cs => match arrCells P E cs sz n.toNat with
          | some xs => some (.iptr xs, (0 ≤ n ∧ n < m) ∧ (cs.drop (n.toNat * sz)).take sz = xs)
          | none => none
        | _ => none : Option (AV × Prop)) = some (a, F)) (hF : F) : Done P c H w (Instr.indexAt T (r x) (r i)) a := by
  have run : ∀ b o, 0 ≤ n → n < m → (Instr.indexAt T (.pointer (some ⟨b, o, none⟩)) (.int k n)).run P w = .ok (.pointer (some ⟨b, o + n.toNat * sz, none⟩)) w := by
    intro b o h0 h1
    simp [Instr.indexAt, asIntOf, run_underlying hu, run_szOf hs, h0, h1, add_none, Instr.sureAddr]
  rw [hi]
  generalize e x = ex at *
  generalize r x = rx at *
  cases hx with
  | ptr hH hl =>
    cases h
    exact Done.pure hR (run _ _ hF.1 hF.2) (.ptr hH hl)
  | @iptr cs b o hc =>
    simp only at h
    split at h
    · cases h
      obtain ⟨⟨h0, h1⟩, h2⟩ := hF
      refine Done.pure hR (run _ _ h0 h1) (.iptr fun j y hy => ?_)
      rw [← h2, List.getElem?_take] at hy
      split at hy
      · rw [List.getElem?_drop] at hy
        have := hc _ _ hy
        rw [← Nat.add_assoc] at this
        exact this
      · cases hy
    · cases h
  | _ => simp at h

theorem index_sound {T E : TypeId} {v : Value} {ds cs : List D} {k : IntKind} {n : Int} {ag : Bool} {sz : Nat} (hR : HR c H w) (hu : P.underlying T = some (.slice E)) (hs : szOf P E = some sz)
    (hv : R1 c.I c.J w v (.sl ds)) (hag : ag = true ∨ cs.length = 1) (hna : ag = false → ∀ xs, cs.getD 0 default ≠ .agg xs) (hl : cs.length = sz) (h0 : 0 ≤ n) (hd : ds[n.toNat]? = some (mkD ag cs)) :
    Done P c H w (Instr.indexAt T v (.int k n)) (.iptr cs) := by
  have hcells : (mkD ag cs).cells = cs := by
    unfold mkD
    cases ag with
    | true => rfl
    | false =>
      have h1 : cs.length = 1 := by rcases hag with h | h; simp at h; exact h
      have h2 := hna rfl
      match cs, h1 with
      | [x], _ =>
        simp at h2 ⊢
        cases x <;> first | rfl | exact absurd rfl (h2 _)
  cases hv with
  | nil => simp at hd
  | emp => simp at hd
  | sl b off cap sz' ds vals hsz hc hr hcap =>
    have hlt : n.toNat < ds.length := by rcases Nat.lt_or_ge n.toNat ds.length with h' | h'; exact h'; simp [List.getElem?_eq_none h'] at hd
    have e1 : sz' = sz := by
      have := hsz _ (List.mem_of_getElem? hd)
      rw [hcells] at this; omega
    subst e1
    refine Done.pure hR (run_indexAt hu hs h0 (by omega)) (.iptr fun j x hx => ?_)
    have hca : cellAt ds n.toNat j = some x := by simp [cellAt, hd, hcells, hx]
    obtain ⟨i1, i2⟩ := hc _ _ _ hca
    exact ⟨i1, _, i2, hr _ _ _ hca⟩
end
end Go.Sx
/- The operations that change no box, all together. -/
namespace Go.Sx
open Go

theorem norm_not_agg (sh : Sh) (x : D) (xs : List D) : sh.norm x ≠ .agg xs := by cases sh <;> simp [Sh.norm]

theorem elemCells_not_agg {P T ds i cs} (h : elemCells P T ds i = some cs) : ∀ x ∈ cs, ∀ xs, x ≠ .agg xs := by
  unfold elemCells at h
  cases hs : shapes P 9 T with
  | none => rw [hs] at h; simp at h
  | some shs =>
    rw [hs] at h
    simp at h
    subst h
    intro x hx xs
    obtain ⟨p, _, rfl⟩ := List.mem_map.1 hx
    exact norm_not_agg _ _ _

theorem shapes_one {P n T shs} (h : shapes P (n + 1) T = some shs) (ha : aggB P T = some false) : shs.length = 1 := by
  unfold shapes at h
  unfold aggB at ha
  split at h <;> first
    | (simp at h; subst h; rfl)
    | (rename_i hu; rw [hu] at ha; simp at ha)
    | (simp at h)

section
variable {P : Program} {c : Cx} {H : List Box} {w : World} {e : Operand → AV} {r : Operand → Value}

theorem sameNow_sound {kd : TypeDesc} {k x : D} {v u : Value} (hk : keyOk kd k = true)
    (hs : sameKind k x = true) (hv : R1 c.I c.J w v k) (hu : R1 c.I c.J w u x) : Instr.sameNow kd v u = some (beqD k x) := by
  cases hv <;> cases hu <;> simp [sameKind] at hs <;> cases kd <;> simp [keyOk] at hk <;> simp [Instr.sameNow, beqD]
  · exact hs
  · rw [beq_toListBytes]; simp

theorem findNow_sound {kd : TypeDesc} {k : D} {v : Value} (hk : keyOk kd k = true) (hv : R1 c.I c.J w v k) :
    ∀ (es : List (D × D)) (ents : List MapEntry) (i : Nat), All2 (fun (x : MapEntry) (kv : D × D) => R1 c.I c.J w x.key kv.1 ∧ R1 c.I c.J w x.val kv.2) ents es → (∀ kv ∈ es, sameKind k kv.1 = true) →
    (lookD es k = none → Instr.findNow kd v ents i = some none) ∧ (∀ x, lookD es k = some x → ∃ j u, Instr.findNow kd v ents i = some (some (j, u)) ∧ R1 c.I c.J w u x)
  | [], ents, i, h, _ => by
    have := h.nil_right; subst this
    simp [lookD, Instr.findNow]
  | kv :: es, ents, i, h, hs => by
    obtain ⟨en, ens, rfl, ⟨h1, h2⟩, h3⟩ := h.cons_right
    have hn := sameNow_sound (kd := kd) hk (hs kv (by simp)) hv h1
    have ih := findNow_sound hk hv es ens (i + 1) h3 (fun x hx => hs x (by simp [hx]))
    simp only [lookD, List.find?_cons, Instr.findNow, hn]
    cases hb : beqD k kv.1 with
    | true => simp; exact ⟨_, _, ⟨rfl, rfl⟩, h2⟩
    | false => simpa [lookD] using ih

theorem checkKey_plain {K : TypeId} {kd : TypeDesc} {k : D} {v : Value} {b : Bool} (n : Nat) (hk : P.underlying K = some kd) (hck : keyOk kd k = true) (hv : R1 c.I c.J w v k) :
    (Instr.checkKey b (n + 1) K v).run P w = .ok () w := by
  simp only [Instr.checkKey, Sem.run_bind, run_underlying hk, Result.andThen_ok]
  cases hv <;> cases kd <;> simp [keyOk] at hck <;> rfl

theorem find_of_look {es : List (D × D)} {k : D} {x : D} (h : lookD es k = some x) : ∃ kv ∈ es, kv.2 = x := by
  unfold lookD at h
  cases hf : es.find? fun kv => beqD k kv.1 with
  | none => rw [hf] at h; simp at h
  | some kv => rw [hf] at h; simp at h; exact ⟨kv, List.mem_of_find?_eq_some hf, h⟩

theorem look_sound {T : TypeId} {es : List (D × D)} {k : D} {ok : Bool} {a : AV} {F : Prop} {v : Value} {m : Nat} {ents : Array MapEntry} {clk : Nat} (hR : HR c H w)
    (hl : lookF P T es k ok = some (a, F)) (hF : F) (hv : R1 c.I c.J w v k) (hw : w.heap[m]? = some (.map ents clk))
    (hes : All2 (fun (x : MapEntry) (kv : D × D) => R1 c.I c.J w x.key kv.1 ∧ RV c.I c.J w x.val kv.2) ents.toList es) :
    Done P c H w (Instr.lookup T (.map (some m)) v ok) a := by
  unfold lookF at hl
  split at hl
  · rename_i K E hu
    split at hl
    · rename_i kd z sh hk hz hsh
      split at hl
      · rename_i zd hzd
        split at hl
        · rename_i hcond
          simp only [Bool.and_eq_true] at hcond
          obtain ⟨hck, hcz⟩ := hcond
          simp only [Option.some.injEq, Prod.mk.injEq] at hl
          obtain ⟨hla, hlF⟩ := hl
          rw [← hlF] at hF
          have hall := List.all_eq_true.1 hF
          have hes' : All2 (fun (x : MapEntry) (kv : D × D) => R1 c.I c.J w x.key kv.1 ∧ R1 c.I c.J w x.val kv.2) ents.toList es := by
            refine ⟨hes.1, fun i x kv hx hkv => ?_⟩
            obtain ⟨h1, h2⟩ := hes.2 i x kv hx hkv
            have := hall kv (List.mem_of_getElem? hkv)
            simp only [Bool.and_eq_true] at this
            refine ⟨h1, h2.one fun cs hcs => ?_⟩
            rw [hcs] at this
            cases sh <;> simp [Sh.ok] at this
          obtain ⟨hn, hsome⟩ := findNow_sound (kd := kd) hck hv es ents.toList 0 hes' (fun kv hkv => by have := hall kv hkv; simp only [Bool.and_eq_true] at this; exact this.1)
          have hchk : ∀ b : Bool, (Instr.checkKey b 10000 K v).run P w = .ok () w := fun b => checkKey_plain 9999 hk hck hv
          have hget : (getObj m).run P w = .ok (.map ents clk) w := by simp [getObj, Sem.run, hw]
          cases hlk : lookD es k with
          | none =>
            have h1 := hn hlk
            have hrun : (Instr.lookup T (.map (some m)) v ok).run P w = .ok (if ok then .tuple #[z, .bool false] else z) w := by
              simp only [Instr.lookup, Sem.run_bind, run_underlying hu, Result.andThen_ok, hget, Sem.run_pure, hchk, Instr.findKey, run_underlying hk, h1, run_zeroV hz]
              
            have hz1 : R1 c.I c.J w z zd := valD1_sound hzd
            rw [hlk] at hla
            simp only [Option.getD_none, Sh.norm_ok hcz, Option.isSome_none] at hla
            subst hla
            refine Done.pure hR hrun ?_
            cases ok with
            | true =>
              refine .tup (aas := [.d zd, .d (.bool false)]) (vs := [z, .bool false]) rfl ?_
              intro i x y hx hy
              match i with
              | 0 => simp at hx hy; subst hx; subst hy; exact .d hz1.rv
              | 1 => simp at hx hy; subst hx; subst hy; exact .d (R1.bool false)
              | i + 2 => simp at hx
            | false => exact .d hz1.rv
          | some x =>
            obtain ⟨j, u, h1, h2⟩ := hsome x hlk
            have hxok : sh.ok x = true := by
              obtain ⟨kv, hm, rfl⟩ := find_of_look hlk
              have := hall kv hm
              simp only [Bool.and_eq_true] at this
              exact this.2
            have hrun : (Instr.lookup T (.map (some m)) v ok).run P w = .ok (if ok then .tuple #[u, .bool true] else u) w := by
              simp only [Instr.lookup, Sem.run_bind, run_underlying hu, Result.andThen_ok, hget, Sem.run_pure, hchk, Instr.findKey, run_underlying hk, h1]
            rw [hlk] at hla
            simp only [Option.getD_some, Sh.norm_ok hxok, Option.isSome_some] at hla
            subst hla
            refine Done.pure hR hrun ?_
            cases ok with
            | true =>
              refine .tup (aas := [.d x, .d (.bool true)]) (vs := [u, .bool true]) rfl ?_
              intro i x' y hx hy
              match i with
              | 0 => simp at hx hy; subst hx; subst hy; exact .d h2.rv
              | 1 => simp at hx hy; subst hx; subst hy; exact .d (R1.bool true)
              | i + 2 => simp at hx
            | false => exact .d h2.rv
        · simp at hl
      · simp at hl
    · simp at hl
  · simp at hl

theorem mapM_parts : ∀ {ps : List (Nat × Operand)} {qs : List (Nat × List AV)}, ps.mapM (fun (p : Nat × Operand) => (avCells (e p.2)).map fun x => (p.1, x)) = some qs → (∀ x, RA c H w (e x) (r x)) →
    All2 (fun (p : Nat × Value) (q : Nat × List AV) => p.1 = q.1 ∧ All2 (fun v a => RA c H w a v) p.2.cells.toList q.2) (ps.map fun p => (p.1, r p.2)) qs
  | [], qs, h, _ => by simp at h; subst h; exact All2.nil
  | p :: ps, qs, h, he => by
    rw [List.mapM_cons] at h
    cases hp : avCells (e p.2) with
    | none => rw [hp] at h; simp at h
    | some x =>
      rw [hp] at h
      cases hr : ps.mapM (fun (p : Nat × Operand) => (avCells (e p.2)).map fun x => (p.1, x)) with
      | none => rw [hr] at h; simp at h
      | some xs => rw [hr] at h; simp at h; subst h; exact All2.cons ⟨rfl, (avCells_sound (he p.2) hp).1⟩ (mapM_parts hr he)

theorem mapM_vals : ∀ {ps : List (Nat × Operand)} {qs : List D}, ps.mapM (fun (p : Nat × Operand) => avD (e p.2)) = some qs → (∀ x, RA c H w (e x) (r x)) →
    All2 (RV c.I c.J w) (ps.map fun p => r p.2) qs
  | [], qs, h, _ => by simp at h; subst h; exact All2.nil
  | p :: ps, qs, h, he => by
    rw [List.mapM_cons] at h
    cases hp : avD (e p.2) with
    | none => rw [hp] at h; simp at h
    | some x =>
      rw [hp] at h
      cases hr : ps.mapM (fun (p : Nat × Operand) => avD (e p.2)) with
      | none => rw [hr] at h; simp at h
      | some xs => rw [hr] at h; simp at h; subst h; exact All2.cons (avD_sound (he p.2) hp) (mapM_vals hr he)

theorem buildSlice_sound {T E : TypeId} {len sz : Nat} {parts : Array (Nat × Operand)} {ds : List D} {z : Value} (hR : HR c H w) (he : ∀ x, RA c H w (e x) (r x))
    (hu : P.underlying T = some (.slice E)) (hs : szOf P E = some sz) (hz : zeroV P E = some z) (hm : parts.toList.mapM (fun (p : Nat × Operand) => avD (e p.2)) = some ds)
    (h1 : parts.toList.map (·.1) = List.range len) (h2 : (ds.all fun d => d.cells.length == sz) = true) (h3 : len * sz ≤ 2 ^ 24) :
    Done P c H w (Instr.buildSlice T len (parts.map fun (i, x) => (i, r x))) (.full ds) := by
  have hvals := mapM_vals (r := r) hm he
  have hlen : ds.length = len := by
    have a := hvals.1
    have b := congrArg List.length h1
    simp at a b; omega
  have hsz : ∀ d ∈ ds, d.cells.length = sz := fun d hd => by have := List.all_eq_true.1 h2 d hd; simpa using this
  have hvsz : ∀ v ∈ parts.toList.map (fun p => r p.2), v.cells.size = sz := by
    intro v hv
    obtain ⟨i, hi, he'⟩ := List.mem_iff_getElem.1 hv
    have hi' : i < ds.length := by rw [← hvals.1]; exact hi
    have := hvals.2 i v ds[i] (by simp only [List.getElem?_eq_getElem hi, he']) (by simp [hi'])
    have h4 := this.cells.1
    simp only [Array.length_toList] at h4
    rw [h4]
    exact hsz _ (List.getElem_mem _)
  let zs : Array Value := if len * sz = 0 then #[] else z.cells
  let row : Array Value := (Array.range (len * sz)).map (zs[· % zs.size]!)
  have hrow : row.size = len * sz := by simp [row]
  have hvl : (parts.toList.map fun p => r p.2).length = len := by rw [hvals.1, hlen]
  obtain ⟨cs', hf, hsz', htl⟩ := fill_row (size := sz) (parts.toList.map fun p => r p.2) 0 row hvsz (by rw [hvl, hrow]; simp)
  have hcs : cs' = (((parts.toList.map fun (p : Nat × Operand) => r p.2).map fun (v : Value) => v.cells.toList).flatten ++ []).toArray := by
    have : cs'.toList = ((parts.toList.map fun (p : Nat × Operand) => r p.2).map fun (v : Value) => v.cells.toList).flatten := by
      rw [htl, hvl]
      simp only [Nat.zero_mul, List.take_zero, List.nil_append, Nat.zero_add]
      rw [List.drop_eq_nil_of_le (by simp [hrow])]
      simp
    rw [List.append_nil, ← this]
  have hparts : (parts.map fun (x : Nat × Operand) => (x.1, r x.2)).toList = ((parts.toList.map fun p => r p.2).zipIdx 0).map fun p => (p.2, p.1) := by
    apply List.ext_getElem
    · simp
    · intro i hi1 hi2
      simp only [Array.toList_map, List.getElem_map, List.getElem_zipIdx, Nat.zero_add]
      have hi : i < parts.toList.length := by simpa using hi1
      have : (parts.toList.map (·.1))[i]'(by simpa using hi) = i := by
        simp only [h1]
        simp
      simp only [List.getElem_map] at this
      simpa using this
  have hnot : ¬ len * sz > 2 ^ 24 := by omega
  have hrun : (Instr.buildSlice T len (parts.map fun (x : Nat × Operand) => (x.1, r x.2))).run P w = .ok (.slice (some ⟨w.heap.size, 0, none⟩) len len) { w with heap := w.heap.push (.cells cs' E) } := by
    by_cases hz0 : len * sz = 0
    · have hrow' : Array.map (fun x => (#[] : Array Value)[x % (#[] : Array Value).size]!) (Array.range (len * sz)) = row := by
        simp only [row, zs, if_pos hz0]
      simp only [Instr.buildSlice, Sem.run_bind, run_underlying hu, Result.andThen_ok, run_szOf hs, if_neg hnot, Sem.run_pure, if_pos hz0, hparts, hrow', hf]
      simp [newRow]
    · have hrow' : Array.map (fun x => z.cells[x % z.cells.size]!) (Array.range (len * sz)) = row := by
        simp only [row, zs, if_neg hz0]
      simp only [Instr.buildSlice, Sem.run_bind, run_underlying hu, Result.andThen_ok, run_szOf hs, if_neg hnot, Sem.run_pure, if_neg hz0, run_zeroV hz, hparts, hrow', hf]
      simp [newRow]
  have hr := R1.new_row (T := E) (fr := (0, 0)) (cap := len) hR hvals hsz [] (by omega)
  rw [← hcs, hlen] at hr
  exact ⟨_, _, c.imm w.heap.size (len * sz), hrun, Ext.push_imm c w _ _ hR.ilt hR.jlt, Keep.imm c H _ _, hR.push_imm _ _, .full hr⟩
end
end Go.Sx
/- Slice expressions; every operation that changes no box is sound. -/
namespace Go.Sx
open Go

theorem extract_mk (s : List UInt8) (l h : Nat) : (⟨s.toArray⟩ : ByteArray).extract l h = ⟨((s.take h).drop l).toArray⟩ := by
  apply ByteArray.ext
  simp [ByteArray.data_extract, List.drop_take]

section
variable {P : Program} {c : Cx} {H : List Box} {w : World} {e : Operand → AV} {r : Operand → Value}

theorem run_sliceBound {k : IntKind} {i : Int} {y : Nat} {code : BoundsCode} (h0 : 0 ≤ i) (h1 : i ≤ y) : (Instr.sliceBound (.int k i) y code).run P w = .ok i.toNat w := by
  simp [Instr.sliceBound, asIntOf, h0, h1]

theorem RA.int {k : IntKind} {n : Int} {v : Value} (h : RA c H w (.d (.int k n)) v) : v = .int k n := by
  cases h with
  | d h => cases h; rfl

theorem RA.str {s : List UInt8} {v : Value} (h : RA c H w (.d (.str s)) v) : v = .string ⟨s.toArray⟩ := by
  cases h with
  | d h => cases h; rfl

theorem RA.bool {b : Bool} {v : Value} (h : RA c H w (.d (.bool b)) v) : v = .bool b := by
  cases h with
  | d h => cases h; rfl

theorem run_bounds {n cap : Nat} {lo hi : Option Operand} {l h : Int} {F : Prop} {isSlice : Bool} (he : ∀ x, RA c H w (e x) (r x)) (hb : boundsF n (lo.map e) (hi.map e) = some (l, h, F)) (hF : F) (hcap : n ≤ cap) :
    (Instr.sliceBounds isSlice n cap (lo.map r) (hi.map r) none).run P w = .ok (l.toNat, h.toNat, cap) w ∧ l.toNat ≤ h.toNat ∧ h.toNat ≤ n := by
  cases lo with
  | none =>
    cases hi with
    | none =>
      simp [boundsF] at hb
      obtain ⟨rfl, rfl, _⟩ := hb
      simp [Instr.sliceBounds]
    | some x =>
      simp only [Option.map_none, Option.map_some, boundsF] at hb
      cases hx : e x <;> rw [hx] at hb <;> try (simp at hb; done)
      rename_i d; cases d <;> try (simp at hb; done)
      cases hb
      have hv := he x
      rw [hx] at hv
      simp only [Option.map_none, Option.map_some]
      rw [hv.int]
      obtain ⟨h1, h2⟩ := hF
      simp only [Instr.sliceBounds, Sem.run_bind, Sem.run_pure, Result.andThen_ok]
      rw [run_sliceBound h1 (by omega)]
      simp
      omega
  | some y =>
    cases hi with
    | none =>
      simp only [Option.map_none, Option.map_some, boundsF] at hb
      cases hx : e y <;> rw [hx] at hb <;> try (simp at hb; done)
      rename_i d; cases d <;> try (simp at hb; done)
      cases hb
      have hv := he y
      rw [hx] at hv
      simp only [Option.map_none, Option.map_some]
      rw [hv.int]
      obtain ⟨h1, h2⟩ := hF
      simp only [Instr.sliceBounds, Sem.run_bind, Sem.run_pure, Result.andThen_ok]
      rw [run_sliceBound h1 (by omega)]
      simp
      omega
    | some x =>
      simp only [Option.map_some, boundsF] at hb
      cases hy : e y <;> rw [hy] at hb <;> try (simp at hb; done)
      rename_i d; cases d <;> try (simp at hb; done)
      cases hx : e x <;> rw [hx] at hb <;> try (simp at hb; done)
      rename_i d; cases d <;> try (simp at hb; done)
      cases hb
      have hv := he y
      have hv' := he x
      rw [hy] at hv
      rw [hx] at hv'
      simp only [Option.map_some]
      rw [hv.int, hv'.int]
      obtain ⟨h1, h2, h3⟩ := hF
      simp only [Instr.sliceBounds, Sem.run_bind, Sem.run_pure, Result.andThen_ok]
      rw [run_sliceBound (by omega) (by omega)]
      simp only [Result.andThen_ok]
      rw [run_sliceBound h1 (by omega)]
      simp
      omega

theorem slice_str_sound {T : TypeId} {x : Operand} {s : List UInt8} {lo hi : Option Operand} {l h : Int} {F : Prop} (hR : HR c H w) (he : ∀ x, RA c H w (e x) (r x)) (hu : P.underlying T = some .string) (hx : e x = .d (.str s))
    (hb : boundsF s.length (lo.map e) (hi.map e) = some (l, h, F)) (hF : F) : Done P c H w (Instr.sliceAt T (r x) (lo.map r) (hi.map r) (Option.map r none)) (.d (.str ((s.take h.toNat).drop l.toNat))) := by
  have hv := he x
  rw [hx] at hv
  rw [hv.str]
  obtain ⟨h1, _, _⟩ := run_bounds (P := P) (cap := s.length) (isSlice := false) he hb hF (Nat.le_refl _)
  refine Done.pure hR (v := .string ⟨((s.take h.toNat).drop l.toNat).toArray⟩) ?_ (.d (R1.str _))
  simp only [Instr.sliceAt, Sem.run_bind, run_underlying hu, Result.andThen_ok, Instr.slice, Option.map_none, Option.isSome_none, Bool.false_eq_true, if_false, Sem.run_pure, size_mk, h1, extract_mk]

theorem cellAt_slice {ds : List D} {l h i j : Nat} {d : D} (hc : cellAt ((ds.take h).drop l) i j = some d) : cellAt ds (l + i) j = some d := by
  unfold cellAt at hc ⊢
  rw [List.getElem?_drop, List.getElem?_take] at hc
  split at hc
  · exact hc
  · simp at hc

theorem slice_sl_sound {T E : TypeId} {x : Operand} {ds : List D} {lo hi : Option Operand} {l h : Int} {F : Prop} (hR : HR c H w) (he : ∀ x, RA c H w (e x) (r x)) (hu : P.underlying T = some (.slice E)) (hsz : ∃ sz, szOf P E = some sz ∧ ∀ d ∈ ds, d.cells.length = sz) (hx : avSl (e x) = some ds)
    (hb : boundsF ds.length (lo.map e) (hi.map e) = some (l, h, F)) (hF : F) : Done P c H w (Instr.sliceAt T (r x) (lo.map r) (hi.map r) (Option.map r none)) (.d (.sl ((ds.take h.toNat).drop l.toNat))) := by
  obtain ⟨ad, n, k, hv, hr, hn⟩ := avSl_sound (he x) hx
  obtain ⟨sz, hsz1, hsz2⟩ := hsz
  rw [hv] at hr ⊢
  cases hr with
  | nil =>
    obtain ⟨h1, h2, h3⟩ := run_bounds (P := P) (cap := 0) (isSlice := true) he hb hF (Nat.le_refl _)
    have e1 : h.toNat = 0 := by simpa using h3
    have e2 : l.toNat = 0 := by omega
    refine Done.pure hR (v := .slice none 0 0) ?_ ?_
    · simp only [List.length_nil] at h1
      simp only [Instr.sliceAt, Sem.run_bind, run_underlying hu, Result.andThen_ok, Instr.slice, Option.map_none, h1, run_szOf hsz1, e1, e2]
      rfl
    · simp only [List.take_nil, List.drop_nil]; exact .d R1.nil
  | emp a =>
    obtain ⟨h1, h2, h3⟩ := run_bounds (P := P) (cap := k) (isSlice := true) he hb hF (Nat.zero_le _)
    have e1 : h.toNat = 0 := by simpa using h3
    have e2 : l.toNat = 0 := by omega
    refine Done.pure hR (v := .slice (some a) 0 k) ?_ ?_
    · simp only [List.length_nil] at h1
      simp only [Instr.sliceAt, Sem.run_bind, run_underlying hu, Result.andThen_ok, Instr.slice, Option.map_none, h1, run_szOf hsz1, e1, e2, Option.map_some, Nat.zero_mul, Nat.sub_zero, Addr.add, if_true]
      by_cases hk0 : k = 0
      · rw [if_pos hk0]; rfl
      · rw [if_neg hk0]; rfl
    · simp only [List.take_nil, List.drop_nil]; exact .d (R1.emp a k)
  | sl b off cap sz' ds vals hsz hc hr hcap =>
    obtain ⟨h1, h2, h3⟩ := run_bounds (P := P) (cap := k) (isSlice := true) he hb hF hcap
    have hlen : ((ds.take h.toNat).drop l.toNat).length = h.toNat - l.toNat := by simp; omega
    by_cases hkl : k = l.toNat
    · have e1 : h.toNat = l.toNat := by omega
      refine Done.pure hR (v := .slice (some ⟨b, off, none⟩) (h.toNat - l.toNat) (k - l.toNat)) ?_ ?_
      · simp only [Instr.sliceAt, Sem.run_bind, run_underlying hu, Result.andThen_ok, Instr.slice, Option.map_none, h1, run_szOf hsz1, if_pos hkl]
        rfl
      · have : (ds.take h.toNat).drop l.toNat = [] := by apply List.eq_nil_of_length_eq_zero; omega
        rw [this]
        have e2 : h.toNat - l.toNat = ([] : List D).length := by simp; omega
        rw [e2]
        refine .d (R1.sl b off _ 0 [] (fun _ _ => undef) (by simp) (by intro i j d hd; simp [cellAt] at hd) (by intro i j d hd; simp [cellAt] at hd) (by simp))
    · refine Done.pure hR (v := .slice (some ⟨b, off + l.toNat * sz, none⟩) (h.toNat - l.toNat) (k - l.toNat)) ?_ ?_
      · simp only [Instr.sliceAt, Sem.run_bind, run_underlying hu, Result.andThen_ok, Instr.slice, Option.map_none, h1, run_szOf hsz1, if_neg hkl, Option.map_some, add_none]
        rfl
      · rw [← hlen]
        have hz : ∀ d ∈ (ds.take h.toNat).drop l.toNat, d.cells.length = sz := fun d hd => hsz2 d (List.mem_of_mem_take (List.mem_of_mem_drop hd))
        have hss : ds ≠ [] → sz' = sz := fun hne => by
          obtain ⟨d, hd⟩ := List.exists_mem_of_ne_nil ds hne
          rw [← hsz d hd, ← hsz2 d hd]
        refine .d (R1.sl b (off + l.toNat * sz) (k - l.toNat) sz _ (fun i j => vals (l.toNat + i) j) hz ?_ (fun i j d hd => hr _ _ _ (cellAt_slice hd)) (by omega))
        intro i j d hd
        have h5 := cellAt_slice hd
        have hne : ds ≠ [] := by
          intro h0; subst h0; simp [cellAt] at h5
        have := hc _ _ _ h5
        rw [hss hne] at this
        rw [show off + l.toNat * sz + i * sz + j = off + (l.toNat + i) * sz + j by rw [Nat.add_mul]; omega]
        exact this

theorem slice_arr_sound {T E m : Nat} {x : Operand} {cs : List D} {lo hi : Option Operand} {l h : Int} {F : Prop} (hR : HR c H w) (he : ∀ x, RA c H w (e x) (r x)) (hu : P.underlying T = some (.array m E)) (hs : szOf P E = some 1) (hx : e x = .iptr cs)
    (hb : boundsF m (lo.map e) (hi.map e) = some (l, h, F)) (hF : F) (hm : m ≤ cs.length) : Done P c H w (Instr.sliceAt T (r x) (lo.map r) (hi.map r) (Option.map r none)) (.d (.sl (((cs.take m).take h.toNat).drop l.toNat))) := by
  have hv := he x
  rw [hx] at hv
  generalize r x = rx at *
  cases hv with
  | @iptr _ b o hc =>
    obtain ⟨h1, h2, h3⟩ := run_bounds (P := P) (cap := m) (isSlice := false) he hb hF (Nat.le_refl _)
    have hlen : (((cs.take m).take h.toNat).drop l.toNat).length = h.toNat - l.toNat := by simp; omega
    have run : (Instr.sliceAt T (.pointer (some ⟨b, o, none⟩)) (lo.map r) (hi.map r) (Option.map r none)).run P w = .ok (.slice (some (if m = l.toNat then ⟨b, o, none⟩ else ⟨b, o + l.toNat, none⟩)) (h.toNat - l.toNat) (m - l.toNat)) w := by
      simp only [Instr.sliceAt, Sem.run_bind, run_underlying hu, Result.andThen_ok, Instr.sureAddr, Sem.run_pure, Option.map_none, h1, run_szOf hs, add_none, Nat.mul_one]
    refine Done.pure hR run ?_
    by_cases hml : m = l.toNat
    · have e1 : h.toNat = l.toNat := by omega
      rw [if_pos hml]
      have : ((cs.take m).take h.toNat).drop l.toNat = [] := by apply List.eq_nil_of_length_eq_zero; omega
      rw [this]
      have e2 : h.toNat - l.toNat = 0 := by omega
      rw [e2]
      exact .d (R1.emp _ _)
    · rw [if_neg hml, ← hlen]
      have key : ∀ i j d, cellAt (((cs.take m).take h.toNat).drop l.toNat) i j = some d → j = 0 ∧ c.I b (o + (l.toNat + i)) ∧ ∃ v, w.cell? ⟨b, o + (l.toNat + i), none⟩ = some v ∧ R1 c.I c.J w v d := by
        intro i j d hd
        obtain ⟨y, hy, hj⟩ := Option.bind_eq_some_iff.1 hd
        rw [List.getElem?_drop, List.getElem?_take] at hy
        split at hy
        · rw [List.getElem?_take] at hy
          split at hy
          · obtain ⟨i1, v, i2, i3⟩ := hc _ _ hy
            have hcell : y.cells = [y] := by cases i3 <;> rfl
            rw [hcell] at hj
            cases j with
            | zero => simp at hj; subst hj; exact ⟨rfl, i1, v, i2, i3⟩
            | succ j => simp at hj
          · cases hy
        · cases hy
      refine .d (R1.sl b (o + l.toNat) (m - l.toNat) 1 _ (fun i _ => (w.cell? ⟨b, o + (l.toNat + i), none⟩).getD undef) ?_ ?_ ?_ (by omega))
      · intro d hd
        obtain ⟨i, hi'⟩ := List.getElem?_of_mem hd
        rw [List.getElem?_drop, List.getElem?_take] at hi'
        split at hi'
        · rw [List.getElem?_take] at hi'
          split at hi'
          · obtain ⟨_, v, _, i3⟩ := hc _ _ hi'
            cases i3 <;> rfl
          · cases hi'
        · cases hi'
      · intro i j d hd
        obtain ⟨rfl, i1, v, i2, i3⟩ := key i j d hd
        rw [show o + l.toNat + i * 1 + 0 = o + (l.toNat + i) by omega]
        exact ⟨i1, by simp [i2]⟩
      · intro i j d hd
        obtain ⟨rfl, i1, v, i2, i3⟩ := key i j d hd
        simp only [i2, Option.getD_some]
        exact i3

theorem slice_full_sound {T E n q sz : Nat} {ad : Option Addr} {ds : List D} {h : Int} {k1 k2 : IntKind} (hR : HR c H w) (hu : P.underlying T = some (.slice E)) (hs : szOf P E = some sz) (hr : R1 c.I c.J w (.slice ad n q) (.sl ds)) (hn : n = ds.length) (h0 : 0 ≤ h) (h1 : h ≤ ds.length) :
    Done P c H w (Instr.sliceAt T (.slice ad n q) none (some (.int k1 h)) (some (.int k2 h))) (.full (ds.take h.toNat)) := by
  have h2 : h ≤ n := by omega
  clear hn h1
  have hq : h.toNat ≤ q ∧ (ad = none → q = 0) := by
    cases hr with
    | nil => exact ⟨by omega, fun _ => rfl⟩
    | emp => exact ⟨by omega, fun h => by cases h⟩
    | sl _ _ _ _ _ _ _ _ _ hcap => exact ⟨by omega, fun h => by cases h⟩
  have run : (Instr.sliceAt T (.slice ad n q) none (some (.int k1 h)) (some (.int k2 h))).run P w = .ok (.slice ad h.toNat h.toNat) w := by
    have e1 : (if h.toNat = 0 then ad else Option.map (fun x => x.add (0 * sz)) ad) = ad := by
      split
      · rfl
      · cases ad with
        | none => rfl
        | some a => simp [Addr.add]
    simp only [Instr.sliceAt, Sem.run_bind, run_underlying hu, Result.andThen_ok, Instr.slice, Instr.sliceBounds, Sem.run_pure, if_true]
    rw [run_sliceBound h0 (by omega)]
    simp only [Result.andThen_ok]
    rw [run_sliceBound h0 (by omega)]
    simp only [Result.andThen_ok, Sem.run_pure, Sem.run_bind, run_szOf hs, Nat.sub_zero]
    rw [e1]
  refine Done.pure hR run (.full ?_)
  cases hr with
  | nil =>
    have : h.toNat = 0 := by omega
    rw [this]; exact R1.nil
  | emp a =>
    have : h.toNat = 0 := by omega
    rw [this, List.take_nil]; exact R1.emp _ _
  | sl b off cap sz' ds vals hsz hc hr' hcap =>
    have hl : (ds.take h.toNat).length = h.toNat := by rw [List.length_take]; omega
    have := R1.sl (I := c.I) (J := c.J) (w := w) b off h.toNat sz' (ds.take h.toNat) vals (fun d hd => hsz d (List.mem_of_mem_take hd))
      (fun i j d hd => hc i j d (by
        unfold cellAt at hd ⊢
        rw [List.getElem?_take] at hd
        split at hd
        · exact hd
        · simp at hd))
      (fun i j d hd => hr' i j d (by
        unfold cellAt at hd ⊢
        rw [List.getElem?_take] at hd
        split at hd
        · exact hd
        · simp at hd)) (by omega)
    rw [hl] at this
    exact this

/-- What execOp makes of an operation that gives a value. -/
def semOf (r : Operand → Value) (ty : TypeId) : Op → Sem Value
  | .move x => pure (r x)
  | .assign x => pure (r x)
  | .load T a => Instr.loadAt T (r a)
  | .fieldAddr T x f => Instr.fieldAt T (r x) f
  | .indexAddr T x i => Instr.indexAt T (r x) (r i)
  | .index T x i => Instr.index T (r x) (r i)
  | .unOp op _ x => Op.unary op (r x)
  | .binOp op T x y _ => do eqGuard op T x y (r x) (r y); binOp op T (r x) (r y)
  | .convert S T x => convert S T (r x)
  | .extract t i => Instr.extract (r t) i
  | .build T parts => Instr.build T (parts.map fun (i, x) => (i, r x))
  | .buildSlice T len parts => Instr.buildSlice T len (parts.map fun (i, x) => (i, r x))
  | .makeFunc fn first cap => Instr.makeFunc fn (first.map r) (cap.map r)
  | .lookup T x k ok => Instr.lookup T (r x) (r k) ok
  | .slice T x lo hi mx => Instr.sliceAt T (r x) (lo.map r) (hi.map r) (mx.map r)
  | .nilCheck x => pure (r x)
  | .call { callee := .builtin .len, args, argTypes } => Builtin.len_ argTypes ty (args.map r)
  | .call { callee := .builtin .max, args, argTypes } => Builtin.max_ argTypes ty (args.map r)
  | _ => stuck ""

theorem nilA_sound {av : AV} {v : Value} {b : Bool} (h : RA c H w av v) (hb : nilA av = some b) : ∃ ad n k, v = .slice ad n k ∧ ad.isNone = b := by
  have key : ∀ {x : D} {l : List D}, R1 c.I c.J w v (.sl (x :: l)) → ∃ ad n k, v = .slice ad n k ∧ ad.isNone = false := by
    intro x l h
    cases h with
    | sl => exact ⟨_, _, _, rfl, rfl⟩
  cases h with
  | nils => cases hb; exact ⟨_, _, _, rfl, rfl⟩
  | @d x v h =>
    cases x with
    | sl l => cases l with
      | nil => simp [nilA] at hb
      | cons y l => simp [nilA] at hb; subst hb; exact key h
    | _ => simp [nilA] at hb
  | @full l a n h => cases l with
      | nil => simp [nilA] at hb
      | cons y l => simp [nilA] at hb; subst hb; exact key h
  | @vec q n sz l a m k h => cases l with
      | nil => simp [nilA] at hb
      | cons y l => simp [nilA] at hb; subst hb; exact key h
  | _ => simp [nilA] at hb
theorem nil_sound {op : BinOp} {T : TypeId} {x y : Operand} {rb : Bool} (hR : HR c H w) (hx : RA c H w (e x) (r x)) (hn : nilF P op T (e x) y = some rb) (hc : ∀ v, y = Operand.const v → r y = v) :
    Done P c H w (do eqGuard op T x y (r x) (r y); binOp op T (r x) (r y)) (.d (.bool rb)) := by
  unfold nilF at hn
  split at hn
  · split at hn
    · rename_i E hu
      obtain ⟨ad, n, k, hv, hb⟩ := nilA_sound hx hn
      rw [hc _ rfl, hv]
      have h1 : (eqGuard .eql T x (.const (.slice none 0 0)) (.slice ad n k) (.slice none 0 0)).run P w = .ok () w := eqGuard_plain (by intro h; cases h) (by intro cs h; cases h)
      refine Done.pure hR (v := .bool rb) ?_ (.d (R1.bool _))
      simp only [Sem.run_bind, h1, Result.andThen_ok]
      unfold binOp
      simp [run_equal_slice_nil w T E ad n k hu, hb]
    · cases hn
  · split at hn
    · rename_i E hu
      cases hna : nilA (e x) with
      | none => rw [hna] at hn; cases hn
      | some b0 =>
        rw [hna] at hn
        cases hn
        obtain ⟨ad, n, k, hv, hb⟩ := nilA_sound hx hna
        rw [hc _ rfl, hv]
        have h1 : (eqGuard .neq T x (.const (.slice none 0 0)) (.slice ad n k) (.slice none 0 0)).run P w = .ok () w := eqGuard_plain (by intro h; cases h) (by intro cs h; cases h)
        refine Done.pure hR (v := .bool (!b0)) ?_ (.d (R1.bool _))
        simp only [Sem.run_bind, h1, Result.andThen_ok]
        unfold binOp
        simp [run_equal_slice_nil w T E ad n k hu, hb]
    · cases hn
  · cases hn

set_option maxHeartbeats 1000000 in
theorem opF_done {o : Op} {a : AV} {F : Prop} {ty : TypeId} (hR : HR c H w) (he : ∀ x, RA c H w (e x) (r x)) (hc : ∀ y v, y = Operand.const v → r y = v) (h : opF P e H o = some (a, F)) (hF : F) : Done P c H w (semOf r ty o) a := by
  unfold opF at h
  split at h
  · cases h; exact Done.pure hR rfl (he _)
  · cases h; exact Done.pure hR rfl (he _)
  · rename_i T x
    have hT : F = True := by
      revert h
      cases e x <;> simp <;> (try (split <;> simp)) <;> intros <;> simp_all
    subst hT
    exact load_sound hR (he x) h
  · rename_i T x f
    split at h
    · rename_i fs hu
      split at h
      · rename_i fd hf
        split at h
        · rename_i n hs
          have hx := he x
          split at h
          · rename_i l o hxe
            cases h
            rw [hxe] at hx
            simp only [semOf]
            generalize r x = rx at *
            cases hx with
            | ptr hH hl => exact Done.pure hR (run_fieldAt hu hf hs) (.ptr hH hl)
          · rename_i cs hxe
            cases h
            rw [hxe] at hx
            simp only [semOf]
            generalize r x = rx at *
            cases hx with
            | iptr hc => exact Done.pure hR (run_fieldAt hu hf hs) (.iptr fun j y hy => by
                rw [List.getElem?_drop] at hy
                have := hc _ _ hy
                rw [← Nat.add_assoc] at this
                exact this)
          · simp at h
        · simp at h
      · simp at h
    · simp at h
  · rename_i T x i
    split at h
    · rename_i E k n hu hi
      split at h
      · rename_i ds ag sz hds hag hsz
        split at h
        · rename_i cs hcs
          split at h
          · rename_i hlen
            cases h
            obtain ⟨ad, m, q, hv, hr1, hm⟩ := avSl_sound (he x) hds
            have hiv := he i
            rw [hi] at hiv
            simp only [semOf]
            rw [hiv.int]
            refine index_sound hR hu hsz hr1 ?_ ?_ hlen hF.1 hF.2
            · cases ag with
              | true => exact .inl rfl
              | false =>
                right
                unfold elemCells at hcs
                cases hs : shapes P 9 E with
                | none => rw [hs] at hcs; simp at hcs
                | some shs =>
                  rw [hs] at hcs; simp at hcs; subst hcs
                  have := shapes_one hs hag
                  simpa using this
            · intro hagf xs hxs
              have hne : cs ≠ [] := by
                intro h0; subst h0
                cases hs : shapes P 9 E with
                | none => unfold elemCells at hcs; rw [hs] at hcs; simp at hcs
                | some shs =>
                  unfold elemCells at hcs
                  rw [hs] at hcs; simp at hcs
                  subst hagf
                  have := shapes_one hs hag
                  rw [hcs] at this; simp at this
              cases cs with
              | nil => exact hne rfl
              | cons y ys => exact elemCells_not_agg hcs y (by simp) xs (by simpa using hxs)
          · simp at h
        · simp at h
      · simp at h
    · rename_i m E k n hu hi
      split at h
      · rename_i sz hs
        have hiv := he i
        rw [hi] at hiv
        exact arr_index_sound hR hu hs hiv.int (he x) h hF
      · simp at h
    · simp at h
  · rename_i T x i
    split at h
    · rename_i s k n hu hx hi
      cases h
      have h1 := he x
      have h2 := he i
      rw [hx] at h1
      rw [hi] at h2
      simp only [semOf]
      rw [h1.str, h2.int]
      exact Done.pure hR (run_index_str hu hF.1 hF.2) (.d (R1.int _ _))
    · simp at h
  · rename_i T x
    split at h
    · rename_i b hx
      cases h
      have h1 := he x
      rw [hx] at h1
      simp only [semOf]
      rw [h1.bool]
      exact Done.pure hR (v := .bool (!b)) (by simp [Op.unary]) (.d (R1.bool _))
    · simp at h
  · rename_i T x
    split at h
    · rename_i k n hx
      cases h
      have h1 := he x
      rw [hx] at h1
      simp only [semOf]
      rw [h1.int]
      exact Done.pure hR (v := .int k (k.wrap (0 - n))) (by simp [Op.unary, Op.intArith]) (.d (R1.int _ _))
    · simp at h
  · rename_i op T x y yT
    split at h
    · rename_i rb hn
      cases h
      exact nil_sound hR (he x) hn (fun v hv => hc y v hv)
    split at h
    · rename_i p q hx hy
      cases hb : binF P op T p q with
      | none => rw [hb] at h; simp at h
      | some res =>
        obtain ⟨rd, rF⟩ := res
        rw [hb] at h
        cases h
        obtain ⟨z, h1, h2⟩ := binF_sound (ox := x) (oy := y) hb hF (avD_sound (he x) hx) (avD_sound (he y) hy)
        exact Done.pure hR h1 (.d h2.rv)
    · simp at h
  · rename_i S T x
    split at h
    · rename_i sd k k' n hs hu hx
      cases h
      have h1 := he x
      rw [hx] at h1
      simp only [semOf]
      rw [h1.int]
      refine Done.pure hR (v := .int k (k.wrap n)) ?_ (.d (R1.int _ _))
      simp [convert, run_underlying hs, run_underlying hu, Conv.intToInt]
    · rename_i sd s hs hu hx
      cases h
      have h1 := he x
      rw [hx] at h1
      simp only [semOf]
      rw [h1.str]
      refine Done.pure hR (v := .string ⟨s.toArray⟩) ?_ (.d (R1.str _))
      simp [convert, run_underlying hs, run_underlying hu]
    · simp at h
  · rename_i t i
    split at h
    · rename_i vs ht
      have h1 := he t
      rw [ht] at h1
      simp only [semOf]
      generalize r t = rt at *
      cases h1 with
      | @tup aas us hl hu =>
        cases hi : vs[i]? with
        | none => rw [hi] at h; simp at h
        | some a' =>
          rw [hi] at h; cases h
          have hlt : i < us.length := by
            rw [← hl]
            rcases Nat.lt_or_ge i vs.length with h' | h'
            · exact h'
            · simp [List.getElem?_eq_none h'] at hi
          refine Done.pure hR (v := us[i]) ?_ (hu i a us[i] hi (by simp [hlt]))
          simp [Instr.extract, hlt]
    · simp at h
  · rename_i T parts
    split at h
    · rename_i ps hps
      cases hb : buildF P T ps with
      | none => rw [hb] at h; simp at h
      | some x =>
        rw [hb] at h; cases h
        obtain ⟨v, h1, h2⟩ := buildF_sound hb (mapM_parts (r := r) hps he)
        refine Done.pure hR (v := v) ?_ h2
        have : (parts.toList.map fun p => (p.1, r p.2)).toArray = parts.map fun (x : Nat × Operand) => (x.1, r x.2) := by
          apply Array.ext'; simp
        rw [this] at h1
        exact h1
    · simp at h
  · rename_i T len parts
    split at h
    · rename_i E hu
      split at h
      · rename_i sz z ds hs hz hm
        split at h
        · rename_i hc
          cases h
          exact buildSlice_sound hR he hu hs hz hm hc.1 hc.2.1 hc.2.2
        · simp at h
      · simp at h
    · simp at h
  · rename_i f first cap
    cases h
    refine Done.pure hR (v := .func (.func f) (first.map r) (cap.map r)) rfl ?_
    have e1 : first.map r = (first.toList.map r).toArray := by apply Array.ext'; simp
    have e2 : cap.map r = (cap.toList.map r).toArray := by apply Array.ext'; simp
    rw [e1, e2]
    refine .clo (by simp) (by simp) ?_ ?_
    · intro i a v h1 h2
      simp only [List.getElem?_map] at h1 h2
      cases hx : first.toList[i]? with
      | none => rw [hx] at h1; simp at h1
      | some x => rw [hx] at h1 h2; simp at h1 h2; subst h1; subst h2; exact he x
    · intro i a v h1 h2
      simp only [List.getElem?_map] at h1 h2
      cases hx : cap.toList[i]? with
      | none => rw [hx] at h1; simp at h1
      | some x => rw [hx] at h1 h2; simp at h1 h2; subst h1; subst h2; exact he x
  · rename_i T x k ok
    split at h
    · rename_i es kd hx hk
      have h1 := he x
      rw [hx] at h1
      simp only [semOf]
      generalize r x = rx at *
      cases h1 with
      | d h1 =>
        cases h1 with
        | gmap m ents clk es hJ hw hlen hkk hvv =>
          refine look_sound hR h hF (avD1_sound (he k) hk) hw ⟨by simpa using hlen, fun i x kv hx hkv => ?_⟩
          have e1 : ents.getD i default = x := by
            simp only [Array.getElem?_toList] at hx
            simp [Array.getD_eq_getD_getElem?, hx]
          have a1 := hkk i kv hkv
          have a2 := hvv i kv hkv
          rw [e1] at a1 a2
          exact ⟨a1, a2.rv⟩
    · rename_i l kd hx hk
      split at h
      · rename_i es hH
        have h1 := he x
        rw [hx] at h1
        simp only [semOf]
        generalize r x = rx at *
        cases h1 with
        | @map _ b q es' hH' hl =>
          obtain ⟨ents, clk, hw, hes⟩ := hR.box l b q _ hl hH
          exact look_sound hR h hF (avD1_sound (he k) hk) hw hes
      · simp at h
    · simp at h
  · rename_i T x lo hi
    split at h
    · rename_i s hu hx
      split at h
      · rename_i l hh FF hb
        cases h
        exact slice_str_sound hR he hu hx hb hF
      · simp at h
    · rename_i E hu
      split at h
      · rename_i ds sz hds hsz
        split at h
        · rename_i l hh FF hb
          cases h
          refine slice_sl_sound hR he hu ⟨sz, hsz, fun d hd => ?_⟩ hds hb hF.1
          have := List.all_eq_true.1 (show (ds.all fun d => d.cells.length == sz) = true from hF.2) d hd
          simpa using this
        · simp at h
      · simp at h
    · rename_i m E cs hu hx
      split at h
      · rename_i sz hs
        split at h
        · rename_i h1
          obtain ⟨rfl, h1⟩ := h1
          split at h
          · rename_i l hh FF hb
            cases h
            exact slice_arr_sound hR he hu hs hx hb hF h1
          · simp at h
        · simp at h
      · simp at h
    · simp at h
  · rename_i x
    split at h
    all_goals first
      | (simp at h; done)
      | (rename_i hx
         cases h
         have h1 := he x
         rw [hx] at h1
         exact Done.pure hR rfl h1)
  · rename_i args argTypes
    split at h
    · rename_i x T hx hT
      have ea : args = #[x] := by apply Array.ext'; simpa using hx
      have et : argTypes = #[T] := by apply Array.ext'; simpa using hT
      subst ea; subst et
      split at h
      · rename_i s hu hxs
        cases h
        have h1 := he x
        rw [hxs] at h1
        simp only [semOf, List.map_toArray, List.map_cons, List.map_nil]
        rw [h1.str]
        exact Done.pure hR (run_len_str hu) (.d (R1.int _ _))
      · rename_i E hu
        cases hds : avSl (e x) with
        | none => rw [hds] at h; simp at h
        | some ds =>
          rw [hds] at h; cases h
          obtain ⟨ad, n, k, hv, hr1, hn⟩ := avSl_sound (he x) hds
          simp only [semOf, List.map_toArray, List.map_cons, List.map_nil]
          rw [hv, hn]
          exact Done.pure hR (run_len_slice hu) (.d (R1.int _ _))
      · simp at h
    · simp at h
  · rename_i args argTypes
    split at h
    · rename_i x y hxy
      have ea : args = #[x, y] := by apply Array.ext'; simpa using hxy
      subst ea
      split at h
      · rename_i k p k' q hx hy
        split at h
        · rename_i hk
          subst hk
          cases h
          have h1 := he x
          have h2 := he y
          rw [hx] at h1
          rw [hy] at h2
          simp only [semOf, List.map_toArray, List.map_cons, List.map_nil]
          rw [h1.int, h2.int]
          refine Done.pure hR (v := .int k (if q > p then q else p)) ?_ (.d (R1.int _ _))
          simp [Builtin.max_, Builtin.max2]
        · simp at h
      · simp at h
    · simp at h
  · rename_i T x hi mx
    split at h
    · rename_i E ds k1 hh k2 mm hu hds h1 h2
      split at h
      · rename_i sz hs
        cases h
        obtain ⟨f0, f1, rfl⟩ := hF
        obtain ⟨ad, n, q, hv, hr, hn⟩ := avSl_sound (he x) hds
        have e1 := he hi
        rw [h1] at e1
        have e2 := he mx
        rw [h2] at e2
        simp only [semOf]
        rw [hv, Option.map_none, Option.map_some, Option.map_some, e1.int, e2.int]
        exact slice_full_sound hR hu hs (hv ▸ hr) hn f0 f1
      · simp at h
    · simp at h
  · simp at h
end
end Go.Sx
/- Rows of values and lists of data; append. -/
namespace Go.Sx
open Go

def flat (vs : List Value) : List Value := (vs.map fun v => v.cells.toList).flatten

section
variable {P : Program} {c : Cx} {H : List Box} {w : World}

theorem flat_append (xs ys : List Value) : flat (xs ++ ys) = flat xs ++ flat ys := by simp [flat]

theorem row_lens {I : Nat → Nat → Prop} {J : Nat → Prop} {vs : List Value} {ds : List D} {sz : Nat} (h : All2 (RV I J w) vs ds) (hsz : ∀ d ∈ ds, d.cells.length = sz) :
    ∀ l ∈ vs.map (fun v => v.cells.toList), l.length = sz := by
  intro l hl
  obtain ⟨v, hv, rfl⟩ := List.mem_map.1 hl
  obtain ⟨i, hi, he⟩ := List.mem_iff_getElem.1 hv
  have hi' : i < ds.length := by rw [← h.1]; exact hi
  have := h.2 i v ds[i] (by simp [hi, he]) (by simp [hi'])
  rw [this.cells.1]
  exact hsz _ (List.getElem_mem _)

theorem flatten_length {α : Type} {sz : Nat} : ∀ (L : List (List α)), (∀ l ∈ L, l.length = sz) → L.flatten.length = L.length * sz
  | [], _ => by simp
  | l :: L, h => by
    rw [List.flatten_cons, List.length_append, flatten_length L (fun x hx => h x (by simp [hx])), h l (by simp), List.length_cons, Nat.add_mul]
    omega

theorem flat_length {I : Nat → Nat → Prop} {J : Nat → Prop} {vs : List Value} {ds : List D} {sz : Nat} (h : All2 (RV I J w) vs ds) (hsz : ∀ d ∈ ds, d.cells.length = sz) : (flat vs).length = ds.length * sz := by
  rw [flat, flatten_length _ (row_lens h hsz)]
  simp [h.1]

/-- A row of cells that holds the values, read as a list of data. -/
theorem R1.of_row {I : Nat → Nat → Prop} {J : Nat → Prop} {vs : List Value} {ds : List D} {sz cap b off : Nat} (h : All2 (RV I J w) vs ds) (hsz : ∀ d ∈ ds, d.cells.length = sz)
    (hc : ∀ (j : Nat) u, (flat vs)[j]? = some u → I b (off + j) ∧ w.cell? ⟨b, off + j, none⟩ = some u) (hcap : ds.length ≤ cap) : R1 I J w (.slice (some ⟨b, off, none⟩) ds.length cap) (.sl ds) := by
  have hget : ∀ i j d, cellAt ds i j = some d → ∃ u, (flat vs)[i * sz + j]? = some u ∧ R1 I J w u d := by
    intro i j d hd
    unfold cellAt at hd
    cases hi : ds[i]? with
    | none => rw [hi] at hd; simp at hd
    | some x =>
      rw [hi] at hd; simp only [Option.bind_some] at hd
      obtain ⟨v, hv, hr⟩ := h.get hi
      obtain ⟨u, hu, hr'⟩ := hr.cells.get hd
      have hj : j < sz := by
        have : j < x.cells.length := by rcases Nat.lt_or_ge j x.cells.length with h' | h'; exact h'; simp [List.getElem?_eq_none h'] at hd
        rw [hsz x (List.mem_of_getElem? hi)] at this; exact this
      refine ⟨u, ?_, hr'⟩
      rw [flat, flat_get _ _ _ (row_lens h hsz) hj]
      simp [hv]
      simpa using hu
  refine R1.sl b off cap sz ds (fun i j => ((flat vs)[i * sz + j]?).getD undef) hsz ?_ ?_ hcap
  · intro i j d hd
    obtain ⟨u, hu, _⟩ := hget i j d hd
    have := hc _ _ hu
    rw [hu, Nat.add_assoc]
    exact this
  · intro i j d hd
    obtain ⟨u, hu, hr⟩ := hget i j d hd
    rw [hu]
    exact hr

theorem mem_cellAt {ds : List D} {i : Nat} {d : D} (h : ds[i]? = some d) {j : Nat} {x : D} (hj : d.cells[j]? = some x) : cellAt ds i j = some x := by simp [cellAt, h, hj]

/-- A list of data that a slice reads as: its row of values. -/
theorem R1.row {I : Nat → Nat → Prop} {J : Nat → Prop} {b off n cap : Nat} {ds : List D} {sz : Nat} (h : R1 I J w (.slice (some ⟨b, off, none⟩) n cap) (.sl ds)) (hsz : ∀ d ∈ ds, d.cells.length = sz) :
    ∃ vs : List Value, All2 (RV I J w) vs ds ∧ ∀ (j : Nat) u, (flat vs)[j]? = some u → I b (off + j) ∧ w.cell? ⟨b, off + j, none⟩ = some u := by
  cases h with
  | emp => exact ⟨[], All2.nil, fun j u hu => by simp [flat] at hu⟩
  | sl b off cap sz' ds vals hsz' hc hr hcap =>
    have hss : ∀ d ∈ ds, sz' = sz := fun d hd => by rw [← hsz' d hd, ← hsz d hd]
    let mk : Nat → D → Value := fun i d => match d with
      | .agg cs => .agg ((List.range cs.length).map fun j => vals i j).toArray
      | _ => vals i 0
    have hcells : ∀ i d, ds[i]? = some d → (mk i d).cells.toList = (List.range sz).map fun j => vals i j := by
      intro i d hd
      have hl := hsz d (List.mem_of_getElem? hd)
      cases d with
      | agg cs => simp only [D.cells] at hl; simp [mk, Value.cells, hl]
      | _ =>
        simp only [D.cells, List.length_cons, List.length_nil] at hl
        have hone : (vals i 0).oneCell' = true := (hr i 0 _ (mem_cellAt hd rfl)).oneCell
        rw [← hl]
        simp [mk]
        generalize vals i 0 = z at *
        cases z <;> first | rfl | (simp [Value.oneCell'] at hone)
    refine ⟨(ds.zipIdx).map fun p => mk p.2 p.1, ⟨by simp, fun i v d hv hd => ?_⟩, fun j u hu => ?_⟩
    · simp only [List.getElem?_map, List.getElem?_zipIdx, hd] at hv
      simp at hv
      subst hv
      cases d with
      | agg cs =>
        refine ⟨_, rfl, by simp, fun j v x hv hx => ?_⟩
        have hlt : j < cs.length := by rcases Nat.lt_or_ge j cs.length with h' | h'; exact h'; simp [List.getElem?_eq_none h'] at hx
        simp [hlt] at hv
        subst hv
        exact hr i j x (mem_cellAt hd hx)
      | _ => exact (hr i 0 _ (mem_cellAt hd rfl)).rv
    · have hflat : flat ((ds.zipIdx).map fun p => mk p.2 p.1) = ((List.range ds.length).map fun i => (List.range sz).map fun j => vals i j).flatten := by
        unfold flat
        congr 1
        apply List.ext_getElem?
        intro i
        simp only [List.getElem?_map, List.getElem?_zipIdx]
        by_cases hi : i < ds.length
        · have e1 : ds[i]? = some ds[i] := by simp [hi]
          simp only [e1, Option.map_some, Nat.zero_add, hcells i _ e1]
          simp [hi]
        · simp [hi]
      rw [hflat] at hu
      by_cases hsz0 : sz = 0
      · have : ((List.range ds.length).map fun i => (List.range sz).map fun j => vals i j).flatten = [] := by
          rw [List.flatten_eq_nil_iff]; intro l hl; obtain ⟨i, _, rfl⟩ := List.mem_map.1 hl; simp [hsz0]
        rw [this] at hu; simp at hu
      · have e2 : j = j / sz * sz + j % sz := by rw [Nat.mul_comm]; exact (Nat.div_add_mod j sz).symm
        rw [e2, flat_get (sz := sz) _ _ _ (by intro l hl; obtain ⟨i, _, rfl⟩ := List.mem_map.1 hl; simp) (Nat.mod_lt _ (by omega))] at hu
        have hi : j / sz < ds.length := by
          rcases Nat.lt_or_ge (j / sz) ds.length with h' | h'
          · exact h'
          · simp [List.getElem?_eq_none (show (List.range ds.length).length ≤ j / sz by simpa using h')] at hu
        have hjm : j % sz < sz := Nat.mod_lt _ (by omega)
        simp [hi, hjm] at hu
        subst hu
        have e1 : ds[j / sz]? = some ds[j / sz] := by simp [hi]
        have hl := hsz _ (List.mem_of_getElem? e1)
        have hx : ds[j / sz].cells[j % sz]? = some (ds[j / sz].cells[j % sz]'(by rw [hl]; exact hjm)) := by simp [hl, hjm]
        have := hc _ _ _ (mem_cellAt e1 hx)
        rw [hss _ (List.mem_of_getElem? e1), Nat.add_assoc, ← e2] at this
        exact this
end
end Go.Sx
/- append. -/
namespace Go.Sx
open Go

section
variable {P : Program} {c : Cx} {H : List Box} {w w' : World}

/-- More cells that nobody writes any more. -/
def Cx.more (c : Cx) (S : Nat → Nat → Prop) : Cx := { c with I := fun b o => c.I b o ∨ S b o }

theorem Ext.more (c : Cx) (w : World) (S : Nat → Nat → Prop) (hS : ∀ b o, S b o → ∃ l k : Nat, c.ρ[l]? = some (some (b, k))) : Ext c w (c.more S) w :=
  ⟨rfl, rfl, rfl, fun _ _ h => .inl h, fun _ h => h, fun _ _ _ => rfl, fun _ _ => rfl, Nat.le_refl _, fun _ _ _ => rfl, fun b o h => by
    rcases h with h | h
    · exact .inl h
    · exact .inr (.inr (hS b o h)), fun _ h => .inl h, fun l _ k h => .inl ⟨l, k, h⟩⟩

theorem Keep.more (c : Cx) (H : List Box) (S : Nat → Nat → Prop) : Keep c H (c.more S) H := Keep.refl c H

theorem HR.more (hR : HR c H w) (S : Nat → Nat → Prop) (hS : ∀ b o, S b o → ∃ l k : Nat, c.ρ[l]? = some (some (b, k))) (h1 : ∀ b o, S b o → b < w.heap.size) (h2 : ∀ b o l k : Nat, S b o → c.ρ[l]? = some (some (b, k)) → ∃ n sz, H[l]? = some (.vec n sz) ∧ o < n * sz) : HR (c.more S) H w where
  len := hR.len
  inj := hR.inj
  box l b k x a b' := (hR.box l b k x a b').ext (Ext.more c w S hS) (Keep.more c H S) rfl
  non := hR.non
  lt := hR.lt
  ilt b o h := by rcases h with h | h; exact hR.ilt b o h; exact h1 b o h
  jlt := hR.jlt
  iap b o l k h h' := by rcases h with h | h; exact hR.iap b o l k h h'; exact h2 b o l k h h'
  jap := hR.jap

/-- A growing slice moves to a new block. -/
def Cx.moved (c : Cx) (l b k : Nat) : Cx := { c with ρ := c.ρ.set l (some (b, k)) }

theorem Ext.moved {l : Nat} (o : Obj) (k : Nat) (hR : HR c H w) : Ext c w (c.moved l w.heap.size k) { w with heap := w.heap.push o } where
  os := rfl
  tape := rfl
  output := rfl
  isub _ _ h := h
  jsub _ h := h
  icell b o h := cell_of_heap (heap_push_lt (hR.ilt b o h)) _ _
  jobj r h := heap_push_lt (hR.jlt r h)
  size := by simp
  frame b hb _ := heap_push_lt hb
  inew _ _ h := .inl h
  jnew _ h := .inl h
  fresh l' b k' h := by
    by_cases e : l = l'
    · subst e
      by_cases hl : l < c.ρ.length
      · simp only [Cx.moved] at h
        rw [List.getElem?_set] at h
        simp [hl] at h
        right
        omega
      · simp only [Cx.moved] at h
        rw [List.getElem?_set] at h
        simp [hl] at h
    · simp only [Cx.moved] at h
      rw [set_other e] at h
      exact .inl ⟨l', k', h⟩

theorem Keep.vec {l n n' sz : Nat} {c' : Cx} (hl : H[l]? = some (.vec n sz)) (hn : n ≤ n') (ho : ∀ m, m ≠ l → c'.ρ[m]? = c.ρ[m]?) (he : n = n' → c'.ρ[l]? = c.ρ[l]?) : Keep c H c' (H.set l (.vec n' sz)) := by
  intro m y hy
  by_cases e : l = m
  · subst e
    rw [hl] at hy
    simp at hy
    subst hy
    exact ⟨n', set_same hl, hn, he⟩
  · have := ho m (Ne.symm e)
    cases y <;> simp only [set_other e, hy, this] <;> simp

theorem HR.moved {l n n' sz k : Nat} (o : Obj) (hR : HR c H w) (hl : H[l]? = some (.vec n sz)) (hn : n < n')
    (hx : BoxR (c.moved l w.heap.size k) (H.set l (.vec n' sz)) { w with heap := w.heap.push o } w.heap.size k (.vec n' sz)) :
    HR (c.moved l w.heap.size k) (H.set l (.vec n' sz)) { w with heap := w.heap.push o } := by
  have hlt : l < c.ρ.length := by rw [hR.len]; rcases Nat.lt_or_ge l H.length with h' | h'; exact h'; simp [List.getElem?_eq_none h'] at hl
  have hat : (c.moved l w.heap.size k).ρ[l]? = some (some (w.heap.size, k)) := by
    simp only [Cx.moved]; rw [List.getElem?_set]; simp [hlt]
  have hoth : ∀ m, m ≠ l → (c.moved l w.heap.size k).ρ[m]? = c.ρ[m]? := fun m hm => by
    simp only [Cx.moved]; exact set_other (Ne.symm hm)
  have kp : Keep c H (c.moved l w.heap.size k) (H.set l (.vec n' sz)) := Keep.vec hl (Nat.le_of_lt hn) hoth (fun e => by omega)
  refine ⟨by simp [Cx.moved, hR.len], ?_, ?_, ?_, ?_, ?_, ?_, ?_, ?_⟩
  · intro l1 l2 b k1 k2 h1 h2
    by_cases e1 : l1 = l <;> by_cases e2 : l2 = l
    · omega
    · subst e1
      rw [hat] at h1
      rw [hoth l2 e2] at h2
      simp at h1
      have := hR.lt l2 b k2 h2
      omega
    · subst e2
      rw [hat] at h2
      rw [hoth l1 e1] at h1
      simp at h2
      have := hR.lt l1 b k1 h1
      omega
    · rw [hoth l1 e1] at h1
      rw [hoth l2 e2] at h2
      exact hR.inj l1 l2 b k1 k2 h1 h2
  · intro m b k1 x h1 h2
    by_cases e : m = l
    · subst e
      rw [hat] at h1
      rw [set_same hl] at h2
      simp at h1 h2
      obtain ⟨rfl, rfl⟩ := h1
      subst h2
      exact hx
    · rw [hoth m e] at h1
      rw [set_other (Ne.symm e)] at h2
      exact (hR.box m b k1 x h1 h2).ext (Ext.moved o k hR) kp (heap_push_lt (hR.lt m b k1 h1))
  · intro m x h1 h2
    by_cases e : m = l
    · subst e; rw [hat] at h1; simp at h1
    · rw [hoth m e] at h1
      rw [set_other (Ne.symm e)] at h2
      exact hR.non m x h1 h2
  · intro m b k1 h1
    by_cases e : m = l
    · subst e; rw [hat] at h1; simp at h1; simp; omega
    · rw [hoth m e] at h1; have := hR.lt m b k1 h1; simp; omega
  · intro b o hi
    have := hR.ilt b o hi
    simp; omega
  · intro r hr
    have := hR.jlt r hr
    simp; omega
  · intro b o m k1 hi h1
    by_cases e : m = l
    · subst e; rw [hat] at h1; simp at h1
      have := hR.ilt b o hi
      omega
    · rw [hoth m e] at h1
      obtain ⟨a, b', h3, h4⟩ := hR.iap b o m k1 hi h1
      exact ⟨a, b', by rw [set_other (Ne.symm e)]; exact h3, h4⟩
  · intro r m k1 hr h1
    by_cases e : m = l
    · subst e; rw [hat] at h1; simp at h1
      have := hR.jlt r hr
      omega
    · rw [hoth m e] at h1
      exact hR.jap r m k1 hr h1

/-- A growing slice grows where it lies. -/
theorem Ext.setRow {b : Nat} {cs old : Array Value} {T : TypeId} (hb : w.heap[b]? = some (.cells old T (0, 0))) (hi : ∀ o, c.I b o → cs[o]? = old[o]?) (hj : ¬ c.J b) (hρ : ∃ l k : Nat, c.ρ[l]? = some (some (b, k))) : Ext c w c (w.setRow b cs) where
  os := rfl
  tape := rfl
  output := rfl
  isub _ _ h := h
  jsub _ h := h
  icell b' o h := by
    by_cases e : b' = b
    · subst e
      simp only [World.cell?, setRow_heap w b' old cs T (0, 0) hb, hb]
      simp [hi o h]
    · exact cell_of_heap (setRow_other w b b' cs e) _ _
  jobj r h := setRow_other w b r cs (fun e => hj (e ▸ h))
  size := by simp
  frame b' _ hn := setRow_other w b b' cs (fun e => by subst e; obtain ⟨l, k, hl⟩ := hρ; exact hn l k hl)
  inew _ _ h := .inl h
  jnew _ h := .inl h
  fresh l b k h := .inl ⟨l, k, h⟩

theorem HR.setRow {l b k n n' sz : Nat} {cs old : Array Value} {T : TypeId} (hR : HR c H w) (hl : H[l]? = some (.vec n sz)) (hρ : c.ρ[l]? = some (some (b, k))) (hb : w.heap[b]? = some (.cells old T (0, 0)))
    (hi : ∀ o, c.I b o → cs[o]? = old[o]?) (hn : n ≤ n') (hk : n' ≤ k) (hs : cs.size = k * sz) : HR c (H.set l (.vec n' sz)) (w.setRow b cs) := by
  have hj : ¬ c.J b := fun h => hR.jap b l k h hρ
  have e := Ext.setRow (cs := cs) hb hi hj ⟨l, k, hρ⟩
  have kp : Keep c H c (H.set l (.vec n' sz)) := Keep.vec hl hn (fun _ _ => rfl) (fun _ => rfl)
  refine ⟨by simp [hR.len], hR.inj, ?_, ?_, ?_, ?_, ?_, ?_, hR.jap⟩
  · intro m b1 k1 x h1 h2
    by_cases em : m = l
    · subst em
      rw [set_same hl] at h2
      rw [hρ] at h1
      simp at h1 h2
      obtain ⟨rfl, rfl⟩ := h1
      subst h2
      exact ⟨cs, T, setRow_heap w b old cs T (0, 0) hb, hs, hk⟩
    · rw [set_other (Ne.symm em)] at h2
      refine (hR.box m b1 k1 x h1 h2).ext e kp (setRow_other w b b1 cs (fun e' => ?_))
      subst e'
      exact em (hR.inj m l b1 k1 k h1 hρ)
  · intro m x h1 h2
    by_cases em : m = l
    · subst em; rw [hρ] at h1; simp at h1
    · rw [set_other (Ne.symm em)] at h2; exact hR.non m x h1 h2
  · intro m b1 k1 h1; simp; exact hR.lt m b1 k1 h1
  · intro b1 o h; simp; exact hR.ilt b1 o h
  · intro r h; simp; exact hR.jlt r h
  · intro b1 o m k1 h h1
    obtain ⟨a, s, h3, h4⟩ := hR.iap b1 o m k1 h h1
    by_cases em : m = l
    · subst em
      rw [hl] at h3
      simp at h3
      obtain ⟨rfl, rfl⟩ := h3
      exact ⟨n', sz, set_same hl, Nat.lt_of_lt_of_le h4 (Nat.mul_le_mul_right _ hn)⟩
    · exact ⟨a, s, by rw [set_other (Ne.symm em)]; exact h3, h4⟩
end
end Go.Sx
/- append, run. -/
namespace Go.Sx
open Go

/-- What is to be shown of an operation that changes boxes. -/
def DoneH (P : Program) (c : Cx) (H : List Box) (w : World) (s : Sem Value) (a : AV) (H' : List Box) : Prop :=
  ∃ v w' c', s.run P w = .ok v w' ∧ Ext c w c' w' ∧ Keep c H c' H' ∧ HR c' H' w' ∧ RA c' H' w' a v

def FA (ds es : List D) (sz bytes : Nat) : Prop := ((ds ++ es).all fun d => d.cells.length == sz) = true ∧ (ds.length + es.length) * bytes ≤ 140737488355328

section
variable {P : Program} {c : Cx} {H : List Box} {w : World}

theorem run_append_none {T E ty : TypeId} {i : TypeInfo} {a : Option Addr} {n k : Nat} {u : Value} (hu : P.underlying T = some (.slice E)) (hi : P.info? E = some i) (hk : n ≤ k) (hx : u = .slice none 0 0 ∨ ∃ b q, u = .slice (some b) 0 q) :
    (Builtin.append_ #[T, T] ty #[.slice a n k, u]).run P w = .ok (.slice a n k) w := by
  rcases hx with rfl | ⟨b, q, rfl⟩ <;> cases a <;>
    simp [Builtin.append_, run_underlying hu, sizeOf, typeInfo, hi, Builtin.lenOf, hk, Builtin.firstCells, loadCells, loadCellsFrom, storeCells]

theorem run_append_room' (t ty e T' : TypeId) (i : TypeInfo) (ht : P.underlying t = some (.slice e)) (hi : P.info? e = some i)
    (g sLen sCap : Nat) (cur : Array Value) (hg : w.heap[g]? = some (.cells cur T' (0, 0)))
    (a : Addr) (m c : Nat) (news : List Value) (hl : news.length = m * i.size) (hnews : ∀ (j : Nat) u, news[j]? = some u → w.cell? (a.add j) = some u) (h1 : ∀ u ∈ news, u.oneCell' = true)
    (hroom : sLen + m ≤ sCap) (hfit : sLen * i.size + news.length ≤ cur.size) :
    (Builtin.append_ #[t, t] ty #[.slice (some ⟨g, 0, none⟩) sLen sCap, .slice (some a) m c]).run P w =
      .ok (.slice (some ⟨g, 0, none⟩) (sLen + m) sCap) (w.setRow g (cur.toList.take (sLen * i.size) ++ news ++ cur.toList.drop (sLen * i.size + news.length)).toArray) := by
  have hf := run_firstCells_some (P := P) w i.size m a m c news hl hnews
  have hst := run_storeCells_at P g (sLen * i.size) T' news 0 cur w hg (by simpa using hfit) h1
  simp only [Nat.add_zero] at hst
  simp [Builtin.append_, run_underlying ht, sizeOf, typeInfo, hi, Builtin.lenOf, hroom, hf, add_none, hst]

theorem flat_one {I : Nat → Nat → Prop} {J : Nat → Prop} {vs : List Value} {ds : List D} (h : All2 (RV I J w) vs ds) : ∀ u ∈ flat vs, u.oneCell' = true := by
  intro u hu
  unfold flat at hu
  obtain ⟨l, hl, hul⟩ := List.mem_flatten.1 hu
  obtain ⟨v, hv, rfl⟩ := List.mem_map.1 hl
  obtain ⟨i, hi, he⟩ := List.mem_iff_getElem.1 hv
  have hi' : i < ds.length := by rw [← h.1]; exact hi
  have h2 := (h.2 i v ds[i] (by simp [hi, he]) (by simp [hi'])).cells
  obtain ⟨j, hj, hej⟩ := List.mem_iff_getElem.1 hul
  have hj' : j < ds[i].cells.length := by rw [← h2.1]; exact hj
  exact (h2.2 j u _ (by rw [List.getElem?_eq_getElem hj, hej]) (List.getElem?_eq_getElem hj')).oneCell

theorem all_of_FA {ds es : List D} {sz bytes : Nat} (h : FA ds es sz bytes) : (∀ d ∈ ds, d.cells.length = sz) ∧ (∀ d ∈ es, d.cells.length = sz) ∧ (∀ d ∈ ds ++ es, d.cells.length = sz) := by
  have := List.all_eq_true.1 h.1
  have h' : ∀ d ∈ ds ++ es, d.cells.length = sz := fun d hd => by simpa using this d hd
  exact ⟨fun d hd => h' d (by simp [hd]), fun d hd => h' d (by simp [hd]), h'⟩

/-- The growth, whatever the slice: old values and new ones in a new block. -/
theorem run_grow {T E ty : TypeId} {i : TypeInfo} {z : Value} {ds es : List D} {a : Option Addr} {n k : Nat} {b' : Nat} {o' q : Nat} (hu : P.underlying T = some (.slice E)) (hi : P.info? E = some i) (hz : i.zero = some z)
    (hs : R1 c.I c.J w (.slice a n k) (.sl ds)) (hx : R1 c.I c.J w (.slice (some ⟨b', o', none⟩) es.length q) (.sl es)) (hF : FA ds es i.size i.bytes) (hb : 0 < i.bytes) (hne : 0 < es.length) (hg : k < ds.length + es.length) :
    ∃ vs us cap, All2 (RV c.I c.J w) vs ds ∧ All2 (RV c.I c.J w) us es ∧ ds.length + es.length ≤ cap ∧
      (Builtin.append_ #[T, T] ty #[.slice a n k, .slice (some ⟨b', o', none⟩) es.length q]).run P w =
        .ok (.slice (some ⟨w.heap.size, 0, none⟩) (ds.length + es.length) cap)
          (w.drew.alloc (.cells (flat (vs ++ us) ++ (Builtin.zeroCells z.cells (cap - (ds.length + es.length))).toList).toArray E)) := by
  obtain ⟨a1, a2, a3⟩ := all_of_FA hF
  obtain ⟨us, hus, hcu⟩ := hx.row a2
  have hl2 : (flat us).length = es.length * i.size := flat_length hus a2
  have hnews : ∀ (j : Nat) v, (flat us)[j]? = some v → w.cell? ((⟨b', o', none⟩ : Addr).add j) = some v := fun j v hj => by rw [add_none]; exact (hcu j v hj).2
  have h47 : ds.length + es.length ≤ 140737488355328 := Nat.le_trans (Nat.le_mul_of_pos_right _ hb) hF.2
  cases hs with
  | nil =>
    refine ⟨[], us, grownCap w es.length 0 E, All2.nil, hus, by have := grownCap_ge w es.length 0 E; simpa using this, ?_⟩
    rw [run_append_nil (P := P) w T ty E i z hu hi hz ⟨b', o', none⟩ es.length q (flat us) hl2 hnews hne (by simp at h47; omega) (by have := hF.2; simp at this; omega)]
    simp only [List.length_nil, Nat.zero_add, List.nil_append]
    congr 2
    apply congrArg (fun x => Obj.cells x E)
    apply Array.ext'
    simp
  | emp a =>
    refine ⟨[], us, grownCap w (0 + es.length) k E, All2.nil, hus, grownCap_ge w _ _ E, ?_⟩
    rw [run_append_grow (P := P) w T ty E i z hu hi hz a 0 k [] (by simp) (by intro j v hj; simp at hj) ⟨b', o', none⟩ es.length q (flat us) hl2 hnews (by simpa using hg) (by simp at h47; omega) (growslice_fits (by simpa using hg) (by simpa using hF.2))]
    congr 2
    apply congrArg (fun x => Obj.cells x E)
    apply Array.ext'
    simp [flat]
  | sl b off cap' sz' ds vals hsz hc hr hcap =>
    obtain ⟨vs, hvs, hcv⟩ := (R1.sl (I := c.I) (J := c.J) (w := w) b off k sz' ds vals hsz hc hr hcap).row a1
    have hl1 : (flat vs).length = ds.length * i.size := flat_length hvs a1
    have holds : ∀ (j : Nat) v, (flat vs)[j]? = some v → w.cell? ((⟨b, off, none⟩ : Addr).add j) = some v := fun j v hj => by rw [add_none]; exact (hcv j v hj).2
    refine ⟨vs, us, grownCap w (ds.length + es.length) k E, hvs, hus, grownCap_ge w _ _ E, ?_⟩
    rw [run_append_grow (P := P) w T ty E i z hu hi hz ⟨b, off, none⟩ ds.length k (flat vs) hl1 holds ⟨b', o', none⟩ es.length q (flat us) hl2 hnews hg (by omega) (growslice_fits hg hF.2)]
    congr 2
    apply congrArg (fun x => Obj.cells x E)
    apply Array.ext'
    simp [flat_append]

theorem cell_new {w1 : World} {cs : List Value} {E : TypeId} {fr : Nat × Nat} {j : Nat} {u : Value} (h : cs[j]? = some u) : ({ w1 with heap := w1.heap.push (.cells cs.toArray E fr) } : World).cell? ⟨w1.heap.size, 0 + j, none⟩ = some u := by
  simp only [World.cell?, Array.getElem?_push_size, Nat.zero_add]
  simp [h]

theorem All2.ext' {c' : Cx} {w' : World} {vs : List Value} {ds : List D} (e : Ext c w c' w') (h : All2 (RV c.I c.J w) vs ds) : All2 (RV c'.I c'.J w') vs ds := h.mono fun _ _ h => h.ext e

theorem R1.len {I : Nat → Nat → Prop} {J : Nat → Prop} {a : Option Addr} {n k : Nat} {ds : List D} (h : R1 I J w (.slice a n k) (.sl ds)) : n = ds.length ∧ n ≤ k := by
  cases h with
  | nil => simp
  | emp => simp
  | sl => exact ⟨rfl, by assumption⟩

/-- The growth into a new box. -/
theorem grow_full {T E ty : TypeId} {i : TypeInfo} {z : Value} {ds es : List D} {a : Option Addr} {n b' o' q : Nat} (hR : HR c H w) (hu : P.underlying T = some (.slice E)) (hi : P.info? E = some i) (hz : i.zero = some z) (hzs : z.cells.size = i.size)
    (hs : R1 c.I c.J w (.slice a n n) (.sl ds)) (hx : R1 c.I c.J w (.slice (some ⟨b', o', none⟩) es.length q) (.sl es)) (hF : FA ds es i.size i.bytes) (hb : 0 < i.bytes) (hne : 0 < es.length) :
    DoneH P c H w (Builtin.append_ #[T, T] ty #[.slice a n n, .slice (some ⟨b', o', none⟩) es.length q]) (.vec H.length (ds ++ es)) (H ++ [.vec (ds.length + es.length) i.size]) := by
  obtain ⟨a1, a2, a3⟩ := all_of_FA hF
  have hn := hs.len.1
  obtain ⟨vs, us, cap, hvs, hus, hcap, hrun⟩ := run_grow (ty := ty) hu hi hz hs hx hF hb hne (by omega)
  have hall : All2 (RV c.I c.J w) (vs ++ us) (ds ++ es) := hvs.append hus
  have hfl : (flat (vs ++ us)).length = (ds.length + es.length) * i.size := by rw [flat_length hall a3]; simp
  let w1 : World := { w with drawn := w.drawn + 1 }
  have hR1 : HR c H w1 := hR.drew _
  let row := flat (vs ++ us) ++ (Builtin.zeroCells z.cells (cap - (ds.length + es.length))).toList
  have hrow : row.length = cap * i.size := by
    simp only [row, List.length_append, hfl, Array.length_toList, size_zeroCells, hzs, ← Nat.add_mul]
    congr 1; omega
  have e1 := Ext.push_box c w1 (.cells row.toArray E) cap hR1.ilt hR1.jlt
  have hR2 := HR.push_box hR1 (.cells row.toArray E) cap (.vec (ds.length + es.length) i.size) ⟨row.toArray, E, heap_push_eq w1 _, by simpa using hrow, hcap⟩
  let S : Nat → Nat → Prop := fun b o => b = w1.heap.size ∧ o < (ds.length + es.length) * i.size
  have hat : (c.grow w1.heap.size cap).ρ[H.length]? = some (some (w1.heap.size, cap)) := by
    have : (c.grow w1.heap.size cap).ρ = c.ρ ++ [some (w1.heap.size, cap)] := rfl
    rw [this, ← hR.len]; simp
  have hS : ∀ b o, S b o → ∃ l k : Nat, (c.grow w1.heap.size cap).ρ[l]? = some (some (b, k)) := fun b o h => ⟨_, _, (by have h1 := h.1; subst h1; exact hat)⟩
  have hR3 := HR.more hR2 S hS (fun b o h => by rw [h.1]; simp) (fun b o l k h hl => by
    obtain ⟨rfl, ho⟩ := h
    have hll := hR2.inj l H.length _ _ _ hl hat
    subst hll
    exact ⟨_, _, by simp, ho⟩)
  have e2 := Ext.more (c.grow w1.heap.size cap) { w1 with heap := w1.heap.push (.cells row.toArray E) } S hS
  have eall : Ext c w ((c.grow w1.heap.size cap).more S) { w1 with heap := w1.heap.push (.cells row.toArray E) } := (Ext.drew c w _).trans (e1.trans e2)
  refine ⟨_, _, _, hrun, eall, (Keep.grow c H _ cap _ hR.len).trans (Keep.more _ _ _), hR3, ?_⟩
  have hread : R1 ((c.grow w1.heap.size cap).more S).I ((c.grow w1.heap.size cap).more S).J { w1 with heap := w1.heap.push (.cells row.toArray E) } (.slice (some ⟨w1.heap.size, 0, none⟩) (ds ++ es).length cap) (.sl (ds ++ es)) := by
    refine R1.of_row (All2.ext' eall hall) a3 (fun j u hj => ⟨.inr ⟨rfl, ?_⟩, ?_⟩) (by simpa using hcap)
    · have : j < (flat (vs ++ us)).length := by rcases Nat.lt_or_ge j (flat (vs ++ us)).length with h' | h'; exact h'; simp [List.getElem?_eq_none h'] at hj
      rw [hfl] at this; omega
    · refine cell_new ?_
      have : j < (flat (vs ++ us)).length := by rcases Nat.lt_or_ge j (flat (vs ++ us)).length with h' | h'; exact h'; simp [List.getElem?_eq_none h'] at hj
      simp only [row]
      rw [List.getElem?_append_left this]; exact hj
  have hlen : (ds ++ es).length = ds.length + es.length := by simp
  rw [hlen] at hread
  refine RA.vec (n := ds.length + es.length) (sz := i.size) hread (by simp) (by simp) (fun _ => .inr ⟨w1.heap.size, rfl, hat⟩)
end
end Go.Sx
/- append onto a growing slice; append altogether. -/
namespace Go.Sx
open Go

def appendF (P : Program) (H : List Box) (T : TypeId) (s x : AV) : Option (AV × List Box × Prop) :=
  match P.underlying T with
  | some (.slice E) => match P.info? E with
    | some i => match i.zero with
      | some z =>
        if 0 < i.size ∧ 0 < i.bytes ∧ z.cells.size = i.size then
          match avSl x with
          | some es => match s with
            | .full ds => some (.vec H.length (ds ++ es), H ++ [.vec (ds.length + es.length) i.size], FA ds es i.size i.bytes)
            | .vec l ds => match H[l]? with
              | some (.vec n sz) => some (.vec l (ds ++ es), H.set l (.vec (ds.length + es.length) sz), n = ds.length ∧ sz = i.size ∧ FA ds es i.size i.bytes)
              | _ => none
            | _ => none
          | none => none
        else none
      | none => none
    | none => none
  | _ => none

section
variable {P : Program} {c : Cx} {H : List Box} {w : World}

theorem set_self {α : Type} {xs : List α} {x : α} {l : Nat} (h : xs[l]? = some x) : xs.set l x = xs := by
  apply List.ext_getElem?
  intro i
  by_cases e : l = i
  · subst e; rw [set_same h, h]
  · rw [set_other e]

/-- A growing slice that has nowhere to lie yet. -/
theorem HR.push_none {n sz : Nat} (hR : HR c H w) : HR { c with ρ := c.ρ ++ [none] } (H ++ [.vec n sz]) w ∧ Keep c H { c with ρ := c.ρ ++ [none] } (H ++ [.vec n sz]) ∧ Ext c w { c with ρ := c.ρ ++ [none] } w := by
  have e : Ext c w { c with ρ := c.ρ ++ [none] } w := ⟨rfl, rfl, rfl, fun _ _ h => h, fun _ h => h, fun _ _ _ => rfl, fun _ _ => rfl, Nat.le_refl _, fun _ _ _ => rfl, fun _ _ h => .inl h, fun _ h => .inl h, fun l b k h => by
    rcases get_snoc_cases h with h | ⟨_, h⟩
    · exact .inl ⟨l, k, h⟩
    · simp at h⟩
  have kp : Keep c H { c with ρ := c.ρ ++ [none] } (H ++ [.vec n sz]) := by
    intro l y hy
    have hlt : l < H.length := by rcases Nat.lt_or_ge l H.length with h' | h'; exact h'; simp [List.getElem?_eq_none h'] at hy
    have e1 : (H ++ [Box.vec n sz])[l]? = some y := get_snoc_some hy
    have e2 : (c.ρ ++ [none])[l]? = c.ρ[l]? := get_snoc_lt (by have := hR.len; omega)
    cases y <;> simp only [e1, e2] <;> simp
  refine ⟨⟨by simp [hR.len], ?_, ?_, ?_, ?_, hR.ilt, hR.jlt, ?_, ?_⟩, kp, e⟩
  · intro l l' b k k' h1 h2
    rcases get_snoc_cases h1 with h1 | ⟨_, h1⟩ <;> rcases get_snoc_cases h2 with h2 | ⟨_, h2⟩ <;> first | (simp at h1; done) | (simp at h2; done) | exact hR.inj l l' b k k' h1 h2
  · intro l b k x h1 h2
    rcases get_snoc_cases h1 with h1 | ⟨_, h1⟩
    · rcases get_snoc_cases h2 with h2 | ⟨e2, h2⟩
      · exact (hR.box l b k x h1 h2).ext e kp rfl
      · have := hR.len
        rw [List.getElem?_eq_none (by omega)] at h1; simp at h1
    · simp at h1
  · intro l x h1 h2
    rcases get_snoc_cases h2 with h2 | ⟨e2, h2⟩
    · rcases get_snoc_cases h1 with h1 | ⟨e1, _⟩
      · exact hR.non l x h1 h2
      · have := hR.len
        rw [List.getElem?_eq_none (by omega)] at h2; simp at h2
    · exact .inl ⟨_, _, h2⟩
  · intro l b k h1
    rcases get_snoc_cases h1 with h1 | ⟨_, h1⟩
    · exact hR.lt l b k h1
    · simp at h1
  · intro b o l k hi h1
    rcases get_snoc_cases h1 with h1 | ⟨_, h1⟩
    · obtain ⟨a, s, h3, h4⟩ := hR.iap b o l k hi h1
      exact ⟨a, s, get_snoc_some h3, h4⟩
    · simp at h1
  · intro r l k hr h1
    rcases get_snoc_cases h1 with h1 | ⟨_, h1⟩
    · exact hR.jap r l k hr h1
    · simp at h1

theorem src_cases {u : Value} {es : List D} (h : R1 c.I c.J w u (.sl es)) : (es = [] ∧ (u = .slice none 0 0 ∨ ∃ b q, u = .slice (some b) 0 q)) ∨ (0 < es.length ∧ ∃ b o q, u = .slice (some ⟨b, o, none⟩) es.length q) := by
  cases h with
  | nil => exact .inl ⟨rfl, .inl rfl⟩
  | emp a cap => exact .inl ⟨rfl, .inr ⟨_, _, rfl⟩⟩
  | sl b off cap sz ds vals hsz hc hr hcap =>
    rcases Nat.eq_zero_or_pos es.length with h0 | h0
    · have : es = [] := List.eq_nil_of_length_eq_zero h0
      subst this
      exact .inl ⟨rfl, .inr ⟨_, _, rfl⟩⟩
    · exact .inr ⟨h0, b, off, cap, rfl⟩

/-- The growth of a growing slice. -/
theorem grow_vec {T E ty : TypeId} {i : TypeInfo} {z : Value} {ds es : List D} {a : Option Addr} {n k l b' o' q : Nat} (hR : HR c H w) (hu : P.underlying T = some (.slice E)) (hi : P.info? E = some i) (hz : i.zero = some z) (hzs : z.cells.size = i.size)
    (hl : H[l]? = some (.vec ds.length i.size)) (hs : R1 c.I c.J w (.slice a n k) (.sl ds)) (hx : R1 c.I c.J w (.slice (some ⟨b', o', none⟩) es.length q) (.sl es)) (hF : FA ds es i.size i.bytes) (hb : 0 < i.bytes) (hne : 0 < es.length) (hg : k < ds.length + es.length) :
    DoneH P c H w (Builtin.append_ #[T, T] ty #[.slice a n k, .slice (some ⟨b', o', none⟩) es.length q]) (.vec l (ds ++ es)) (H.set l (.vec (ds.length + es.length) i.size)) := by
  obtain ⟨a1, a2, a3⟩ := all_of_FA hF
  obtain ⟨vs, us, cap, hvs, hus, hcap, hrun⟩ := run_grow (ty := ty) hu hi hz hs hx hF hb hne hg
  have hall : All2 (RV c.I c.J w) (vs ++ us) (ds ++ es) := hvs.append hus
  have hfl : (flat (vs ++ us)).length = (ds.length + es.length) * i.size := by rw [flat_length hall a3]; simp
  let w1 : World := { w with drawn := w.drawn + 1 }
  have hR1 : HR c H w1 := hR.drew _
  let row := flat (vs ++ us) ++ (Builtin.zeroCells z.cells (cap - (ds.length + es.length))).toList
  have hrow : row.length = cap * i.size := by
    simp only [row, List.length_append, hfl, Array.length_toList, size_zeroCells, hzs, ← Nat.add_mul]
    congr 1; omega
  have e1 := Ext.moved (l := l) (.cells row.toArray E) cap hR1
  have hR2 := HR.moved (k := cap) (n' := ds.length + es.length) (.cells row.toArray E) hR1 hl (by omega) ⟨row.toArray, E, heap_push_eq w1 _, by simpa using hrow, hcap⟩
  let S : Nat → Nat → Prop := fun b o => b = w1.heap.size ∧ o < (ds.length + es.length) * i.size
  have hlt : l < c.ρ.length := by rw [hR.len]; rcases Nat.lt_or_ge l H.length with h' | h'; exact h'; simp [List.getElem?_eq_none h'] at hl
  have hat : (c.moved l w1.heap.size cap).ρ[l]? = some (some (w1.heap.size, cap)) := by
    have : (c.moved l w1.heap.size cap).ρ = c.ρ.set l (some (w1.heap.size, cap)) := rfl
    rw [this, List.getElem?_set]; simp [hlt]
  have hS : ∀ b o, S b o → ∃ m k : Nat, (c.moved l w1.heap.size cap).ρ[m]? = some (some (b, k)) := fun b o h => ⟨_, _, (by have h1 := h.1; subst h1; exact hat)⟩
  have hR3 := HR.more hR2 S hS (fun b o h => by rw [h.1]; simp) (fun b o m k h hm => by
    obtain ⟨rfl, ho⟩ := h
    have hll := hR2.inj m l _ _ _ hm hat
    subst hll
    exact ⟨_, _, set_same hl, ho⟩)
  have e2 := Ext.more (c.moved l w1.heap.size cap) { w1 with heap := w1.heap.push (.cells row.toArray E) } S hS
  have eall : Ext c w ((c.moved l w1.heap.size cap).more S) { w1 with heap := w1.heap.push (.cells row.toArray E) } := (Ext.drew c w _).trans (e1.trans e2)
  have kp : Keep c H (c.moved l w1.heap.size cap) (H.set l (.vec (ds.length + es.length) i.size)) := Keep.vec hl (by omega) (fun m hm => by
    have : (c.moved l w1.heap.size cap).ρ = c.ρ.set l (some (w1.heap.size, cap)) := rfl
    rw [this]; exact set_other (Ne.symm hm)) (fun e => by omega)
  refine ⟨_, _, _, hrun, eall, kp.trans (Keep.more _ _ _), hR3, ?_⟩
  have hread : R1 ((c.moved l w1.heap.size cap).more S).I ((c.moved l w1.heap.size cap).more S).J { w1 with heap := w1.heap.push (.cells row.toArray E) } (.slice (some ⟨w1.heap.size, 0, none⟩) (ds ++ es).length cap) (.sl (ds ++ es)) := by
    refine R1.of_row (All2.ext' eall hall) a3 (fun j u hj => ⟨.inr ⟨rfl, ?_⟩, ?_⟩) (by simpa using hcap)
    · have : j < (flat (vs ++ us)).length := by rcases Nat.lt_or_ge j (flat (vs ++ us)).length with h' | h'; exact h'; simp [List.getElem?_eq_none h'] at hj
      rw [hfl] at this; omega
    · refine cell_new ?_
      have : j < (flat (vs ++ us)).length := by rcases Nat.lt_or_ge j (flat (vs ++ us)).length with h' | h'; exact h'; simp [List.getElem?_eq_none h'] at hj
      simp only [row]
      rw [List.getElem?_append_left this]; exact hj
  have hlen : (ds ++ es).length = ds.length + es.length := by simp
  rw [hlen] at hread
  exact RA.vec (n := ds.length + es.length) (sz := i.size) hread (set_same hl) (by simp) (fun _ => .inr ⟨w1.heap.size, rfl, hat⟩)

/-- A growing slice grows where it lies. -/
theorem room_vec {T E ty : TypeId} {i : TypeInfo} {ds es : List D} {k l b b' o' q : Nat} (hR : HR c H w) (hu : P.underlying T = some (.slice E)) (hi : P.info? E = some i)
    (hl : H[l]? = some (.vec ds.length i.size)) (hρ : c.ρ[l]? = some (some (b, k))) (hs : R1 c.I c.J w (.slice (some ⟨b, 0, none⟩) ds.length k) (.sl ds)) (hx : R1 c.I c.J w (.slice (some ⟨b', o', none⟩) es.length q) (.sl es)) (hF : FA ds es i.size i.bytes) (hg : ds.length + es.length ≤ k) :
    DoneH P c H w (Builtin.append_ #[T, T] ty #[.slice (some ⟨b, 0, none⟩) ds.length k, .slice (some ⟨b', o', none⟩) es.length q]) (.vec l (ds ++ es)) (H.set l (.vec (ds.length + es.length) i.size)) := by
  obtain ⟨a1, a2, a3⟩ := all_of_FA hF
  obtain ⟨vs, hvs, hcv⟩ := hs.row a1
  obtain ⟨us, hus, hcu⟩ := hx.row a2
  have hl1 : (flat vs).length = ds.length * i.size := flat_length hvs a1
  have hl2 : (flat us).length = es.length * i.size := flat_length hus a2
  obtain ⟨old, T', hb, hsz, hnk⟩ := hR.box l b k _ hρ hl
  have hfit : ds.length * i.size + (flat us).length ≤ old.size := by rw [hl2, hsz, ← Nat.add_mul]; exact Nat.mul_le_mul_right _ hg
  have hrun := run_append_room' (P := P) (w := w) T ty E T' i hu hi b ds.length k old hb ⟨b', o', none⟩ es.length q (flat us) hl2 (fun j v hj => by rw [add_none]; exact (hcu j v hj).2) (flat_one hus) hg hfit
  let row := old.toList.take (ds.length * i.size) ++ flat us ++ old.toList.drop (ds.length * i.size + (flat us).length)
  have hrow : row.toArray.size = k * i.size := by
    simp only [row, List.size_toArray, List.length_append, List.length_take, List.length_drop, Array.length_toList]
    omega
  have htk : (old.toList.take (ds.length * i.size)).length = ds.length * i.size := by simp; omega
  have hlow : ∀ o, o < ds.length * i.size → row.toArray[o]? = old[o]? := by
    intro o ho
    simp only [row, List.getElem?_toArray]
    rw [List.append_assoc, List.getElem?_append_left (by omega), List.getElem?_take, if_pos ho]
    simp
  have hI : ∀ o, c.I b o → row.toArray[o]? = old[o]? := by
    intro o ho
    obtain ⟨n, sz, h1, h2⟩ := hR.iap b o l k ho hρ
    rw [hl] at h1
    simp at h1
    obtain ⟨rfl, rfl⟩ := h1
    exact hlow o h2
  have hj : ¬ c.J b := fun h => hR.jap b l k h hρ
  have e1 := Ext.setRow (cs := row.toArray) hb hI hj ⟨l, k, hρ⟩
  have hR2 := HR.setRow (cs := row.toArray) (n' := ds.length + es.length) hR hl hρ hb hI (by omega) hg hrow
  let S : Nat → Nat → Prop := fun b1 o => b1 = b ∧ o < (ds.length + es.length) * i.size
  have hS : ∀ b1 o, S b1 o → ∃ l k : Nat, c.ρ[l]? = some (some (b1, k)) := fun b1 o h => ⟨l, k, (by have h1 := h.1; subst h1; exact hρ)⟩
  have hR3 := HR.more hR2 S hS (fun b1 o h => by rw [h.1]; simp; exact hR.lt l b k hρ) (fun b1 o m k1 h hm => by
    obtain ⟨rfl, ho⟩ := h
    have hll := hR.inj m l _ _ _ hm hρ
    subst hll
    exact ⟨_, _, set_same hl, ho⟩)
  have eall : Ext c w (c.more S) (w.setRow b row.toArray) := e1.trans (Ext.more _ _ S hS)
  have kp : Keep c H c (H.set l (.vec (ds.length + es.length) i.size)) := Keep.vec hl (by omega) (fun _ _ => rfl) (fun _ => rfl)
  refine ⟨_, _, _, hrun, eall, kp.trans (Keep.more _ _ _), hR3, ?_⟩
  have hall : All2 (RV c.I c.J w) (vs ++ us) (ds ++ es) := hvs.append hus
  have hfl : (flat (vs ++ us)).length = (ds.length + es.length) * i.size := by rw [flat_length hall a3]; simp
  have hread : R1 (c.more S).I (c.more S).J (w.setRow b row.toArray) (.slice (some ⟨b, 0, none⟩) (ds ++ es).length k) (.sl (ds ++ es)) := by
    refine R1.of_row (All2.ext' eall hall) a3 (fun j u hj => ⟨.inr ⟨rfl, ?_⟩, ?_⟩) (by simpa using hg)
    · have : j < (flat (vs ++ us)).length := by rcases Nat.lt_or_ge j (flat (vs ++ us)).length with h' | h'; exact h'; simp [List.getElem?_eq_none h'] at hj
      rw [hfl] at this; omega
    · simp only [World.cell?, setRow_heap w b old row.toArray T' (0, 0) hb, Nat.zero_add, Option.isSome_none, Bool.false_eq_true, if_false]
      rw [flat_append] at hj
      by_cases hjl : j < (flat vs).length
      · rw [List.getElem?_append_left hjl] at hj
        rw [hlow j (by omega)]
        have := (hcv j u hj).2
        simp only [World.cell?, hb, Nat.zero_add, Option.isSome_none, Bool.false_eq_true, if_false] at this
        exact this
      · have hj' := hj
        rw [List.getElem?_append_right (by omega)] at hj'
        have hju : j - (flat vs).length < (flat us).length := by rcases Nat.lt_or_ge (j - (flat vs).length) (flat us).length with h' | h'; exact h'; simp [List.getElem?_eq_none h'] at hj'
        simp only [row, List.getElem?_toArray]
        rw [List.append_assoc, List.getElem?_append_right (by omega), List.getElem?_append_left (by omega), htk, ← hl1]
        exact hj'
  have hlen : (ds ++ es).length = ds.length + es.length := by simp
  rw [hlen] at hread
  exact RA.vec (n := ds.length + es.length) (sz := i.size) hread (set_same hl) (by simp) (fun _ => .inr ⟨b, rfl, hρ⟩)

theorem appendF_sound {T ty : TypeId} {s x a : AV} {sv xv : Value} {H' : List Box} {F : Prop} (hR : HR c H w) (h : appendF P H T s x = some (a, H', F)) (hF : F) (hs : RA c H w s sv) (hx : RA c H w x xv) :
    DoneH P c H w (Builtin.append_ #[T, T] ty #[sv, xv]) a H' := by
  unfold appendF at h
  split at h
  · rename_i E hu
    split at h
    · rename_i i hi
      split at h
      · rename_i z hz
        split at h
        · rename_i hpos
          obtain ⟨hp1, hp2, hp3⟩ := hpos
          split at h
          · rename_i es hes
            obtain ⟨_, _, _, hxv, hxr, _⟩ := avSl_sound hx hes
            split at h
            · rename_i ds
              cases h
              cases hs with
              | @full _ a n hs =>
                rcases src_cases hxr with ⟨rfl, hu0⟩ | ⟨h0, b', o', q, rfl⟩
                · obtain ⟨h1, h2, h3⟩ := HR.push_none (n := ds.length + ([] : List D).length) (sz := i.size) hR
                  refine ⟨_, w, _, run_append_none hu hi (Nat.le_refl _) hu0, h3, h2, h1, ?_⟩
                  rw [List.append_nil]
                  exact RA.vec (n := ds.length + ([] : List D).length) (sz := i.size) hs (by simp) (by simp) (fun _ => .inl rfl)
                · exact grow_full hR hu hi hz hp3 hs hxr hF hp2 h0
            · rename_i l ds
              split at h
              · rename_i n sz hl
                cases h
                obtain ⟨rfl, rfl, hF⟩ := hF
                cases hs with
                | @vec _ n' sz' _ a m k hs hH hn he =>
                  obtain ⟨hm1, hm2⟩ := hs.len
                  subst hm1
                  rcases src_cases hxr with ⟨rfl, hu0⟩ | ⟨h0, b', o', q, rfl⟩
                  · refine ⟨_, w, c, run_append_none hu hi hm2 hu0, Ext.refl _ _, ?_, ?_, ?_⟩
                    · simp only [List.length_nil, Nat.add_zero]; rw [set_self hl]; exact Keep.refl _ _
                    · simp only [List.length_nil, Nat.add_zero]; rw [set_self hl]; exact hR
                    · simp only [List.length_nil, Nat.add_zero, List.append_nil]; rw [set_self hl]; exact RA.vec hs hH hn he
                  · rw [hl] at hH
                    simp at hH
                    obtain ⟨rfl, rfl⟩ := hH
                    by_cases hg : ds.length + es.length ≤ k
                    · rcases he rfl with hk | ⟨b, rfl, hρ⟩
                      · omega
                      · exact room_vec hR hu hi hl hρ hs hxr hF hg
                    · exact grow_vec hR hu hi hz hp3 hl hs hxr hF hp2 h0 (by omega)
              · simp at h
            · simp at h
          · simp at h
        · simp at h
      · simp at h
    · simp at h
  · simp at h
end
end Go.Sx
/- The operations that change boxes: alloc, box, store, makeMap, mapUpdate, append. -/
namespace Go.Sx
open Go

def updD : List (D × D) → D → D → List (D × D)
  | [], k, x => [(k, x)]
  | kv :: r, k, x => if beqD k kv.1 then (k, x) :: r else kv :: updD r k x

def hopF (P : Program) (e : Operand → AV) (H : List Box) : Op → Option (AV × List Box × Prop)
  | .alloc T => (zeroV P T).map fun z => (.ptr H.length 0, H ++ [.cells T (z.cells.toList.map zeroCell)], True)
  | .box T x => (avCells (e x)).map fun cs => (.ptr H.length 0, H ++ [.cells T cs], True)
  | .store T a x =>
    match e a, avCells (e x), szOf P T with
    | .ptr l o, some xs, some n => match H[l]? with
      | some (.cells T' cs) => if xs.length = n ∧ o + n ≤ cs.length then some (.any, H.set l (.cells T' (putL cs o xs)), True) else none
      | _ => none
    | _, _, _ => none
  | .makeMap _ none => some (.map H.length, H ++ [.map []], True)
  | .mapUpdate T m k x =>
    match e m, avD1 (e k), avD (e x), P.underlying T with
    | .map l, some kd, some xd, some (.map K _) => match H[l]?, P.underlying K with
      | some (.map es), some kk => if keyOk kk kd then some (.any, H.set l (.map (updD es kd xd)), (es.all fun kv => sameKind kd kv.1) = true) else none
      | _, _ => none
    | _, _, _, _ => none
  | .call { callee := .builtin .append, args, argTypes } =>
    match args.toList, argTypes.toList with
    | [s, x], [T, T'] => if T = T' then appendF P H T (e s) (e x) else none
    | _, _ => none
  | _ => none

section
variable {P : Program} {c : Cx} {H : List Box} {w : World} {e : Operand → AV} {r : Operand → Value}

/-- A new box of cells. -/
theorem new_cells {T : TypeId} {vs : List Value} {cs : List AV} (hR : HR c H w) (hv : All2 (fun v a => RA c H w a v) vs cs) :
    let w' : World := { w with heap := w.heap.push (.cells vs.toArray T) }
    Ext c w (c.grow w.heap.size 0) w' ∧ Keep c H (c.grow w.heap.size 0) (H ++ [.cells T cs]) ∧ HR (c.grow w.heap.size 0) (H ++ [.cells T cs]) w' ∧
      RA (c.grow w.heap.size 0) (H ++ [.cells T cs]) w' (.ptr H.length 0) (.pointer (some ⟨w.heap.size, 0, none⟩)) := by
  intro w'
  have e1 := Ext.push_box c w (.cells vs.toArray T) 0 hR.ilt hR.jlt
  have kp := Keep.grow c H w.heap.size 0 (.cells T cs) hR.len
  refine ⟨e1, kp, HR.push_box hR _ 0 _ ⟨vs, heap_push_eq w _, hv.mono fun _ _ h => h.ext e1 kp⟩, .ptr (T := T) (cs := cs) (k := 0) (by simp) ?_⟩
  have : (c.grow w.heap.size 0).ρ = c.ρ ++ [some (w.heap.size, 0)] := rfl
  rw [this, ← hR.len]; simp

/-- A new map. -/
theorem new_map (hR : HR c H w) :
    let w' : World := { w with heap := w.heap.push (.map #[] 0) }
    Ext c w (c.grow w.heap.size 0) w' ∧ Keep c H (c.grow w.heap.size 0) (H ++ [.map []]) ∧ HR (c.grow w.heap.size 0) (H ++ [.map []]) w' ∧
      RA (c.grow w.heap.size 0) (H ++ [.map []]) w' (.map H.length) (.map (some w.heap.size)) := by
  intro w'
  have e1 := Ext.push_box c w (.map #[] 0) 0 hR.ilt hR.jlt
  have kp := Keep.grow c H w.heap.size 0 (.map []) hR.len
  refine ⟨e1, kp, HR.push_box hR _ 0 _ ⟨#[], 0, heap_push_eq w _, All2.nil⟩, .map (es := []) (k := 0) (by simp) ?_⟩
  have : (c.grow w.heap.size 0).ρ = c.ρ ++ [some (w.heap.size, 0)] := rfl
  rw [this, ← hR.len]; simp

/-- A store into a box. -/
theorem store_box {T T' : TypeId} {l o b k : Nat} {cs xs : List AV} {v : Value} (hR : HR c H w) (hl : H[l]? = some (.cells T' cs)) (hρ : c.ρ[l]? = some (some (b, k))) (hv : All2 (fun v a => RA c H w a v) v.cells.toList xs)
    (h1 : ∀ u ∈ v.cells.toList, u.oneCell' = true) (hs : szOf P T = some xs.length) (hfit : o + xs.length ≤ cs.length) :
    ∃ w', (Instr.storeAt T (.pointer (some ⟨b, o, none⟩)) v).run P w = .ok () w' ∧ Ext c w c w' ∧ Keep c H c (H.set l (.cells T' (putL cs o xs))) ∧ HR c (H.set l (.cells T' (putL cs o xs))) w' := by
  obtain ⟨vs, hw, hvs⟩ := hR.box l b k _ hρ hl
  have hlen : v.cells.toList.length = xs.length := hv.1
  have hfit' : o + 0 + v.cells.toList.length ≤ vs.toArray.size := by have := hvs.1; simp only [List.size_toArray]; omega
  have hrun := run_storeCells_at P b o T' v.cells.toList 0 vs.toArray w hw hfit' h1
  simp only [Nat.add_zero, ← putL_eq _ _ _ (show o + v.cells.toList.length ≤ vs.toArray.toList.length by have := hvs.1; simp only [Array.length_toList]; omega)] at hrun
  let row := putL vs o v.cells.toList
  have hw' : (w.setRow b row.toArray).heap[b]? = some (.cells row.toArray T' (0, 0)) := setRow_heap w b vs.toArray row.toArray T' (0, 0) hw
  have hnv : ∀ n sz, Box.cells T' cs ≠ .vec n sz := by intro n sz h; cases h
  have e1 : Ext c w c (w.setRow b row.toArray) := Ext.set_box (l := l) (b := b) (k := k) hρ hR rfl rfl rfl (by simp) (fun b' h => setRow_other w b b' _ h) (by rw [hl]; intro n sz h; cases h)
  have kp : Keep c H c (H.set l (.cells T' (putL cs o xs))) := Keep.set_cells hl _
  refine ⟨_, ?_, e1, kp, HR.set_box hρ hR hl (by simp) (fun b' h => setRow_other w b b' _ h) hnv e1 kp ⟨row, hw', ?_⟩⟩
  · have hsz : ¬ v.cells.size ≠ xs.length := by have := hlen; simp only [Array.length_toList] at this; omega
    simp only [Instr.storeAt, Sem.run_bind, Instr.sureAddr, Sem.run_pure, Result.andThen_ok, storeVar, run_szOf hs, if_neg hsz]
    exact hrun
  · exact (All2.putL o (hvs) hv).mono fun _ _ h => h.ext e1 kp
end
end Go.Sx
/- mapUpdate; all operations by execOp. -/
namespace Go.Sx
open Go

section
variable {P : Program} {c : Cx} {H : List Box} {w : World} {e : Operand → AV} {r : Operand → Value}

theorem sameBits_plain {k x : D} {v u : Value} (hs : sameKind k x = true) (hb : beqD k x = true) (hv : R1 c.I c.J w v k) (hu : R1 c.I c.J w u x) : Instr.sameBits 10000 u v = true := by
  cases hv <;> cases hu <;> simp [sameKind] at hs <;> simp [beqD] at hb <;> subst hb <;> (try subst hs) <;> simp [Instr.sameBits]
  rw [beq_toListBytes]; simp

def MapR (c : Cx) (w : World) : List MapEntry → List (D × D) → Prop := All2 (fun (x : MapEntry) (kv : D × D) => R1 c.I c.J w x.key kv.1 ∧ RV c.I c.J w x.val kv.2)

theorem findNow_upd {kd : TypeDesc} {k x : D} {v xv : Value} (hk : keyOk kd k = true) (hv : R1 c.I c.J w v k) (hx : RV c.I c.J w xv x) :
    ∀ (es : List (D × D)) (ents : List MapEntry) (i : Nat), MapR c w ents es → (∀ kv ∈ es, sameKind k kv.1 = true) →
    (∃ j u en, Instr.findNow kd v ents i = some (some (i + j, u)) ∧ ents[j]? = some en ∧ Instr.sameBits 10000 en.key v = true ∧ MapR c w (ents.modify j fun en => { en with key := v, val := xv }) (updD es k x)) ∨
    (Instr.findNow kd v ents i = some none ∧ updD es k x = es ++ [(k, x)])
  | [], ents, i, h, _ => by
    have := h.nil_right; subst this
    right
    simp [Instr.findNow, updD]
  | kv :: es, ents, i, h, hs => by
    obtain ⟨en, ens, rfl, ⟨h1, h2⟩, h3⟩ := h.cons_right
    have hn := sameNow_sound (kd := kd) hk (hs kv (by simp)) hv h1
    have ih := findNow_upd hk hv hx es ens (i + 1) h3 (fun x hx => hs x (by simp [hx]))
    simp only [Instr.findNow, hn, updD]
    cases hb : beqD k kv.1 with
    | true =>
      left
      refine ⟨0, en.val, en, by simp, by simp, sameBits_plain (hs kv (by simp)) hb hv h1, ?_⟩
      simp only [if_true, List.modify_zero_cons]
      exact All2.cons ⟨hv, hx⟩ h3
    | false =>
      simp only [Bool.false_eq_true, if_false]
      rcases ih with ⟨j, u, en', e1, e2, e3, e4⟩ | ⟨e1, e2⟩
      · left
        refine ⟨j + 1, u, en', by rw [e1]; congr 3; omega, by simpa using e2, e3, ?_⟩
        simp only [List.modify_succ_cons]
        exact All2.cons ⟨h1, h2⟩ e4
      · right
        exact ⟨e1, by rw [e2]; rfl⟩

theorem setObj_run {m : Nat} {o o' : Obj} {ents : Array MapEntry} {clk : Nat} (ho : o = .map ents clk) (hw : w.heap[m]? = some o) : (setObj m o').run P w = .ok () { w with heap := w.heap.setIfInBounds m o' } := by
  subst ho
  simp [setObj, Sem.run, hw]

theorem mapUpdate_sound {T K E : TypeId} {kk : TypeDesc} {l b q : Nat} {es : List (D × D)} {kd xd : D} {kv xv : Value} (hR : HR c H w) (hu : P.underlying T = some (.map K E)) (hku : P.underlying K = some kk) (hko : keyOk kk kd = true)
    (hl : H[l]? = some (.map es)) (hρ : c.ρ[l]? = some (some (b, q))) (hall : (es.all fun kv => sameKind kd kv.1) = true) (hk : R1 c.I c.J w kv kd) (hx : RV c.I c.J w xv xd) :
    ∃ w', (Instr.mapUpdate T (.map (some b)) kv xv).run P w = .ok () w' ∧ Ext c w c w' ∧ Keep c H c (H.set l (.map (updD es kd xd))) ∧ HR c (H.set l (.map (updD es kd xd))) w' := by
  obtain ⟨ents, clk, hw, hes⟩ := hR.box l b q _ hρ hl
  have hall' := List.all_eq_true.1 hall
  have hchk : (Instr.checkKey false 10000 K kv).run P w = .ok () w := checkKey_plain 9999 hku hko hk
  have hget : (getObj b).run P w = .ok (.map ents clk) w := by simp [getObj, Sem.run, hw]
  have hblt : b < w.heap.size := hR.lt l b q hρ
  have fin : ∀ ents' : Array MapEntry, ∀ clk', MapR c w ents'.toList (updD es kd xd) →
      Ext c w c { w with heap := w.heap.setIfInBounds b (.map ents' clk') } ∧ Keep c H c (H.set l (.map (updD es kd xd))) ∧ HR c (H.set l (.map (updD es kd xd))) { w with heap := w.heap.setIfInBounds b (.map ents' clk') } := by
    intro ents' clk' hm
    have ho : ∀ b', b' ≠ b → ({ w with heap := w.heap.setIfInBounds b (.map ents' clk') } : World).heap[b']? = w.heap[b']? := by
      intro b' hb'
      simp only
      rw [Array.getElem?_setIfInBounds]
      simp [Ne.symm hb']
    have hat : ({ w with heap := w.heap.setIfInBounds b (.map ents' clk') } : World).heap[b]? = some (.map ents' clk') := by
      simp only
      rw [Array.getElem?_setIfInBounds]
      simp [hblt]
    have e1 : Ext c w c { w with heap := w.heap.setIfInBounds b (.map ents' clk') } := Ext.set_box (l := l) (b := b) (k := q) hρ hR rfl rfl rfl (by simp) ho (by rw [hl]; intro n sz h; cases h)
    have kp : Keep c H c (H.set l (.map (updD es kd xd))) := Keep.set_map hl _
    exact ⟨e1, kp, HR.set_box hρ hR hl (by simp) ho (by intro n sz h; cases h) e1 kp ⟨ents', clk', hat, hm.mono fun _ _ h => ⟨h.1.ext e1, h.2.ext e1⟩⟩⟩
  rcases findNow_upd (kd := kk) hko hk hx es ents.toList 0 hes hall' with ⟨j, u, en, e1, e2, e3, e4⟩ | ⟨e1, e2⟩
  · have hen : ents[j]? = some en := by simpa using e2
    obtain ⟨a1, a2, a3⟩ := fin (ents.modify j fun en => { en with key := kv, val := xv }) clk (by simpa using e4)
    refine ⟨_, ?_, a1, a2, a3⟩
    rw [Nat.zero_add] at e1
    simp only [Instr.mapUpdate, Sem.run_bind, run_underlying hu, Result.andThen_ok, hget, hchk, Instr.findKey, run_underlying hku, e1, Sem.run_pure, hen, Option.map_some, Option.getD_some, Instr.keyThatStays, e3, if_true]
    exact setObj_run rfl hw
  · obtain ⟨a1, a2, a3⟩ := fin (ents.push { key := kv, val := xv, born := clk }) (clk + 1) (by
      rw [e2, Array.toList_push]
      exact All2.append hes (All2.cons ⟨hk, hx⟩ All2.nil))
    refine ⟨_, ?_, a1, a2, a3⟩
    simp only [Instr.mapUpdate, Sem.run_bind, run_underlying hu, Result.andThen_ok, hget, hchk, Instr.findKey, run_underlying hku, e1, Sem.run_pure]
    exact setObj_run rfl hw

/-- What an operation gives to the walk: a value, or nothing. -/
def Gives (P : Program) (c : Cx) (H : List Box) (w : World) (s : Sem Next) (a : AV) (H' : List Box) : Prop :=
  ∃ n v w' c', s.run P w = .ok n w' ∧ (n = .value v ∨ (n = .skip ∧ v = undef)) ∧ Ext c w c' w' ∧ Keep c H c' H' ∧ HR c' H' w' ∧ RA c' H' w' a v

theorem done_gives {s : Sem Value} {a : AV} (h : Done P c H w s a) : Gives P c H w (do pure (Next.value (← s)) : Sem Next) a H := by
  obtain ⟨v, w', c', h1, h2, h3, h4, h5⟩ := h
  exact ⟨.value v, v, w', c', by simp [h1], .inl rfl, h2, h3, h4, h5⟩

theorem doneH_gives {s : Sem Value} {a : AV} {H' : List Box} (h : DoneH P c H w s a H') : Gives P c H w (do pure (Next.value (← s)) : Sem Next) a H' := by
  obtain ⟨v, w', c', h1, h2, h3, h4, h5⟩ := h
  exact ⟨.value v, v, w', c', by simp [h1], .inl rfl, h2, h3, h4, h5⟩

theorem opF_gives {o : Oper} {a : AV} {F : Prop} (hR : HR c H w) (he : ∀ x, RA c H w (e x) (r x)) (hc : ∀ y v, y = Operand.const v → r y = v) (h : opF P e H o.op = some (a, F)) (hF : F) : Gives P c H w (execOp r o) a H := by
  have hd := done_gives (opF_done (ty := o.type) hR he hc h hF)
  cases hop : o.op <;> rw [hop] at h hd <;> first
    | (simp [opF] at h; done)
    | (simp only [execOp, hop]; exact hd)
    | skip
  case nilCheck x =>
    simp only [execOp, hop]
    have hx := he x
    simp only [semOf] at hd
    simp only [opF] at h
    split at h
    · rename_i hxe
      rw [hxe] at hx
      generalize r x = rx at *
      cases hx with
      | ptr => exact hd
    · rename_i hxe
      rw [hxe] at hx
      generalize r x = rx at *
      cases hx with
      | iptr => exact hd
    · rename_i hxe
      rw [hxe] at hx
      generalize r x = rx at *
      cases hx with
      | clo => exact hd
    · rename_i hxe
      rw [hxe] at hx
      generalize r x = rx at *
      cases hx with
      | d h1 => cases h1 with
        | fn => exact hd
    · simp at h
  case call cc =>
    obtain ⟨callee, args, argTypes⟩ := cc
    cases callee with
    | value f => simp [opF] at h
    | invoke a b => simp [opF] at h
    | builtin b =>
      cases b <;> first
        | (simp [opF] at h; done)
        | (simp only [execOp, hop, resolve, semOf] at hd ⊢; exact hd)
end
end Go.Sx
/- Every operation that changes boxes is sound. -/
namespace Go.Sx
open Go

section
variable {P : Program} {c : Cx} {H : List Box} {w : World} {e : Operand → AV} {r : Operand → Value}

theorem gives_value {s : Sem Next} {v : Value} {w' : World} {c' : Cx} {a : AV} {H' : List Box} (h : s.run P w = .ok (.value v) w') (h1 : Ext c w c' w') (h2 : Keep c H c' H') (h3 : HR c' H' w') (h4 : RA c' H' w' a v) : Gives P c H w s a H' :=
  ⟨_, v, w', c', h, .inl rfl, h1, h2, h3, h4⟩

theorem gives_skip {s : Sem Next} {w' : World} {c' : Cx} {H' : List Box} (h : s.run P w = .ok .skip w') (h1 : Ext c w c' w') (h2 : Keep c H c' H') (h3 : HR c' H' w') : Gives P c H w s .any H' :=
  ⟨_, undef, w', c', h, .inr ⟨rfl, rfl⟩, h1, h2, h3, .any _⟩

theorem hopF_gives {o : Oper} {a : AV} {H' : List Box} {F : Prop} (hR : HR c H w) (he : ∀ x, RA c H w (e x) (r x)) (h : hopF P e H o.op = some (a, H', F)) (hF : F) : Gives P c H w (execOp r o) a H' := by
  cases hop : o.op <;> rw [hop] at h
  case alloc T =>
    simp only [hopF] at h
    cases hz : zeroV P T with
    | none => rw [hz] at h; simp at h
    | some z =>
      rw [hz] at h; cases h
      obtain ⟨h1, h2, h3, h4⟩ := new_cells (T := T) hR (All2.zero (c := c) (H := H) (w := w) z.cells.toList)
      refine gives_value (c' := c.grow w.heap.size 0) ?_ h1 h2 h3 h4
      simp [execOp, hop, Instr.alloc, run_zeroV hz, newVar, newRow]
  case box T x =>
    simp only [hopF] at h
    cases hc : avCells (e x) with
    | none => rw [hc] at h; simp at h
    | some cs =>
      rw [hc] at h; cases h
      obtain ⟨h1, h2, h3, h4⟩ := new_cells (T := T) hR (avCells_sound (he x) hc).1
      refine gives_value (c' := c.grow w.heap.size 0) ?_ h1 h2 h3 h4
      simp [execOp, hop, Instr.box, newVar, newRow]
  case store T x y =>
    simp only [hopF] at h
    split at h
    · rename_i l o xs n hx hc hs
      split at h
      · rename_i T' cs hl
        split at h
        · rename_i hfit
          cases h
          have hxr := he x
          rw [hx] at hxr
          obtain ⟨hv, h1⟩ := avCells_sound (he y) hc
          have hrun : ∀ ra, r x = ra → (execOp r ‹Oper›) = (do Instr.storeAt T ra (r y); pure Next.skip : Sem Next) := by
            intro ra hra; simp only [execOp, hop, hra]
          generalize hrx : r x = rx at *
          cases hxr with
          | @ptr _ _ b k _ _ hH hρ =>
            rw [← hfit.1] at hs
            obtain ⟨w', a1, a2, a3, a4⟩ := store_box (P := P) (o := o) hR hl hρ hv h1 hs (by omega)
            refine gives_skip ?_ a2 a3 a4
            rw [hrun _ rfl]
            simp [a1]
        · simp at h
      · simp at h
    · simp at h
  case makeMap T rs =>
    cases rs with
    | some x => simp [hopF] at h
    | none =>
      simp only [hopF] at h
      cases h
      obtain ⟨h1, h2, h3, h4⟩ := new_map hR
      refine gives_value (c' := c.grow w.heap.size 0) ?_ h1 h2 h3 h4
      simp [execOp, hop, Instr.makeMap]
  case mapUpdate T m k x =>
    simp only [hopF] at h
    split at h
    · rename_i l kd xd K E hm hk hx hu
      split at h
      · rename_i es kk hl hku
        split at h
        · rename_i hko
          cases h
          have hmr := he m
          rw [hm] at hmr
          have hrun : ∀ ra, r m = ra → (execOp r o) = (do Instr.mapUpdate T ra (r k) (r x); pure Next.skip : Sem Next) := by
            intro ra hra; simp only [execOp, hop, hra]
          generalize hrm : r m = rm at *
          cases hmr with
          | @map _ b q _ hH hρ =>
            obtain ⟨w', a1, a2, a3, a4⟩ := mapUpdate_sound (P := P) hR hu hku hko hl hρ hF (avD1_sound (he k) hk) (avD_sound (he x) hx)
            refine gives_skip ?_ a2 a3 a4
            rw [hrun _ rfl]
            simp [a1]
        · simp at h
      · simp at h
    · simp at h
  case call cc =>
    obtain ⟨callee, args, argTypes⟩ := cc
    cases callee with
    | value f => simp [hopF] at h
    | invoke a b => simp [hopF] at h
    | builtin b =>
      cases b <;> first
        | (simp [hopF] at h; done)
        | skip
      simp only [hopF] at h
      split at h
      · rename_i s x T T' hargs htypes
        split at h
        · rename_i hT
          subst hT
          have ea : args = #[s, x] := by apply Array.ext'; simpa using hargs
          have et : argTypes = #[T, T] := by apply Array.ext'; simpa using htypes
          subst ea; subst et
          have hd := doneH_gives (appendF_sound (ty := o.type) hR h hF (he s) (he x))
          have : execOp r o = (do pure (Next.value (← Builtin.append_ #[T, T] o.type #[r s, r x])) : Sem Next) := by
            have em : Array.map r #[s, x] = #[r s, r x] := by simp
            simp only [execOp, hop, resolve, em]
            rfl
          rw [this]
          exact hd
        · simp at h
      · simp at h
  all_goals (simp [hopF] at h)
end
end Go.Sx
/- Frames, functions: what the walk over a function's code is about. -/
namespace Go.Sx
open Go

mutual
def AV.under (n : Nat) : AV → Bool
  | .ptr l _ => decide (l < n)
  | .vec l _ => decide (l < n)
  | .map l => decide (l < n)
  | .clo _ a b => AV.unders n a && AV.unders n b
  | .tup a => AV.unders n a
  | .agg a => AV.unders n a
  | .opt _ _ x => AV.under n x
  | .yld l => decide (l < n)
  | _ => true
def AV.unders (n : Nat) : List AV → Bool
  | [] => true
  | a :: aas => AV.under n a && AV.unders n aas
end

theorem unders_get {n : Nat} : ∀ {aas : List AV} {i : Nat} {a : AV}, AV.unders n aas = true → aas[i]? = some a → a.under n = true
  | [], _, _, _, h => by simp at h
  | a :: aas, 0, b, h, hi => by simp [AV.unders] at h; simp at hi; subst hi; exact h.1
  | a :: aas, i + 1, b, h, hi => by simp [AV.unders] at h; simp at hi; exact unders_get h.2 hi

def Box.under (n : Nat) : Box → Bool
  | .cells _ cs => AV.unders n cs
  | .loop tm _ _ _ _ _ => AV.unders n tm
  | _ => true

def Cx.take (c : Cx) (n : Nat) : Cx := { c with ρ := c.ρ.take n }

theorem get_take {α : Type} {xs : List α} {n l : Nat} (h : l < n) : (xs.take n)[l]? = xs[l]? := by rw [List.getElem?_take, if_pos h]
theorem get_take_some {α : Type} {xs : List α} {n l : Nat} {x : α} (h : (xs.take n)[l]? = some x) : l < n ∧ xs[l]? = some x := by
  rw [List.getElem?_take] at h
  split at h
  · exact ⟨by assumption, h⟩
  · simp at h

section
variable {P : Program} {c : Cx} {H : List Box} {w : World} {n : Nat}

theorem RA.take {a : AV} {v : Value} (h : RA c H w a v) : a.under n = true → RA (c.take n) (H.take n) w a v := by
  induction h with
  | d h => intro _; exact .d h
  | ptr hH h => intro hb; simp [AV.under] at hb; exact .ptr (by rw [get_take hb]; exact hH) (by show (c.ρ.take n)[_]? = _; rw [get_take hb]; exact h)
  | iptr h => intro _; exact .iptr h
  | clo hf hc _ _ ih1 ih2 =>
    intro hb
    simp [AV.under] at hb
    exact .clo hf hc (fun i a v ha hv => ih1 i a v ha hv (unders_get hb.1 ha)) (fun i a v ha hv => ih2 i a v ha hv (unders_get hb.2 ha))
  | full h => intro _; exact .full h
  | nils => intro _; exact .nils
  | vec h hH hn he =>
    intro hb
    simp [AV.under] at hb
    refine .vec h (by rw [get_take hb]; exact hH) hn (fun e => ?_)
    rcases he e with h1 | ⟨b, h1, h2⟩
    · exact .inl h1
    · exact .inr ⟨b, h1, by show (c.ρ.take n)[_]? = _; rw [get_take hb]; exact h2⟩
  | map hH h => intro hb; simp [AV.under] at hb; exact .map (by rw [get_take hb]; exact hH) (by show (c.ρ.take n)[_]? = _; rw [get_take hb]; exact h)
  | tup hl _ ih => intro hb; simp only [AV.under] at hb; exact .tup hl fun i a v ha hv => ih i a v ha hv (unders_get hb ha)
  | agg hl _ ih => intro hb; simp only [AV.under] at hb; exact .agg hl fun i a v ha hv => ih i a v ha hv (unders_get hb ha)
  | any v => intro _; exact .any v
  | opt g p x v => intro _; exact .opt g p x v
  | yld hH h => intro hb; simp [AV.under] at hb; exact .yld (by rw [get_take hb]; exact hH) (by show (c.ρ.take n)[_]? = _; rw [get_take hb]; exact h)

theorem HR.take (hR : HR c H w) (hb : ((H.take n).all (Box.under n)) = true) : HR (c.take n) (H.take n) w where
  len := by simp [Cx.take, hR.len]
  inj l l' b k k' h1 h2 := hR.inj l l' b k k' (get_take_some h1).2 (get_take_some h2).2
  box l b k x h1 h2 := by
    have h3 := hR.box l b k x (get_take_some h1).2 (get_take_some h2).2
    cases x with
    | cells T cs =>
      obtain ⟨vs, h4, h5⟩ := h3
      have hbb := List.all_eq_true.1 hb _ (List.mem_of_getElem? h2)
      exact ⟨vs, h4, h5.1, fun i v a hv ha => (h5.2 i v a hv ha).take (unders_get hbb ha)⟩
    | map es => exact h3
    | vec m sz => exact h3
    | dead => trivial
    | loop tm ps asn bd pend st =>
      obtain ⟨r, h4, h5, h6, h7, h8, h9, h10⟩ := h3
      have hbb := List.all_eq_true.1 hb _ (List.mem_of_getElem? h2)
      exact ⟨r, h4, h5, h6, h7, h8, h9, h10.1, fun i v a hv ha => (h10.2 i v a hv ha).take (unders_get hbb ha)⟩
  non l x h1 h2 := hR.non l x (get_take_some h1).2 (get_take_some h2).2
  lt l b k h1 := hR.lt l b k (get_take_some h1).2
  ilt := hR.ilt
  jlt := hR.jlt
  iap b o l k hi h1 := by
    obtain ⟨m, sz, h2, h3⟩ := hR.iap b o l k hi (get_take_some h1).2
    exact ⟨m, sz, by rw [get_take (get_take_some h1).1]; exact h2, h3⟩
  jap r l k hr h1 := hR.jap r l k hr (get_take_some h1).2

theorem Ext.take (c : Cx) (w : World) (n : Nat) : Ext c w (c.take n) w :=
  ⟨rfl, rfl, rfl, fun _ _ h => h, fun _ h => h, fun _ _ _ => rfl, fun _ _ => rfl, Nat.le_refl _, fun _ _ _ => rfl, fun _ _ h => .inl h, fun _ h => .inl h, fun l _ k h => .inl ⟨l, k, (get_take_some h).2⟩⟩

/-- The slots of a frame. -/
def SlotR (c : Cx) (H : List Box) (w : World) (tmps : Array Value) (a : AV) (v : Value) : Prop :=
  match a with
  | .opt g p x => (tmps[g]? = some (.bool p) → RA c H w x v) ∧ (tmps[g]? ≠ some (.bool p) → v = undef)
  | a => RA c H w a v

def TmR (c : Cx) (H : List Box) (w : World) (tmps : Array Value) (tm : List AV) : Prop := All2 (fun v a => SlotR c H w tmps a v) tmps.toList tm

theorem SlotR.ext {c' H' w' tmps a v} (e : Ext c w c' w') (k : Keep c H c' H') (h : SlotR c H w tmps a v) : SlotR c' H' w' tmps a v := by
  cases a <;> simp only [SlotR] at h ⊢ <;> first
    | exact RA.ext e k h
    | exact ⟨fun hg => RA.ext e k (h.1 hg), h.2⟩

theorem TmR.ext {c' H' w' tmps tm} (e : Ext c w c' w') (k : Keep c H c' H') (h : TmR c H w tmps tm) : TmR c' H' w' tmps tm := h.mono fun _ _ h => h.ext e k

/-- The fence of a function's own frame, or of a round's. -/
def Fen (rd : Option Nat) : Fence := { Fence.wide with round := rd }

theorem callsIn_fen {rd : Option Nat} {n : Nat} {f : FuncId} {args : Array Value} {R : Ending → World → Prop} (h : Calls P f args w R) : CallsIn (Fen rd) n P f args w R :=
  (callsIn_wide (n := n)).2 h

def mark (m : Nat) : Deferred := { target := .collected m, args := #[] }

/-- The deferred calls of a frame that began at a heap of size nb: marks of ranges over functions alone, their blocks untouched. -/
def Dfs (nb : Nat) (c : Cx) (w : World) (ds : List Deferred) : Prop :=
  nb ≤ w.heap.size ∧ ∃ ms : List Nat, ds = ms.map mark ∧ ms.Nodup ∧ ∀ m ∈ ms, nb ≤ m ∧ w.heap[m]? = some (.deferred (some [])) ∧ (∀ l k : Nat, c.ρ[l]? ≠ some (some (m, k))) ∧ (∀ o, ¬ c.I m o) ∧ ¬ c.J m

theorem Dfs.nil {nb : Nat} (h : nb ≤ w.heap.size) : Dfs nb c w [] := ⟨h, [], rfl, List.nodup_nil, fun m h => by cases h⟩

theorem heap_lt {b : Nat} {o : Obj} (h : w.heap[b]? = some o) : b < w.heap.size := by
  rcases Nat.lt_or_ge b w.heap.size with h' | h'
  · exact h'
  · rw [Array.getElem?_eq_none h'] at h; cases h

theorem Dfs.ext {nb : Nat} {c' : Cx} {w' : World} {ds : List Deferred} (e : Ext c w c' w') (h : Dfs nb c w ds) : Dfs nb c' w' ds := by
  obtain ⟨h0, ms, h1, h2, h3⟩ := h
  refine ⟨Nat.le_trans h0 e.size, ms, h1, h2, fun m hm => ?_⟩
  obtain ⟨a1, a2, a3, a4, a5⟩ := h3 m hm
  have hlt := heap_lt a2
  refine ⟨a1, by rw [e.frame m hlt a3]; exact a2, fun l k hl => ?_, fun o hi => ?_, fun hj => ?_⟩
  · rcases e.fresh l m k hl with ⟨l', k', h'⟩ | h'
    · exact a3 l' k' h'
    · omega
  · rcases e.inew m o hi with h' | h' | ⟨l, k, h'⟩
    · exact a4 o h'
    · omega
    · exact a3 l k h'
  · rcases e.jnew m hj with h' | h'
    · exact a5 h'
    · omega

structure Rep (G : Nat → Option (List D)) (nb : Nat) (c : Cx) (H : List Box) (w : World) (tm : List AV) (a : Act) : Prop where
  hr : HR c H w
  gr : GR G c w
  tm : TmR c H w a.tmps tm
  df : Dfs nb c w a.defers

/-- What holds at an end of a piece of code. -/
def Ends (G : Nat → Option (List D)) (nb : Nat) (n : Nat) (c : Cx) (H : List Box) (w : World) (Q : Exit → List AV → List Box → Prop) (e : Exit) (a : Act) (w' : World) : Prop :=
  ∃ c' tm' H', Q e tm' H' ∧ Rep G nb c' H' w' tm' a ∧ Ext c w c' w' ∧ Keep c (H.take n) c' H'

/-- The code, from a state that the slots and boxes describe, comes to an end at which Q holds. The first n boxes stay what they are. -/
structure PW (P : Program) (G : Nat → Option (List D)) (rd : Option Nat) (n : Nat) (code : Code) (tm : List AV) (H : List Box) (Q : Exit → List AV → List Box → Prop) : Prop where
  run : ∀ nb c a w, Rep G nb c H w tm a → code.wpIn (Fen rd) 0 P (Ends G nb n c H w Q) a w

def ResR (I : Nat → Nat → Prop) (J : Nat → Prop) (w : World) (v : Value) (rs : List D) : Prop :=
  match rs with
  | [d] => RV I J w v d
  | rs => ∃ vs : List Value, v = .tuple vs.toArray ∧ All2 (RV I J w) vs rs

/-- A function of plain data: whatever the world, the call returns data of which Q holds; nothing that was there is changed. -/
structure PFn (P : Program) (G : Nat → Option (List D)) (f : FuncId) (ds : List D) (Q : List D → Prop) : Prop where
  ex : ∃ rs, Q rs
  run : ∀ (c : Cx) (w : World) (vs : List Value), c.ρ = [] → HR c [] w → GR G c w → All2 (RV c.I c.J w) vs ds →
    Calls P f vs.toArray w fun e w' => ∃ v rs c', e = .returned v ∧ Q rs ∧ c'.ρ = [] ∧ Ext c w c' w' ∧ HR c' [] w' ∧ ResR c'.I c'.J w' v rs

/-- A function that hands back a slice without room. -/
structure PFnF (P : Program) (G : Nat → Option (List D)) (f : FuncId) (ds : List D) (Q : List D → Prop) : Prop where
  run : ∀ (c : Cx) (w : World) (vs : List Value), c.ρ = [] → HR c [] w → GR G c w → All2 (RV c.I c.J w) vs ds →
    Calls P f vs.toArray w fun e w' => ∃ v l c', e = .returned v ∧ Q l ∧ c'.ρ = [] ∧ Ext c w c' w' ∧ HR c' [] w' ∧ RA c' [] w' (.full l) v

theorem PFnF.mono {G f ds} {Q Q' : List D → Prop} (h : PFnF P G f ds Q) (hq : ∀ rs, Q rs → Q' rs) : PFnF P G f ds Q' :=
  ⟨fun c w vs a b d e => (h.run c w vs a b d e).mono fun _ _ ⟨v, l, c', e1, e2, e3⟩ => ⟨v, l, c', e1, hq _ e2, e3⟩⟩

theorem PFn.mono {G f ds} {Q Q' : List D → Prop} (h : PFn P G f ds Q) (hq : ∀ rs, Q rs → Q' rs) : PFn P G f ds Q' := by
  obtain ⟨⟨rs, h0⟩, h1⟩ := h
  refine ⟨⟨rs, hq rs h0⟩, fun c w vs a b d e => (h1 c w vs a b d e).mono fun en w' h => ?_⟩
  obtain ⟨v, rs, c', e1, e2, e3⟩ := h
  exact ⟨v, rs, c', e1, hq rs e2, e3⟩

theorem HR.nil (hR : HR c H w) : HR { c with ρ := [] } [] w where
  len := rfl
  inj l l' b k k' h := by simp at h
  box l b k x h := by simp at h
  non l x h := by simp at h
  lt l b k h := by simp at h
  ilt := hR.ilt
  jlt := hR.jlt
  iap b o l k hi h := by simp at h
  jap r l k hr h := by simp at h

/-- What an isolated call leaves of the caller's frame. -/
theorem back_from {c' : Cx} {w' : World} (hR : HR c H w) (e : Ext { c with ρ := [] } w c' w') (hR' : HR c' [] w') :
    let c2 : Cx := { c' with ρ := c.ρ }
    Ext c w c2 w' ∧ Keep c H c2 H ∧ HR c2 H w' := by
  intro c2
  have e2 : Ext c w c2 w' := by
    refine ⟨e.os, e.tape, e.output, e.isub, e.jsub, e.icell, e.jobj, e.size, fun b hb _ => e.frame b hb (by simp), fun b o h => ?_, e.jnew, fun l b k h => .inl ⟨l, k, h⟩⟩
    rcases e.inew b o h with h1 | h1 | ⟨l, k, h1⟩
    · exact .inl h1
    · exact .inr (.inl h1)
    · simp at h1
  have kp : Keep c H c2 H := Keep.refl c H
  refine ⟨e2, kp, ⟨hR.len, hR.inj, fun l b k x h1 h2 => (hR.box l b k x h1 h2).ext e2 kp (e.frame b (hR.lt l b k h1) (by simp)), hR.non, fun l b k h1 => Nat.lt_of_lt_of_le (hR.lt l b k h1) e.size, hR'.ilt, hR'.jlt, fun b o l k hi h1 => ?_, fun r l k hr h1 => ?_⟩⟩
  · rcases e.inew b o hi with h2 | h2 | ⟨l', k', h2⟩
    · exact hR.iap b o l k h2 h1
    · have := hR.lt l b k h1; omega
    · simp at h2
  · rcases e.jnew r hr with h2 | h2
    · exact hR.jap r l k h2 h1
    · have := hR.lt l r k h1; omega
end
end Go.Sx
/- Calls that see boxes of the caller. -/
namespace Go.Sx
open Go

/-- A call that may read and write the boxes it is handed: it returns data; the boxes keep their kinds. -/
structure PCall (P : Program) (G : Nat → Option (List D)) (f : FuncId) (aas : List AV) (H : List Box) (Q : List D → List Box → Prop) : Prop where
  ex : ∃ rs H', Q rs H'
  run : ∀ (c : Cx) (w : World) (vs : List Value), HR c H w → GR G c w → All2 (fun v a => RA c H w a v) vs aas →
    Calls P f vs.toArray w fun e w' => ∃ v rs c' H', e = .returned v ∧ Q rs H' ∧ H'.length = H.length ∧ Ext c w c' w' ∧ Keep c H c' H' ∧ HR c' H' w' ∧ ResR c'.I c'.J w' v rs

theorem PCall.mono {P G f aas H} {Q Q' : List D → List Box → Prop} (h : PCall P G f aas H Q) (hq : ∀ rs H', Q rs H' → Q' rs H') : PCall P G f aas H Q' := by
  obtain ⟨⟨rs, H', h0⟩, h1⟩ := h
  refine ⟨⟨rs, H', hq _ _ h0⟩, fun c w vs a b d => (h1 c w vs a b d).mono fun en w' h => ?_⟩
  obtain ⟨v, rs, c', H', e1, e2, e3⟩ := h
  exact ⟨v, rs, c', H', e1, hq _ _ e2, e3⟩

/-- A round of a range over a function, asked for by a call of its yield. -/
structure PYield (P : Program) (G : Nat → Option (List D)) (l : Nat) (aas : List AV) (H : List Box) (Q : List D → List Box → Prop) : Prop where
  ex : ∃ rs H', Q rs H'
  run : ∀ (c : Cx) (w : World) (vs : List Value) (b k : Nat), HR c H w → GR G c w → c.ρ[l]? = some (some (b, k)) → All2 (fun v a => RA c H w a v) vs aas →
    ∃ f tmps asn bd, (Instr.yield b vs.toArray).run P w = .ok (.round b f tmps asn bd) w ∧ RoundIn Fence.wide 0 P b f tmps asn bd w fun e w' => ∃ v rs c' H', e = .returned v ∧ Q rs H' ∧ H'.length = H.length ∧ Ext c w c' w' ∧ Keep c H c' H' ∧ HR c' H' w' ∧ ResR c'.I c'.J w' v rs

theorem PYield.mono {P G l aas H} {Q Q' : List D → List Box → Prop} (h : PYield P G l aas H Q) (hq : ∀ rs H', Q rs H' → Q' rs H') : PYield P G l aas H Q' := by
  obtain ⟨⟨rs, H', h0⟩, h1⟩ := h
  refine ⟨⟨rs, H', hq _ _ h0⟩, fun c w vs b k a1 a2 a3 a4 => ?_⟩
  obtain ⟨f, tmps, asn, bd, h2, h3⟩ := h1 c w vs b k a1 a2 a3 a4
  refine ⟨f, tmps, asn, bd, h2, h3.mono fun en w' h => ?_⟩
  obtain ⟨v, rs, c', H', e1, e2, e3⟩ := h
  exact ⟨v, rs, c', H', e1, hq _ _ e2, e3⟩

section
variable {c : Cx} {H : List Box} {w : World} {n : Nat}

theorem get_app_lt {α : Type} {xs ys : List α} {l : Nat} (h : l < xs.length) : (xs ++ ys)[l]? = xs[l]? := List.getElem?_append_left h
theorem get_app_ge {α : Type} {xs ys : List α} {l : Nat} (h : xs.length ≤ l) : (xs ++ ys)[l]? = ys[l - xs.length]? := List.getElem?_append_right h

/-- More boxes behind. -/
theorem RA.more {ρ2 : List (Option (Nat × Nat))} {H2 : List Box} (hl : c.ρ.length = H.length) {av : AV} {v : Value} (h : RA c H w av v) : RA { c with ρ := c.ρ ++ ρ2 } (H ++ H2) w av v := by
  have hH : ∀ (l : Nat) x, H[l]? = some x → (H ++ H2)[l]? = some x := fun l x hx => by
    have : l < H.length := by rcases Nat.lt_or_ge l H.length with h | h; exact h; rw [List.getElem?_eq_none h] at hx; cases hx
    rw [get_app_lt this]; exact hx
  have hρ : ∀ (l : Nat) x, c.ρ[l]? = some x → (c.ρ ++ ρ2)[l]? = some x := fun l x hx => by
    have : l < c.ρ.length := by rcases Nat.lt_or_ge l c.ρ.length with h | h; exact h; rw [List.getElem?_eq_none h] at hx; cases hx
    rw [get_app_lt this]; exact hx
  induction h with
  | d h => exact .d h
  | ptr h1 h2 => exact .ptr (hH _ _ h1) (hρ _ _ h2)
  | iptr h => exact .iptr h
  | clo hf hc _ _ ih1 ih2 => exact .clo hf hc ih1 ih2
  | full h => exact .full h
  | nils => exact .nils
  | vec h h1 hn he =>
    refine .vec h (hH _ _ h1) hn fun hl => ?_
    rcases he hl with h1 | ⟨b, h1, h2⟩
    · exact .inl h1
    · exact .inr ⟨b, h1, hρ _ _ h2⟩
  | map h1 h2 => exact .map (hH _ _ h1) (hρ _ _ h2)
  | tup hl _ ih => exact .tup hl ih
  | agg hl _ ih => exact .agg hl ih
  | any v => exact .any v
  | opt g p x v => exact .opt g p x v
  | yld h1 h2 => exact .yld (hH _ _ h1) (hρ _ _ h2)

theorem BoxR.more {ρ2 : List (Option (Nat × Nat))} {H2 : List Box} (hl : c.ρ.length = H.length) {b k : Nat} {x : Box} (h : BoxR c H w b k x) : BoxR { c with ρ := c.ρ ++ ρ2 } (H ++ H2) w b k x := by
  cases x with
  | cells T cs => obtain ⟨vs, h1, h2⟩ := h; exact ⟨vs, h1, h2.mono fun _ _ h => h.more hl⟩
  | map es => exact h
  | vec n sz => exact h
  | dead => trivial
  | loop tm ps asn bd pend st => obtain ⟨r, h1, h2, h3, h4, h5, h6, h7⟩ := h; exact ⟨r, h1, h2, h3, h4, h5, h6, h7.mono fun _ _ h => h.more hl⟩

/-- What a call that sees the first n boxes leaves of the caller's frame. -/
theorem back_part (hn : n ≤ H.length) (hR : HR c H w) {c' : Cx} {w' : World} {H1 : List Box} (e : Ext (c.take n) w c' w') (kp : Keep (c.take n) (H.take n) c' H1) (hl : H1.length = (H.take n).length) (hR' : HR c' H1 w') :
    let c2 : Cx := { c' with ρ := c'.ρ ++ c.ρ.drop n }
    let H2 := H1 ++ H.drop n
    Ext c w c2 w' ∧ Keep c H c2 H2 ∧ HR c2 H2 w' := by
  intro c2 H2
  have hl1 : H1.length = n := by rw [hl, List.length_take]; omega
  have hl2 : c'.ρ.length = n := by rw [hR'.len, hl1]
  have tk : ∀ (l : Nat) x, (c.take n).ρ[l]? = some x → l < n ∧ c.ρ[l]? = some x := fun l x h => get_take_some h
  have glt : ∀ l, l < n → c2.ρ[l]? = c'.ρ[l]? := fun l h => get_app_lt (by omega)
  have gge : ∀ l, n ≤ l → c2.ρ[l]? = c.ρ[l]? := fun l h => by
    show (c'.ρ ++ c.ρ.drop n)[l]? = _
    rw [get_app_ge (by omega), List.getElem?_drop, hl2]; congr 1; omega
  have Hlt : ∀ l, l < n → H2[l]? = H1[l]? := fun l h => get_app_lt (by omega)
  have Hge : ∀ l, n ≤ l → H2[l]? = H[l]? := fun l h => by
    show (H1 ++ H.drop n)[l]? = _
    rw [get_app_ge (by omega), List.getElem?_drop, hl1]; congr 1; omega
  have apart : ∀ l b k, n ≤ l → c.ρ[l]? = some (some (b, k)) → ∀ l' k' : Nat, (c.take n).ρ[l']? ≠ some (some (b, k')) := by
    intro l b k hge h l' k' h'
    obtain ⟨h1, h2⟩ := tk _ _ h'
    have := hR.inj l l' b k k' h h2
    omega
  have e2 : Ext c w c2 w' := by
    refine ⟨e.os, e.tape, e.output, e.isub, e.jsub, e.icell, e.jobj, e.size, fun b hb h => e.frame b hb fun l k h' => h l k (tk _ _ h').2, fun b o h => ?_, e.jnew, fun l b k h => ?_⟩
    · rcases e.inew b o h with h1 | h1 | ⟨l, k, h1⟩
      · exact .inl h1
      · exact .inr (.inl h1)
      · exact .inr (.inr ⟨l, k, (tk _ _ h1).2⟩)
    · rcases Nat.lt_or_ge l n with hlt | hge
      · rw [glt l hlt] at h
        rcases e.fresh l b k h with ⟨l', k', h1⟩ | h1
        · exact .inl ⟨l', k', (tk _ _ h1).2⟩
        · exact .inr h1
      · rw [gge l hge] at h
        exact .inl ⟨l, k, h⟩
  have k2 : Keep c H c2 H2 := by
    intro l x hx
    rcases Nat.lt_or_ge l n with hlt | hge
    · have h1 := kp l x (by rw [get_take hlt]; exact hx)
      have e3 : (c.take n).ρ[l]? = c.ρ[l]? := by show (c.ρ.take n)[l]? = _; rw [get_take hlt]
      cases x <;> simp only [Hlt l hlt, glt l hlt, ← e3] <;> exact h1
    · cases x <;> simp only [Hge l hge, gge l hge, hx] <;> simp
  refine ⟨e2, k2, ⟨?_, ?_, ?_, ?_, ?_, hR'.ilt, hR'.jlt, ?_, ?_⟩⟩
  · show (c'.ρ ++ c.ρ.drop n).length = (H1 ++ H.drop n).length
    simp [hl1, hl2, hR.len]
  · intro l l' b k k' h h'
    have mixed : ∀ l l' k k', l < n → n ≤ l' → c'.ρ[l]? = some (some (b, k)) → c.ρ[l']? = some (some (b, k')) → False := by
      intro l l' k k' h1 h2 h3 h4
      rcases e.fresh l b k h3 with ⟨l'', k'', h5⟩ | h5
      · exact apart l' b k' h2 h4 l'' k'' h5
      · have := hR.lt l' b k' h4; omega
    rcases Nat.lt_or_ge l n with h1 | h1 <;> rcases Nat.lt_or_ge l' n with h2 | h2
    · rw [glt l h1] at h; rw [glt l' h2] at h'; exact hR'.inj l l' b k k' h h'
    · rw [glt l h1] at h; rw [gge l' h2] at h'; exact (mixed l l' k k' h1 h2 h h').elim
    · rw [gge l h1] at h; rw [glt l' h2] at h'; exact (mixed l' l k' k h2 h1 h' h).elim
    · rw [gge l h1] at h; rw [gge l' h2] at h'; exact hR.inj l l' b k k' h h'
  · intro l b k x h hx
    rcases Nat.lt_or_ge l n with h1 | h1
    · rw [glt l h1] at h; rw [Hlt l h1] at hx
      exact (hR'.box l b k x h hx).more hR'.len
    · rw [gge l h1] at h; rw [Hge l h1] at hx
      exact (hR.box l b k x h hx).ext e2 k2 (e.frame b (hR.lt l b k h) (apart l b k h1 h))
  · intro l x h hx
    rcases Nat.lt_or_ge l n with h1 | h1
    · rw [glt l h1] at h; rw [Hlt l h1] at hx; exact hR'.non l x h hx
    · rw [gge l h1] at h; rw [Hge l h1] at hx; exact hR.non l x h hx
  · intro l b k h
    rcases Nat.lt_or_ge l n with h1 | h1
    · rw [glt l h1] at h; exact hR'.lt l b k h
    · rw [gge l h1] at h; exact Nat.lt_of_lt_of_le (hR.lt l b k h) e.size
  · intro b o l k hi h
    rcases Nat.lt_or_ge l n with h1 | h1
    · rw [glt l h1] at h; rw [Hlt l h1]; exact hR'.iap b o l k hi h
    · rw [gge l h1] at h; rw [Hge l h1]
      rcases e.inew b o hi with h2 | h2 | ⟨l', k', h2⟩
      · exact hR.iap b o l k h2 h
      · have := hR.lt l b k h; omega
      · exact (apart l b k h1 h l' k' h2).elim
  · intro r l k hr h
    rcases Nat.lt_or_ge l n with h1 | h1
    · rw [glt l h1] at h; exact hR'.jap r l k hr h
    · rw [gge l h1] at h
      rcases e.jnew r hr with h2 | h2
      · exact hR.jap r l k h2 h
      · have := hR.lt l r k h; omega
end

/-! How much of the boxes a call must see. -/
mutual
def AV.top : AV → Nat
  | .ptr l _ => l + 1
  | .vec l _ => l + 1
  | .map l => l + 1
  | .yld l => l + 1
  | .clo _ a b => max (AV.tops a) (AV.tops b)
  | .tup a => AV.tops a
  | .agg a => AV.tops a
  | .opt _ _ x => AV.top x
  | _ => 0
def AV.tops : List AV → Nat
  | [] => 0
  | a :: aas => max (AV.top a) (AV.tops aas)
end

def Box.top : Box → Nat
  | .cells _ cs => AV.tops cs
  | .loop tm _ _ _ _ _ => AV.tops tm
  | _ => 0

def topsH : List Box → Nat
  | [] => 0
  | x :: r => max x.top (topsH r)

def needN (H : List Box) : Nat → Nat → Nat
  | 0, n => n
  | f + 1, n => needN H f (max n (topsH (H.take n)))

def exAV : AV → (AV → Prop) → Prop
  | .d (.int k _), K => ∃ n, K (.d (.int k n))
  | .d (.bool _), K => ∃ b, K (.d (.bool b))
  | .d (.str _), K => ∃ s, K (.d (.str s))
  | .d (.sl _), K => ∃ l, K (.d (.sl l))
  | .full _, K => ∃ l, K (.d (.sl l))
  | .vec t _, K => ∃ l, K (.vec t l)
  | a, K => K a

def exAVs : List AV → (List AV → Prop) → Prop
  | [], K => K []
  | a :: aas, K => exAV a fun a' => exAVs aas fun aas' => K (a' :: aas')

def exBox : Box → (Box → Prop) → Prop
  | .cells T cs, K => exAVs cs fun cs' => K (.cells T cs')
  | .map _, K => ∃ es, K (.map es)
  | .vec _ sz, K => ∃ n, K (.vec n sz)
  | .dead, K => K .dead
  | .loop tm ps asn bd _ _, K => ∃ pend st, K (.loop tm ps asn bd pend st)

def exH : List Box → (List Box → Prop) → Prop
  | [], K => K []
  | x :: r, K => exBox x fun x' => exH r fun r' => K (x' :: r')

theorem exAV_some {a : AV} {K : AV → Prop} (h : exAV a K) : ∃ x, K x := by
  unfold exAV at h
  split at h <;> first
    | exact ⟨_, h⟩
    | (obtain ⟨y, h⟩ := h; exact ⟨_, h⟩)

theorem exAVs_some : ∀ {l : List AV} {K : List AV → Prop}, exAVs l K → ∃ x, K x
  | [], _, h => ⟨_, h⟩
  | _ :: _, _, h => by
    obtain ⟨a, h1⟩ := exAV_some h
    obtain ⟨aas, h2⟩ := exAVs_some h1
    exact ⟨_, h2⟩

theorem exBox_some {x : Box} {K : Box → Prop} (h : exBox x K) : ∃ y, K y := by
  cases x with
  | cells T cs => obtain ⟨y, h⟩ := exAVs_some h; exact ⟨_, h⟩
  | map es => obtain ⟨y, h⟩ := h; exact ⟨_, h⟩
  | vec n sz => obtain ⟨y, h⟩ := h; exact ⟨_, h⟩
  | dead => exact ⟨_, h⟩
  | loop tm ps asn bd pend st => obtain ⟨y, z, h⟩ := h; exact ⟨_, h⟩

theorem exH_some : ∀ {H : List Box} {K : List Box → Prop}, exH H K → ∃ H', K H'
  | [], _, h => ⟨_, h⟩
  | _ :: _, _, h => by
    obtain ⟨a, h1⟩ := exBox_some h
    obtain ⟨aas, h2⟩ := exH_some h1
    exact ⟨_, h2⟩
end Go.Sx
/- Forgetting; tokens for slices without room. -/
namespace Go.Sx
open Go

def eqAV : AV → AV → Prop
  | .d (.int k a), .d (.int k' b) => if k = k' then a = b else False
  | .d (.bool a), .d (.bool b) => a = b
  | .d (.str a), .d (.str b) => a = b
  | .d (.sl a), .d (.sl b) => a = b
  | .full a, .full b => a = b
  | .vec l a, .vec l' b => if l = l' then a = b else False
  | a, b => a = b

theorem eqAV_sound {a b : AV} (h : eqAV a b) : a = b := by
  unfold eqAV at h
  split at h
  · split at h
    · rename_i hk; subst hk; subst h; rfl
    · exact h.elim
  · subst h; rfl
  · subst h; rfl
  · subst h; rfl
  · subst h; rfl
  · split at h
    · rename_i hk; subst hk; subst h; rfl
    · exact h.elim
  · exact h

def eqAVs : List AV → List AV → Prop
  | [], [] => True
  | a :: r, b :: s => eqAV a b ∧ eqAVs r s
  | _, _ => False

theorem eqAVs_sound : ∀ {a b : List AV}, eqAVs a b → a = b
  | [], [], _ => rfl
  | a :: r, b :: s, h => by rw [eqAV_sound h.1, eqAVs_sound h.2]
  | [], _ :: _, h => h.elim
  | _ :: _, [], h => h.elim

def eqBox : Box → Box → Prop
  | .cells T cs, .cells T' cs' => if T = T' then eqAVs cs cs' else False
  | .map a, .map b => a = b
  | .vec n sz, .vec n' sz' => if sz = sz' then n = n' else False
  | .dead, .dead => True
  | .loop tm ps asn bd pend st, .loop tm' ps' asn' bd' pend' st' => Box.loop tm ps asn bd pend st = .loop tm' ps' asn' bd' pend' st'
  | _, _ => False

theorem eqBox_sound {x y : Box} (h : eqBox x y) : x = y := by
  unfold eqBox at h
  split at h
  · split at h
    · rename_i hk; subst hk; rw [eqAVs_sound h]
    · exact h.elim
  · subst h; rfl
  · split at h
    · rename_i hk; subst hk; subst h; rfl
    · exact h.elim
  · rfl
  · exact h
  · exact h.elim

/-- Two abstract values of which the second says no more; a slice without room may become a growing one. -/
def relAV (p : Nat) (Ht : List Box) : AV → AV → Prop
  | .full a, .vec l b =>
    match Ht[l]? with
    | some (.vec n _) => a = b ∧ a.length ≤ n
    | _ => False
  | a, b => if b.under p then eqAV a b else False

def relAVs (p : Nat) (Ht : List Box) : List AV → List AV → Prop
  | [], [] => True
  | a :: r, b :: s => relAV p Ht a b ∧ relAVs p Ht r s
  | _, _ => False

def relBox (p : Nat) (Ht : List Box) : Box → Box → Prop
  | .cells T cs, .cells T' cs' => if T = T' then relAVs p Ht cs cs' else False
  | x, y => if y.under p then eqBox x y else False

def wkTm (p : Nat) (Ht : List Box) : List AV → List AV → Prop
  | [], [] => True
  | a :: r, b :: s =>
    match b with
    | .any => wkTm p Ht r s
    | b => relAV p Ht a b ∧ wkTm p Ht r s
  | _, _ => False

def wkH (p : Nat) (Ht : List Box) : List Box → List Box → Prop
  | _, [] => True
  | x :: r, y :: s => relBox p Ht x y ∧ wkH p Ht r s
  | [], .vec _ _ :: s => wkH p Ht [] s
  | [], _ :: _ => False

/-- The second state says less than the first. -/
def Wk (n : Nat) (tm : List AV) (H : List Box) (tm' : List AV) (H' : List Box) : Prop :=
  if decide (n ≤ min H.length H'.length) && (H.take (min H.length H'.length)).all (Box.under (min H.length H'.length)) then
    wkTm (min H.length H'.length) H' tm tm' ∧ wkH (min H.length H'.length) H' H H' else False

theorem relAV_eq {p : Nat} {Ht : List Box} {a b : AV} (h : relAV p Ht a b) : (a = b ∧ b.under p = true) ∨ ∃ ds l n sz, a = .full ds ∧ b = .vec l ds ∧ Ht[l]? = some (.vec n sz) ∧ ds.length ≤ n := by
  unfold relAV at h
  split at h
  · split at h
    · rename_i n sz hn
      obtain ⟨rfl, h2⟩ := h
      exact .inr ⟨_, _, n, sz, rfl, rfl, hn, h2⟩
    · exact h.elim
  · split at h
    · rename_i hu; exact .inl ⟨eqAV_sound h, hu⟩
    · exact h.elim

theorem relAV_sound {p : Nat} {Ht H : List Box} {c c1 : Cx} {w : World} {a b : AV} {v : Value} (h : relAV p Ht a b) (heq : ∀ a, a.under p = true → RA c H w a v → RA c1 Ht w a v) (hf : ∀ ds ad m, R1 c.I c.J w (.slice ad m m) (.sl ds) → R1 c1.I c1.J w (.slice ad m m) (.sl ds)) (hr : RA c H w a v) : RA c1 Ht w b v := by
  rcases relAV_eq h with ⟨rfl, hu⟩ | ⟨ds, l, n, sz, rfl, rfl, hH, hn⟩
  · exact heq a hu hr
  · cases hr with
    | full h => exact .vec (hf _ _ _ h) hH hn (fun _ => .inl rfl)

theorem wkTm_sound {p : Nat} {Ht : List Box} {c c1 : Cx} {H : List Box} {w : World} {tmps : Array Value} (heq : ∀ a v, a.under p = true → RA c H w a v → RA c1 Ht w a v) (hf : ∀ ds ad m, R1 c.I c.J w (.slice ad m m) (.sl ds) → R1 c1.I c1.J w (.slice ad m m) (.sl ds)) :
    ∀ {vs : List Value} {tm tm' : List AV}, wkTm p Ht tm tm' → All2 (fun v a => SlotR c H w tmps a v) vs tm → (∀ g p x, AV.opt g p x ∉ tm') → All2 (fun v a => SlotR c1 Ht w tmps a v) vs tm'
  | vs, [], [], _, h, _ => by have := h.nil_right; subst this; exact All2.nil
  | vs, a :: r, b :: s, h, h2, hno => by
    obtain ⟨v, vs', rfl, h3, h4⟩ := h2.cons_right
    have hno' : ∀ g p x, AV.opt g p x ∉ s := fun g p x hx => hno g p x (by simp [hx])
    simp only [wkTm] at h
    split at h
    · exact All2.cons (RA.any v) (wkTm_sound heq hf h h4 hno')
    · rename_i b' hb
      refine All2.cons ?_ (wkTm_sound heq hf h.2 h4 hno')
      have hra : RA c H w a v := by
        rcases relAV_eq h.1 with ⟨rfl, _⟩ | ⟨ds, l, n, sz, rfl, rfl, _, _⟩
        · cases a <;> first
            | exact h3
            | exact absurd (List.mem_cons_self) (hno _ _ _)
        · exact h3
      have := relAV_sound (c := c) (H := H) h.1 (fun a hu hr => heq a v hu hr) hf hra
      cases b <;> first
        | exact this
        | exact absurd (List.mem_cons_self) (hno _ _ _)
  | vs, [], _ :: _, h, _, _ => h.elim
  | vs, _ :: _, [], h, _, _ => h.elim

theorem relAVs_sound {p : Nat} {Ht : List Box} {c c1 : Cx} {H : List Box} {w : World} (heq : ∀ a v, a.under p = true → RA c H w a v → RA c1 Ht w a v) (hf : ∀ ds ad m, R1 c.I c.J w (.slice ad m m) (.sl ds) → R1 c1.I c1.J w (.slice ad m m) (.sl ds)) :
    ∀ {vs : List Value} {aas bs : List AV}, relAVs p Ht aas bs → All2 (fun v a => RA c H w a v) vs aas → All2 (fun v a => RA c1 Ht w a v) vs bs
  | vs, [], [], _, h => by have := h.nil_right; subst this; exact All2.nil
  | vs, a :: r, b :: s, h, h2 => by
    obtain ⟨v, vs', rfl, h3, h4⟩ := h2.cons_right
    exact All2.cons (relAV_sound h.1 (fun a hu hr => heq a v hu hr) hf h3) (relAVs_sound heq hf h.2 h4)
  | vs, [], _ :: _, h, _ => h.elim
  | vs, _ :: _, [], h, _ => h.elim

def isVec : Box → Bool
  | .vec _ _ => true
  | _ => false

theorem wkH_split {p : Nat} {Ht : List Box} : ∀ {H H' : List Box}, wkH p Ht H H' → ((H'.drop (min H.length H'.length)).all isVec) = true ∧ ∀ (i : Nat) x y, H[i]? = some x → H'[i]? = some y → relBox p Ht x y
  | _, [], _ => by simp
  | x :: r, y :: s, h => by
    obtain ⟨h1, h2⟩ := h
    obtain ⟨h3, h4⟩ := wkH_split h2
    refine ⟨?_, fun i a b ha hb => ?_⟩
    · have : min (x :: r).length (y :: s).length = min r.length s.length + 1 := by simp only [List.length_cons]; omega
      rw [this, List.drop_succ_cons]; exact h3
    · cases i with
      | zero => simp at ha hb; subst ha; subst hb; exact h1
      | succ i => simp at ha hb; exact h4 i a b ha hb
  | [], .vec n sz :: s, h => by
    have h' : wkH p Ht [] s := h
    obtain ⟨h3, _⟩ := wkH_split h'
    refine ⟨?_, fun i a b ha hb => by simp at ha⟩
    simp only [List.length_nil, Nat.zero_min, List.drop_zero] at h3 ⊢
    simp [isVec, h3]
  | [], .cells _ _ :: _, h => h.elim
  | [], .map _ :: _, h => h.elim
  | [], .dead :: _, h => h.elim
  | [], .loop _ _ _ _ _ _ :: _, h => h.elim

theorem push_nones : ∀ (toks : List Box) {c : Cx} {H : List Box} {w : World}, (toks.all isVec) = true → HR c H w → HR { c with ρ := c.ρ ++ List.replicate toks.length none } (H ++ toks) w ∧ Keep c H { c with ρ := c.ρ ++ List.replicate toks.length none } (H ++ toks) ∧ Ext c w { c with ρ := c.ρ ++ List.replicate toks.length none } w
  | [], c, H, w, _, h => by simpa using ⟨h, Keep.refl c H, Ext.refl c w⟩
  | x :: toks, c, H, w, ht, h => by
    cases x with
    | vec n sz =>
      obtain ⟨h1, h2, h3⟩ := HR.push_none (n := n) (sz := sz) h
      obtain ⟨h4, h5, h6⟩ := push_nones toks (by simpa [isVec] using ht) h1
      have e1 : H ++ [Box.vec n sz] ++ toks = H ++ (Box.vec n sz :: toks) := by simp
      have e2 : c.ρ ++ [none] ++ List.replicate toks.length (none : Option (Nat × Nat)) = c.ρ ++ List.replicate (Box.vec n sz :: toks).length none := by
        rw [List.append_assoc]; rfl
      rw [e1] at h4 h5
      simp only [e2] at h4 h5 h6
      exact ⟨h4, h2.trans h5, h3.trans h6⟩
    | _ => simp [isVec] at ht

def noOpt (tm : List AV) : Bool := tm.all fun a => match a with | .opt _ _ _ => false | _ => true

theorem relBox_kind {p : Nat} {Ht : List Box} {x y : Box} (h : relBox p Ht x y) : x = y ∨ ∃ T cs cs', x = .cells T cs ∧ y = .cells T cs' ∧ relAVs p Ht cs cs' := by
  unfold relBox at h
  split at h
  · split at h
    · rename_i e; subst e; exact .inr ⟨_, _, _, rfl, rfl, h⟩
    · exact h.elim
  · split at h
    · exact .inl (eqBox_sound h)
    · exact h.elim

theorem HR.weakenH {c : Cx} {H H' : List Box} {w : World} (hR : HR c H w) (hund : ((H.take (min H.length H'.length)).all (Box.under (min H.length H'.length))) = true) (h2 : wkH (min H.length H'.length) H' H H') :
    ∃ c', HR c' H' w ∧ Ext c w c' w ∧ Keep c (H.take (min H.length H'.length)) c' H' ∧ (∀ a v, a.under (min H.length H'.length) = true → RA c H w a v → RA c' H' w a v) ∧ (∀ ds ad m, R1 c.I c.J w (.slice ad m m) (.sl ds) → R1 c'.I c'.J w (.slice ad m m) (.sl ds)) := by
  generalize hp : min H.length H'.length = p at *
  have hpH : p ≤ H.length := by omega
  have hpH' : p ≤ H'.length := by omega
  obtain ⟨h3, h4⟩ := wkH_split h2
  rw [hp] at h3
  have hr0 : HR (c.take p) (H.take p) w := hR.take hund
  obtain ⟨hr1, kp1, e1⟩ := push_nones (H'.drop p) h3 hr0
  generalize hc1 : ({ c.take p with ρ := (c.take p).ρ ++ List.replicate (H'.drop p).length none } : Cx) = c1 at *
  have hI : c1.I = c.I := by rw [← hc1]; rfl
  have hJ : c1.J = c.J := by rw [← hc1]; rfl
  have hlen0 : (H.take p).length = p := by simp; omega
  have hlen1 : (H.take p ++ H'.drop p).length = H'.length := by simp; omega
  -- box by box
  have hbox : ∀ (l : Nat) y, H'[l]? = some y → ∃ x, (H.take p ++ H'.drop p)[l]? = some x ∧ (x = y ∨ ∃ T cs cs', x = .cells T cs ∧ y = .cells T cs' ∧ relAVs p H' cs cs') := by
    intro l y hy
    rcases Nat.lt_or_ge l p with hlt | hge
    · have hlH : l < H.length := by omega
      refine ⟨H[l], ?_, relBox_kind (h4 l _ y (by simp [hlH]) hy)⟩
      rw [List.getElem?_append_left (by omega), get_take hlt]; simp [hlH]
    · refine ⟨y, ?_, .inl rfl⟩
      rw [List.getElem?_append_right (by omega), hlen0, List.getElem?_drop]
      rw [← hy]; congr 1; omega
  have hback : ∀ (l : Nat) x, (H.take p ++ H'.drop p)[l]? = some x → ∃ y, H'[l]? = some y ∧ (x = y ∨ ∃ T cs cs', x = .cells T cs ∧ y = .cells T cs' ∧ relAVs p H' cs cs') := by
    intro l x hx
    have hl : l < H'.length := by
      rcases Nat.lt_or_ge l H'.length with h' | h'
      · exact h'
      · rw [List.getElem?_eq_none (by omega)] at hx; cases hx
    obtain ⟨x', hx', hrel⟩ := hbox l H'[l] (by simp [hl])
    rw [hx] at hx'
    cases hx'
    exact ⟨H'[l], by simp [hl], hrel⟩
  have kp2 : Keep c1 (H.take p ++ H'.drop p) c1 H' := by
    intro l x hx
    obtain ⟨y, hy, hrel⟩ := hback l x hx
    rcases hrel with rfl | ⟨T, cs, cs', rfl, rfl, _⟩
    · cases x <;> simp only [hy] <;> simp
    · exact ⟨⟨cs', hy⟩, rfl⟩
  have heq1 : ∀ a v, RA c1 (H.take p ++ H'.drop p) w a v → RA c1 H' w a v := fun a v hr => hr.ext (Ext.refl _ _) kp2
  have hr2 : HR c1 H' w := by
    refine ⟨by rw [hr1.len, hlen1], hr1.inj, ?_, ?_, hr1.lt, hr1.ilt, hr1.jlt, ?_, hr1.jap⟩
    · intro l b k y hρ hy
      obtain ⟨x, hx, hrel⟩ := hbox l y hy
      have hb := hr1.box l b k x hρ hx
      rcases hrel with rfl | ⟨T, cs, cs', rfl, rfl, hcs⟩
      · exact hb.ext (Ext.refl _ _) kp2 rfl
      · obtain ⟨vs, g1, g2⟩ := hb
        exact ⟨vs, g1, relAVs_sound (c := c1) (H := H.take p ++ H'.drop p) (fun a v _ hr => heq1 a v hr) (fun _ _ _ h => h) hcs g2⟩
    · intro l y hρ hy
      obtain ⟨x, hx, hrel⟩ := hbox l y hy
      have := hr1.non l x hρ hx
      rcases hrel with rfl | ⟨T, cs, cs', rfl, rfl, hcs⟩
      · exact this
      · rcases this with ⟨_, _, h⟩ | h <;> cases h
    · intro b o l k hi hρ
      obtain ⟨n', sz, g1, g2⟩ := hr1.iap b o l k hi hρ
      obtain ⟨y, hy, hrel⟩ := hback l _ g1
      rcases hrel with rfl | ⟨T, cs, cs', h', _, _⟩
      · exact ⟨n', sz, hy, g2⟩
      · cases h'
  have eAll : Ext c w c1 w := (Ext.take c w p).trans e1
  refine ⟨c1, hr2, eAll, ?_, fun a v hu hr => heq1 a v ((hr.take hu).ext e1 kp1), fun ds ad m h => by rw [hI, hJ]; exact h⟩
  have kp0 : Keep c (H.take p) (c.take p) (H.take p) := by
    intro l x hx
    have hk := (get_take_some hx).1
    have e2 : (c.take p).ρ[l]? = c.ρ[l]? := by show (c.ρ.take _)[l]? = _; rw [get_take hk]
    cases x <;> simp only [hx, e2] <;> simp
  exact (kp0.trans kp1).trans kp2

/-! Slices without room in boxes of their own get a token. -/
def tokSz (P : Program) : Box → Option (TypeId × List D × Nat)
  | .cells T [.full ds] =>
    match P.underlying T with
    | some (.slice E) => (szOf P E).map fun sz => (T, ds, sz)
    | _ => none
  | _ => none

theorem tokSz_eq {P : Program} {x : Box} {T : TypeId} {ds : List D} {sz : Nat} (h : tokSz P x = some (T, ds, sz)) : x = .cells T [.full ds] := by
  unfold tokSz at h
  split at h
  · split at h
    · rename_i E _
      cases hs : szOf P E with
      | none => rw [hs] at h; cases h
      | some n => rw [hs] at h; cases h; rfl
    · cases h
  · cases h

def tokB (P : Program) : Nat → List Box → List Box × List Box
  | _, [] => ([], [])
  | t, x :: r =>
    match tokSz P x with
    | some (T, ds, sz) => (.cells T [.vec t ds] :: (tokB P (t + 1) r).1, .vec ds.length sz :: (tokB P (t + 1) r).2)
    | none => (x :: (tokB P t r).1, (tokB P t r).2)

def tokH (P : Program) (H : List Box) : List Box := (tokB P H.length H).1 ++ (tokB P H.length H).2

theorem eqAV_refl (a : AV) : eqAV a a := by
  unfold eqAV
  split <;> simp_all
theorem eqAVs_refl : ∀ (l : List AV), eqAVs l l
  | [] => trivial
  | a :: l => ⟨eqAV_refl a, eqAVs_refl l⟩
theorem eqBox_refl (x : Box) : eqBox x x := by
  cases x <;> simp [eqBox, eqAVs_refl]
theorem relAV_refl {p : Nat} {Ht : List Box} (x : AV) (hx : x.under p = true) : relAV p Ht x x := by
  cases x <;> simp only [relAV, hx, if_true] <;> exact eqAV_refl _
theorem relAVs_refl {p : Nat} {Ht : List Box} : ∀ {l : List AV}, AV.unders p l = true → relAVs p Ht l l
  | [], _ => trivial
  | a :: l, h => by
    simp only [AV.unders, Bool.and_eq_true] at h
    exact ⟨relAV_refl a h.1, relAVs_refl h.2⟩
theorem relBox_refl {p : Nat} {Ht : List Box} {x : Box} (h : x.under p = true) : relBox p Ht x x := by
  cases x with
  | cells T cs => simp only [relBox, if_true]; exact relAVs_refl h
  | _ => simp only [relBox, h, if_true]; exact eqBox_refl _

theorem tokB_len (P : Program) : ∀ (t : Nat) (H : List Box), (tokB P t H).1.length = H.length
  | _, [] => rfl
  | t, x :: r => by
    simp only [tokB]
    split <;> simp [tokB_len P _ r]

theorem tokB_vec (P : Program) : ∀ (t : Nat) (H : List Box), ((tokB P t H).2.all isVec) = true
  | _, [] => rfl
  | t, x :: r => by
    simp only [tokB]
    split <;> simp [tokB_vec P _ r, isVec]

theorem wkH_toks {p : Nat} {Ht : List Box} : ∀ (toks : List Box), (toks.all isVec) = true → wkH p Ht [] toks
  | [], _ => trivial
  | x :: toks, h => by
    cases x with
    | vec n sz => exact wkH_toks toks (by simpa [isVec] using h)
    | _ => simp [isVec] at h

theorem tokB_wk {P : Program} {p : Nat} {Ht : List Box} (more : List Box) (hmore : (more.all isVec) = true) : ∀ (t : Nat) (H : List Box), (H.all (Box.under p)) = true → (∀ (i : Nat) x, (tokB P t H).2[i]? = some x → Ht[t + i]? = some x) → wkH p Ht H ((tokB P t H).1 ++ more)
  | _, [], _, _ => by simpa [tokB] using wkH_toks more hmore
  | t, x :: r, hu, ht => by
    simp only [List.all_cons, Bool.and_eq_true] at hu
    cases hx : tokSz P x with
    | none =>
      simp only [tokB, hx] at ht ⊢
      exact ⟨relBox_refl hu.1, tokB_wk more hmore t r hu.2 ht⟩
    | some q =>
      obtain ⟨T, ds, sz⟩ := q
      have := tokSz_eq hx
      subst this
      simp only [tokB, hx] at ht ⊢
      refine ⟨?_, tokB_wk more hmore (t + 1) r hu.2 fun i x hx => ?_⟩
      · have h0 := ht 0 (.vec ds.length sz) (by simp)
        simp only [Nat.add_zero] at h0
        simp only [relBox, if_true, relAVs, relAV]
        rw [h0]
        simp
      · have := ht (i + 1) x (by simpa using hx)
        rw [← this]; congr 1; omega

theorem HR.tok {P : Program} {c : Cx} {H : List Box} {w : World} (hR : HR c H w) (hu : (H.all (Box.under H.length)) = true) :
    ∃ c', HR c' (tokH P H) w ∧ Ext c w c' w ∧ Keep c H c' (tokH P H) ∧ (∀ a v, a.under H.length = true → RA c H w a v → RA c' (tokH P H) w a v) := by
  have hlen := tokB_len P H.length H
  have hmin : min H.length (tokH P H).length = H.length := by simp only [tokH, List.length_append]; omega
  have hw : wkH (min H.length (tokH P H).length) (tokH P H) H (tokH P H) := by
    rw [hmin]
    refine tokB_wk _ (tokB_vec P _ _) H.length H hu fun i x hx => ?_
    unfold tokH
    rw [List.getElem?_append_right (by omega)]
    rw [← hx]; congr 1; omega
  obtain ⟨c', h1, h2, h3, h4, _⟩ := hR.weakenH (by rw [hmin, List.take_length]; exact hu) hw
  rw [hmin, List.take_length] at h3
  rw [hmin] at h4
  exact ⟨c', h1, h2, h3, h4⟩
end Go.Sx
/- What is to be shown of one operation, and that it suffices. -/
namespace Go.Sx
open Go

def hasTag : List (Nat × Bool) → Nat → Bool → Bool
  | [], _, _ => false
  | (g, p) :: r, g', p' => (decide (g = g') && (p == p')) || hasTag r g' p'

def dull : AV → AV
  | .opt _ _ _ => .any
  | a => a

def getT (tags : List (Nat × Bool)) (tm : List AV) (t : Nat) : AV :=
  match tm.getD t .any with
  | .opt g p x => if hasTag tags g p then dull x else .any
  | a => a

def kill (d : Nat) : AV → AV
  | .opt g p x => if g = d then .any else .opt g p x
  | a => a

def setSlot (tm : List AV) (d : Option Nat) (a : AV) : List AV :=
  match d with
  | some d => (tm.map (kill d)).set d a
  | none => tm

def clearOpt (tm : List AV) : List AV := tm.map dull

def exSh : Sh → (D → Prop) → Prop
  | .int k, K => ∃ n, K (.int k n)
  | .bool, K => ∃ b, K (.bool b)
  | .str, K => ∃ s, K (.str s)
  | .sl, K => ∃ l, K (.sl l)
  | .fn, K => ∃ f, K (.fn f)

def exShs : List Sh → (List D → Prop) → Prop
  | [], K => K []
  | s :: r, K => exSh s fun d => exShs r fun ds => K (d :: ds)

def exTy (P : Program) (T : TypeId) (K : D → Prop) : Prop :=
  match shapes P 9 T, aggB P T with
  | some shs, some ag => exShs shs fun cs => K (mkD ag cs)
  | _, _ => False

def exTys (P : Program) : List TypeId → (List D → Prop) → Prop
  | [], K => K []
  | T :: r, K => exTy P T fun d => exTys P r fun ds => K (d :: ds)

theorem exSh_some {s : Sh} {K : D → Prop} (h : exSh s K) : ∃ d, K d := by
  cases s <;> obtain ⟨x, hx⟩ := h <;> exact ⟨_, hx⟩

theorem exShs_some : ∀ {l : List Sh} {K : List D → Prop}, exShs l K → ∃ ds, K ds
  | [], _, h => ⟨[], h⟩
  | s :: r, K, h => by
    obtain ⟨d, hd⟩ := exSh_some h
    obtain ⟨ds, hds⟩ := exShs_some hd
    exact ⟨_, hds⟩

theorem exTy_some {P T} {K : D → Prop} (h : exTy P T K) : ∃ d, K d := by
  unfold exTy at h
  split at h
  · obtain ⟨ds, hds⟩ := exShs_some h; exact ⟨_, hds⟩
  · exact h.elim

theorem exTys_some {P} : ∀ {l : List TypeId} {K : List D → Prop}, exTys P l K → ∃ ds, K ds
  | [], _, h => ⟨[], h⟩
  | T :: r, K, h => by
    obtain ⟨d, hd⟩ := exTy_some h
    obtain ⟨ds, hds⟩ := exTys_some hd
    exact ⟨_, hds⟩

def resAV : List D → AV
  | [d] => .d d
  | ds => .tup (ds.map .d)

def okFn (P : Program) (f : Nat) : Bool :=
  match P.funcs[f]? with
  | some fn => !(fn.name == "runtime.NumGoroutine") && fn.body.isSome
  | none => false

def resTys (P : Program) (f : Nat) : List TypeId := ((P.funcs[f]?).map fun fn => fn.resultTypes.toList).getD []

def calleeAV : AV → Option (Nat × List AV × List AV)
  | .clo f a b => some (f, a, b)
  | .d (.fn f) => some (f, [], [])
  | _ => none

/-- Operations of which nothing is to be shown. -/
def triv (e : Operand → AV) : Op → Bool
  | .move _ => true
  | .assign _ => true
  | .load _ _ => true
  | .fieldAddr _ _ _ => true
  | .unOp _ _ _ => true
  | .extract _ _ => true
  | .build _ _ => true
  | .buildSlice _ _ _ => true
  | .makeFunc _ _ _ => true
  | .nilCheck _ => true
  | .convert _ _ _ => true
  | .call _ => true
  | .binOp op _ x _ _ => match op with
    | .quo => false
    | .rem => false
    | .shl => false
    | .shr => false
    | .add => match avD (e x) with
      | some (.int _ _) => true
      | _ => false
    | _ => true
  | _ => false

def htriv : Op → Bool
  | .alloc _ => true
  | .box _ _ => true
  | .store _ _ _ => true
  | .makeMap _ _ => true
  | _ => false

theorem binF_triv {P op T x y r F} (h : binF P op T x y = some (r, F)) (h1 : op ≠ .quo) (h2 : op ≠ .rem) (h3 : op ≠ .shl) (h4 : op ≠ .shr) (h5 : op = .add → ∃ k n, x = .int k n) : F := by
  unfold binF at h
  split at h
  · split at h
    · exact absurd rfl h3
    · exact absurd rfl h4
    · split at h
      · cases op <;> simp only [intF, cmpF, Option.map_some, Option.map_none] at h <;> first | exact absurd rfl h1 | exact absurd rfl h2 | (cases h; trivial) | cases h
      · cases h
  · cases op <;> simp only [strF] at h <;> first | (obtain ⟨k, n, hk⟩ := h5 rfl; cases hk; done) | (cases h; trivial) | cases h
  · split at h
    · cases op <;> simp only [eqlF] at h <;> first | (cases h; trivial) | cases h
    · cases h
  · split at h
    · rename_i xs ys _
      cases hr : eqFieldsF P xs ys (P.fieldsOf T).toList with
      | none => rw [hr] at h; cases h
      | some b =>
        rw [hr] at h; simp only [Option.bind_some] at h
        cases op <;> simp only [eqlF] at h <;> first | (cases h; trivial) | cases h
    · cases h
  · cases h

theorem map_true {α β : Type} {o : Option α} {f : α → β} {b : β} {F : Prop} (h : (o.map fun x => (f x, True)) = some (b, F)) : F := by
  cases o with
  | none => simp at h
  | some x => cases h; trivial

theorem opF_triv {P e H o a F} (h : opF P e H o = some (a, F)) (ht : triv e o = true) : F := by
  cases o with
  | move => cases h; trivial
  | assign => cases h; trivial
  | load T x =>
    simp only [opF] at h
    split at h
    · split at h
      · exact map_true (f := id) h
      · cases h
    · exact map_true (f := id) h
    · cases h
  | fieldAddr T x f =>
    simp only [opF] at h
    repeat (first | (cases h; trivial) | (cases h; done) | split at h)
  | unOp op T x =>
    cases op <;> simp only [opF] at h
    all_goals (repeat (first | (cases h; trivial) | (cases h; done) | split at h))
  | extract t i =>
    simp only [opF] at h
    split at h
    · exact map_true (f := id) h
    · cases h
  | build T parts =>
    simp only [opF] at h
    split at h
    · exact map_true (f := id) h
    · cases h
  | buildSlice T n parts =>
    simp only [opF] at h
    repeat (first | (cases h; trivial) | (cases h; done) | split at h)
  | makeFunc fn a b =>
    cases fn <;> simp only [opF] at h <;> first | (cases h; trivial) | cases h
  | nilCheck x =>
    simp only [opF] at h
    repeat (first | (cases h; trivial) | (cases h; done) | split at h)
  | convert S T x =>
    simp only [opF] at h
    repeat (first | (cases h; trivial) | (cases h; done) | split at h)
  | call c =>
    obtain ⟨callee, args, types⟩ := c
    cases callee with
    | value f => simp [opF] at h
    | invoke a b => simp [opF] at h
    | builtin b =>
      cases b <;> first | (simp [opF] at h; done) | skip
      · simp only [opF] at h
        split at h
        · split at h
          · cases h; trivial
          · exact map_true h
          · cases h
        · cases h
      · simp only [opF] at h
        repeat (first | (cases h; trivial) | (cases h; done) | split at h)
  | binOp op T x y yT =>
    simp only [opF] at h
    split at h
    · cases h; trivial
    split at h
    · rename_i p q hx hy
      cases hb : binF P op T p q with
      | none => rw [hb] at h; cases h
      | some r =>
        rw [hb] at h
        cases h
        refine binF_triv (r := r.1) (F := r.2) hb ?_ ?_ ?_ ?_ ?_
        · intro e'; subst e'; simp [triv] at ht
        · intro e'; subst e'; simp [triv] at ht
        · intro e'; subst e'; simp [triv] at ht
        · intro e'; subst e'; simp [triv] at ht
        · intro e'
          subst e'
          simp only [triv, hx] at ht
          split at ht
          · rename_i k n hkn; cases hkn; exact ⟨k, n, rfl⟩
          · simp at ht
    · cases h
  | _ => simp [triv] at ht

theorem hopF_triv {P e H o a H' F} (h : hopF P e H o = some (a, H', F)) (ht : htriv o = true) : F := by
  cases o with
  | alloc T =>
    simp only [hopF] at h
    cases hz : zeroV P T with
    | none => rw [hz] at h; cases h
    | some z => rw [hz] at h; cases h; trivial
  | box T x =>
    simp only [hopF] at h
    cases hz : avCells (e x) with
    | none => rw [hz] at h; cases h
    | some z => rw [hz] at h; cases h; trivial
  | store T x y =>
    simp only [hopF] at h
    repeat (first | (cases h; trivial) | (cases h; done) | split at h)
  | makeMap T r =>
    cases r <;> simp only [hopF] at h <;> first | (cases h; trivial) | cases h
  | _ => simp [htriv] at ht

def restW (P : Program) (e : Operand → AV) (H : List Box) (op : Op) (tags : List (Nat × Bool)) (C : Prop) (K : AV → List Box → Prop) : Prop :=
  match opF P e H op with
  | some (av, F) => if triv e op then K av H else
    match tags with
    | [] => F ∧ K av H
    | _ :: _ => (C → F) ∧ K av H
  | none =>
    match tags with
    | [] => match hopF P e H op with
      | some (av, H', F) => if htriv op then K av H' else F ∧ K av H'
      | none => False
    | _ :: _ => False

def seeN (aas : List AV) (H : List Box) : Nat := needN H 4 (AV.tops aas)
def seeOk (n : Nat) (aas : List AV) (H : List Box) : Bool := decide (n ≤ H.length) && AV.unders n aas && (H.take n).all (Box.under n)

/-- Data are told as data. -/
def normA (a : AV) : AV :=
  match avD a with
  | some x => .d x
  | none => a

/-- A call that sees boxes and leaves them as they are. -/
def pureW (P : Program) (G : Nat → Option (List D)) (k : Nat) (aas : List AV) (H : List Box) (K : AV → List Box → Prop) : Prop :=
  if seeOk (seeN aas H) aas H then PCall P G k aas (H.take (seeN aas H)) fun rs H' => H' = H.take (seeN aas H) ∧ exTys P (resTys P k) fun ds' => rs = ds' ∧ K (resAV ds') H
  else False

/-- A call that may write the boxes it sees. -/
def callW1 (P : Program) (G : Nat → Option (List D)) (k : Nat) (aas : List AV) (H : List Box) (K : AV → List Box → Prop) : Prop :=
  if seeOk (seeN aas H) aas H then PCall P G k aas (H.take (seeN aas H)) fun rs H' => exTys P (resTys P k) fun ds' => rs = ds' ∧ exH (H.take (seeN aas H)) fun H'' => H' = H'' ∧ K (resAV ds') (H'' ++ H.drop (seeN aas H))
  else False

def opW (P : Program) (G : Nat → Option (List D)) (o : Oper) (tags : List (Nat × Bool)) (C : Prop) (tm : List AV) (H : List Box) (K : AV → List Box → Prop) : Prop :=
  match o.op with
  | .pick (.tmp g) a b =>
    match getT tags tm g, ev G (getT ((g, true) :: tags) tm) a, ev G (getT ((g, false) :: tags) tm) b with
    | .d (.bool t), .d (.bool x), .d (.bool y) => K (.d (.bool (bif t then x else y))) H
    | _, _, _ => False
  | .call { callee := .value f, args, argTypes := _ } =>
    match calleeAV (ev G (getT tags tm) f) with
    | some (k, fi, ca) =>
      if okFn P k then
        match (fi ++ args.toList.map (ev G (getT tags tm)) ++ ca).mapM avD with
        | some ds => PFn P G k ds fun rs => exTys P (resTys P k) fun ds' => rs = ds' ∧ K (resAV ds') H
        | none => pureW P G k ((fi ++ args.toList.map (ev G (getT tags tm)) ++ ca).map normA) H K
      else False
    | none => False
  | op => restW P (ev G (getT tags tm)) H op tags C K

def callW (P : Program) (G : Nat → Option (List D)) (k : Nat) (aas : List AV) (H : List Box) (K : AV → List Box → Prop) : Prop :=
  if H.all (Box.under H.length) && AV.unders H.length aas then callW1 P G k aas (tokH P H) K else False

/-- A call of a yield. -/
def yieldOf (e : Operand → AV) : Op → Option (Nat × List AV)
  | .call { callee := .value f, args, argTypes := _ } =>
    match e f with
    | .yld l => some (l, (args.toList.map e).map normA)
    | _ => none
  | _ => none

def yieldW (P : Program) (G : Nat → Option (List D)) (l : Nat) (aas : List AV) (H : List Box) (K : AV → List Box → Prop) : Prop :=
  if seeOk (seeN (.yld l :: aas) H) (.yld l :: aas) H then PYield P G l aas (H.take (seeN (.yld l :: aas) H)) fun rs H' => ∃ b, rs = [.bool b] ∧ exH (H.take (seeN (.yld l :: aas) H)) fun H'' => H' = H'' ∧ K (.d (.bool b)) (H'' ++ H.drop (seeN (.yld l :: aas) H))
  else False

/-- An argument: nil is told as nil. -/
def argA (e : Operand → AV) : Operand → AV
  | .const (.slice none 0 0) => .nils
  | x => normA (e x)

/-- A call with arguments that are no data. -/
def heavy (P : Program) (e : Operand → AV) (op : Op) : Option (Nat × List AV) :=
  match op with
  | .call { callee := .value f, args, argTypes := _ } =>
    match calleeAV (e f) with
    | some (k, fi, ca) =>
      if okFn P k then
        match (fi ++ args.toList.map e ++ ca).mapM avD with
        | some _ => none
        | none => some (k, fi.map normA ++ args.toList.map (argA e) ++ ca.map normA)
      else none
    | none => none
  | _ => none
end Go.Sx
/- One operation, sound. -/
namespace Go.Sx
open Go

section
variable {P : Program} {G : Nat → Option (List D)} {nb : Nat} {rd : Option Nat} {c : Cx} {H : List Box} {w : World} {tm : List AV} {a : Act}

def TagsOk (tmps : Array Value) (tags : List (Nat × Bool)) : Prop := ∀ g p, hasTag tags g p = true → tmps[g]? = some (.bool p)

theorem TagsOk.cons {tmps : Array Value} {tags : List (Nat × Bool)} {g : Nat} {p : Bool} (h : TagsOk tmps tags) (hg : tmps[g]? = some (.bool p)) : TagsOk tmps ((g, p) :: tags) := by
  intro g' p' h'
  simp only [hasTag, Bool.or_eq_true, Bool.and_eq_true, decide_eq_true_eq, beq_iff_eq] at h'
  rcases h' with ⟨rfl, rfl⟩ | h'
  · exact hg
  · exact h g' p' h'

theorem RA.dull {x : AV} {v : Value} (h : RA c H w x v) : RA c H w (dull x) v := by
  cases x <;> first | exact h | exact .any v

theorem getT_sound {tags : List (Nat × Bool)} (hR : Rep G nb c H w tm a) (ht : TagsOk a.tmps tags) (t : Nat) : RA c H w (getT tags tm t) (a.tmps.getD t undef) := by
  unfold getT
  rw [List.getD_eq_getElem?_getD]
  cases hx : tm[t]? with
  | none => simp; exact .any _
  | some x =>
    obtain ⟨v, hv, hs⟩ := hR.tm.get hx
    have hv' : a.tmps.getD t undef = v := by
      simp only [Array.getElem?_toList] at hv
      simp [Array.getD_eq_getD_getElem?, hv]
    rw [hv']
    simp only [Option.getD_some]
    cases x <;> simp only [SlotR] at hs <;> first
      | exact hs
      | skip
    rename_i g p y
    simp only
    split
    · rename_i htag; exact (hs.1 (ht g p htag)).dull
    · exact .any _

theorem ev_sound {tags : List (Nat × Bool)} (hR : Rep G nb c H w tm a) (ht : TagsOk a.tmps tags) (x : Operand) : RA c H w (ev G (getT tags tm) x) (a.eval x) := by
  cases x with
  | tmp t => exact getT_sound hR ht t
  | const v =>
    simp only [ev, Act.eval]
    split
    · exact .full .nil
    · split
      · rename_i y hy; exact .d (valD_sound hy)
      · exact .any _
  | global g =>
    simp only [ev, Act.eval]
    split
    · rename_i cs hg; exact .iptr fun j y hy => by simpa using hR.gr g cs hg j y hy
    · exact .any _
  | func f => exact .d (R1.fn f)

theorem mapM_avD : ∀ {aas : List AV} {ds : List D} {vs : List Value}, aas.mapM avD = some ds → All2 (fun v a => RA c H w a v) vs aas → All2 (RV c.I c.J w) vs ds
  | [], ds, vs, h, h2 => by
    simp at h; subst h
    have := h2.nil_right; subst this; exact All2.nil
  | a :: aas, ds, vs, h, h2 => by
    rw [List.mapM_cons] at h
    cases ha : avD a with
    | none => rw [ha] at h; simp at h
    | some x =>
      rw [ha] at h
      cases hr : aas.mapM avD with
      | none => rw [hr] at h; simp at h
      | some xs =>
        rw [hr] at h; simp at h; subst h
        obtain ⟨v, vs', rfl, h3, h4⟩ := h2.cons_right
        exact All2.cons (avD_sound h3 ha) (mapM_avD hr h4)

theorem All2.map_ev {e : Operand → AV} {r : Operand → Value} (he : ∀ x, RA c H w (e x) (r x)) : ∀ (l : List Operand), All2 (fun v a => RA c H w a v) (l.map r) (l.map e)
  | [] => All2.nil
  | x :: l => All2.cons (he x) (All2.map_ev he l)

theorem run_call {r : Operand → Value} {f : Operand} {args : Array Operand} {types : Array TypeId} {o : Oper} {k : Nat} {fv cv : List Value} (ho : o.op = .call { callee := .value f, args, argTypes := types }) (hf : r f = .func (.func k) fv.toArray cv.toArray) (hok : okFn P k = true) :
    (execOp r o).run P w = .ok (.enter k (fv ++ args.toList.map r ++ cv).toArray) w := by
  unfold okFn at hok
  cases hfn : P.funcs[k]? with
  | none => rw [hfn] at hok; simp at hok
  | some fn =>
    rw [hfn] at hok
    simp only [Bool.and_eq_true, Bool.not_eq_true'] at hok
    obtain ⟨h1, h2⟩ := hok
    have h3 : fn.body.isNone = false := by cases hb : fn.body with
      | none => rw [hb] at h2; simp at h2
      | some b => rfl
    have ha : fv.toArray ++ args.map r ++ cv.toArray = (fv ++ args.toList.map r ++ cv).toArray := by
      apply Array.ext'; simp
    simp only [execOp, ho, resolve, Sem.run_bind, hf, Deferred.ofValue, Sem.run_pure, Result.andThen_ok, invoke, callFunc, run_program, hfn, h1, Bool.false_eq_true, if_false, h3]
    rw [ha]

theorem resR_av {c' : Cx} {H' : List Box} {w' : World} {v : Value} {rs : List D} (h : ResR c'.I c'.J w' v rs) : RA c' H' w' (resAV rs) v := by
  match rs with
  | [d] => exact .d h
  | [] =>
    obtain ⟨vs, rfl, h2⟩ := h
    exact .tup (by simpa using h2.1.symm) (fun i a v ha hv => by simp at ha)
  | d1 :: d2 :: r =>
    obtain ⟨vs, rfl, h2⟩ := h
    refine .tup (by simpa using h2.1.symm) (fun i a v ha hv => ?_)
    simp only [List.getElem?_map] at ha
    cases hx : (d1 :: d2 :: r)[i]? with
    | none => rw [hx] at ha; simp at ha
    | some y => rw [hx] at ha; simp at ha; subst ha; exact .d (h2.2 i v y hv hx)

theorem callee_args {tags : List (Nat × Bool)} {f : Operand} {args : Array Operand} {k : Nat} {fi ca : List AV} (he : ∀ x, RA c H w (ev G (getT tags tm) x) (a.eval x)) (hcal : calleeAV (ev G (getT tags tm) f) = some (k, fi, ca)) :
    ∃ fv cv : List Value, a.eval f = .func (.func k) fv.toArray cv.toArray ∧ All2 (fun v a => RA c H w a v) (fv ++ args.toList.map a.eval ++ cv) (fi ++ args.toList.map (ev G (getT tags tm)) ++ ca) := by
  have hf := he f
  obtain ⟨fv, cv, hfv, hfi, hca⟩ : ∃ fv cv : List Value, a.eval f = .func (.func k) fv.toArray cv.toArray ∧ All2 (fun v a => RA c H w a v) fv fi ∧ All2 (fun v a => RA c H w a v) cv ca := by
    generalize a.eval f = vf at *
    generalize ev G (getT tags tm) f = ef at *
    cases hf with
    | @clo f' fi' ca' fv cv hl1 hl2 h1 h2 =>
      simp [calleeAV] at hcal
      obtain ⟨rfl, rfl, rfl⟩ := hcal
      exact ⟨fv, cv, rfl, ⟨hl1.symm, fun i v a hv ha => h1 i a v ha hv⟩, ⟨hl2.symm, fun i v a hv ha => h2 i a v ha hv⟩⟩
    | @d y _ hy =>
      cases y <;> simp [calleeAV] at hcal
      obtain ⟨rfl, rfl, rfl⟩ := hcal
      cases hy
      exact ⟨[], [], rfl, All2.nil, All2.nil⟩
    | _ => simp [calleeAV] at hcal
  exact ⟨fv, cv, hfv, (hfi.append (All2.map_ev (e := ev G (getT tags tm)) (r := a.eval) he args.toList)).append hca⟩

theorem RA.normA {x : AV} {v : Value} (h : RA c H w x v) : RA c H w (normA x) v := by
  unfold Go.Sx.normA
  split
  · rename_i d hd; exact .d (avD_sound h hd)
  · exact h
theorem All2.normA {aas : List AV} {vs : List Value} (h : All2 (fun v a => RA c H w a v) vs aas) : All2 (fun v a => RA c H w a v) vs (aas.map Go.Sx.normA) := by
  refine ⟨by simp [h.1], fun i v a hv ha => ?_⟩
  simp only [List.getElem?_map] at ha
  cases hx : aas[i]? with
  | none => rw [hx] at ha; cases ha
  | some y => rw [hx] at ha; cases ha; exact (h.2 i v y hv hx).normA

theorem unders_all {n : Nat} {aas : List AV} {vs : List Value} (hu : AV.unders n aas = true) (h : All2 (fun v a => RA c H w a v) vs aas) : All2 (fun v a => RA (c.take n) (H.take n) w a v) vs aas :=
  ⟨h.1, fun i v a hv ha => (h.2 i v a hv ha).take (unders_get hu ha)⟩

/-- The call itself. -/
theorem call_part {k : Nat} {aas : List AV} {vs : List Value} {Q : List D → List Box → Prop} {next : Value → World → Prop} (hok : seeOk (seeN aas H) aas H = true) (hr : HR c H w) (hg : GR G c w) (hvs : All2 (fun v a => RA c H w a v) vs aas)
    (h : PCall P G k aas (H.take (seeN aas H)) Q) (hn : ∀ v w' c' rs H1, Q rs H1 → Ext c w c' w' → Keep c H c' (H1 ++ H.drop (seeN aas H)) → HR c' (H1 ++ H.drop (seeN aas H)) w' → RA c' (H1 ++ H.drop (seeN aas H)) w' (resAV rs) v → next v w') :
    Calls P k vs.toArray w fun e w' => ∃ v, e = .returned v ∧ next v w' := by
  unfold seeOk at hok
  simp only [Bool.and_eq_true, decide_eq_true_eq] at hok
  obtain ⟨⟨h1, h2⟩, h3⟩ := hok
  refine (h.run (c.take (seeN aas H)) w vs (hr.take h3) (hg.ext (Ext.take c w _)) (unders_all h2 hvs)).mono fun en w' hen => ?_
  obtain ⟨v, rs, c', H1, rfl, hq, hl, hext, hk, hhr, hres⟩ := hen
  obtain ⟨e2, k2, hr2⟩ := back_part h1 hr hext hk hl hhr
  exact ⟨v, rfl, hn v w' _ rs H1 hq e2 k2 hr2 (resR_av (c' := { c' with ρ := c'.ρ ++ c.ρ.drop (seeN aas H) }) hres)⟩

/-- What the walk goes on with behind an operation. -/
def Goes (c : Cx) (H : List Box) (w : World) (a : Act) (o : Oper) (K : AV → List Box → Prop) (next : Act → World → Prop) : Prop :=
  ∀ v w' c' av H', K av H' → Ext c w c' w' → Keep c H c' H' → HR c' H' w' → RA c' H' w' av v → next (a.put o.dst v) w'

theorem wpIn_enter {o : Oper} {k : Nat} {args : Array Value} {next : Act → World → Prop} {Q : Exit → Act → World → Prop} (hnd : ∀ d, o.op ≠ .defer d) (h : (execOp a.eval o).run P w = .ok (.enter k args) w)
    (hc : Calls P k args w fun e w' => ∃ v, e = .returned v ∧ next (a.put o.dst v) w') : o.wpIn (Fen rd) 0 P a w next Q := by
  refine ⟨fun _ _ => trivial, ?_⟩
  rw [Oper.semAt_eq _ _ _ hnd, h]
  refine ⟨fun h => (by cases h), callsIn_fen (hc.mono fun e w' he => ?_)⟩
  obtain ⟨v, rfl, hx⟩ := he
  exact hx

theorem gives_wp {o : Oper} {av : AV} {H' : List Box} {K : AV → List Box → Prop} {next : Act → World → Prop} {Q : Exit → Act → World → Prop} (hnd : ∀ d, o.op ≠ .defer d) (hg : Gives P c H w (execOp a.eval o) av H') (hk : K av H') (hn : Goes c H w a o K next) : o.wpIn (Fen rd) 0 P a w next Q := by
  obtain ⟨n, v, w', c', h1, h2, h3, h4, h5, h6⟩ := hg
  refine ⟨fun _ _ => trivial, ?_⟩
  rw [Oper.semAt_eq _ _ _ hnd, h1]
  rcases h2 with rfl | ⟨rfl, rfl⟩
  · exact hn v w' c' av H' hk h3 h4 h5 h6
  · exact hn undef w' c' av H' hk h3 h4 h5 h6

theorem opF_nd {e : Operand → AV} {o : Op} {r : AV × Prop} (h : opF P e H o = some r) : ∀ d, o ≠ .defer d := by
  rintro d rfl; simp [opF] at h
theorem hopF_nd {e : Operand → AV} {o : Op} {r : AV × List Box × Prop} (h : hopF P e H o = some r) : ∀ d, o ≠ .defer d := by
  rintro d rfl; simp [hopF] at h

theorem opW_sound {o : Oper} {tags : List (Nat × Bool)} {C : Prop} {K : AV → List Box → Prop} {next : Act → World → Prop} {Q : Exit → Act → World → Prop} (hR : Rep G nb c H w tm a) (ht : TagsOk a.tmps tags) (hC : C)
    (h : opW P G o tags C tm H K) (hn : Goes c H w a o K next) : o.wpIn (Fen rd) 0 P a w next Q := by
  have he := ev_sound hR ht
  unfold opW at h
  split at h
  · rename_i g x y hop
    split at h
    · rename_i t p q hg hx hy
      have h1 := getT_sound hR ht g
      rw [hg] at h1
      have hgb : a.tmps.getD g undef = .bool t := h1.bool
      have hgs : a.tmps[g]? = some (.bool t) := by
        rw [Array.getD_eq_getD_getElem?] at hgb
        cases ht' : a.tmps[g]? with
        | none => rw [ht'] at hgb; simp [undef] at hgb
        | some z => rw [ht'] at hgb; simp at hgb; rw [hgb]
      refine gives_wp (av := .d (.bool (bif t then p else q))) (by rw [hop]; intro d hd; cases hd) ?_ h hn
      refine gives_value (v := .bool (bif t then p else q)) (c' := c) ?_ (Ext.refl _ _) (Keep.refl _ _) hR.hr (.d (R1.bool _))
      have hev : a.eval (.tmp g) = .bool t := hgb
      cases t with
      | true =>
        have := ev_sound hR (ht.cons hgs) x
        rw [hx] at this
        simp [execOp, hop, hev, asBool, this.bool]
      | false =>
        have := ev_sound hR (ht.cons hgs) y
        rw [hy] at this
        simp [execOp, hop, hev, asBool, this.bool]
    · exact h.elim
  · rename_i f args types hop
    split at h
    · rename_i k fi ca hcal
      split at h
      · rename_i hok
        split at h
        · rename_i ds hds
          obtain ⟨fv, cv, hfv, hargs⟩ := callee_args (args := args) he hcal
          have hrv := mapM_avD hds hargs
          refine wpIn_enter (by rw [hop]; intro d hd; cases hd) (run_call hop hfv hok) ?_
          have hnil : HR { c with ρ := [] } [] w := hR.hr.nil
          refine (h.2 { c with ρ := [] } w _ rfl hnil hR.gr hrv).mono fun en w' hen => ?_
          obtain ⟨v, rs, c', rfl, hq, hρ, hext, hhr, hres⟩ := hen
          obtain ⟨ds', rfl, hk⟩ := exTys_some hq
          obtain ⟨e2, k2, h2⟩ := back_from hR.hr hext hhr
          exact ⟨v, rfl, hn v w' _ (resAV rs) H hk e2 k2 h2 (resR_av (c' := { c' with ρ := c.ρ }) hres)⟩
        · obtain ⟨fv, cv, hfv, hargs⟩ := callee_args (args := args) he hcal
          unfold pureW at h
          split at h
          · rename_i hsee
            refine wpIn_enter (by rw [hop]; intro d hd; cases hd) (run_call hop hfv hok) ?_
            refine (call_part (next := fun v w' => next (a.put o.dst v) w') hsee hR.hr hR.gr hargs.normA h ?_).mono fun en w' hen => hen
            · intro v w' c' rs H1 hq e2 k2 hr2 hra
              obtain ⟨rfl, hq⟩ := hq
              obtain ⟨ds', rfl, hk⟩ := exTys_some hq
              rw [List.take_append_drop] at k2 hr2 hra
              exact hn v w' c' (resAV rs) H hk e2 k2 hr2 hra
          · exact h.elim
      · exact h.elim
    · exact h.elim
  · unfold restW at h
    split at h
    · rename_i av F hf
      split at h
      · rename_i htr
        exact gives_wp (opF_nd hf) (opF_gives hR.hr he (fun _ _ e => by subst e; rfl) hf (opF_triv hf htr)) h hn
      · split at h
        · exact gives_wp (opF_nd hf) (opF_gives hR.hr he (fun _ _ e => by subst e; rfl) hf h.1) h.2 hn
        · exact gives_wp (opF_nd hf) (opF_gives hR.hr he (fun _ _ e => by subst e; rfl) hf (h.1 hC)) h.2 hn
    · split at h
      · split at h
        · rename_i av H' F hf
          split at h
          · rename_i htr
            exact gives_wp (hopF_nd hf) (hopF_gives hR.hr he hf (hopF_triv hf htr)) h hn
          · exact gives_wp (hopF_nd hf) (hopF_gives hR.hr he hf h.1) h.2 hn
        · exact h.elim
      · exact h.elim

theorem RA.argA {e : Operand → AV} (he : ∀ x, RA c H w (e x) (a.eval x)) (x : Operand) : RA c H w (Go.Sx.argA e x) (a.eval x) := by
  unfold Go.Sx.argA
  split
  · exact .nils
  · exact (he x).normA
theorem All2.argA {e : Operand → AV} (he : ∀ x, RA c H w (e x) (a.eval x)) (l : List Operand) : All2 (fun v a => RA c H w a v) (l.map a.eval) (l.map (Go.Sx.argA e)) := by
  refine ⟨by simp, fun i v x hv hx => ?_⟩
  rw [List.getElem?_map, Option.map_eq_some_iff] at hv hx
  obtain ⟨y, hy, rfl⟩ := hv
  obtain ⟨z, hz, rfl⟩ := hx
  rw [hy] at hz; cases hz
  exact RA.argA he y
theorem callee_argsA {f : Operand} {args : Array Operand} {k : Nat} {fi ca : List AV} (he : ∀ x, RA c H w (ev G (getT [] tm) x) (a.eval x)) (hcal : calleeAV (ev G (getT [] tm) f) = some (k, fi, ca)) :
    ∃ fv cv : List Value, a.eval f = .func (.func k) fv.toArray cv.toArray ∧ All2 (fun v a => RA c H w a v) (fv ++ args.toList.map a.eval ++ cv) (fi.map normA ++ args.toList.map (Go.Sx.argA (ev G (getT [] tm))) ++ ca.map normA) := by
  have hf := he f
  obtain ⟨fv, cv, hfv, hfi, hca⟩ : ∃ fv cv : List Value, a.eval f = .func (.func k) fv.toArray cv.toArray ∧ All2 (fun v a => RA c H w a v) fv fi ∧ All2 (fun v a => RA c H w a v) cv ca := by
    generalize a.eval f = vf at *
    generalize ev G (getT [] tm) f = ef at *
    cases hf with
    | @clo f' fi' ca' fv cv hl1 hl2 h1 h2 =>
      simp [calleeAV] at hcal
      obtain ⟨rfl, rfl, rfl⟩ := hcal
      exact ⟨fv, cv, rfl, ⟨hl1.symm, fun i v a hv ha => h1 i a v ha hv⟩, ⟨hl2.symm, fun i v a hv ha => h2 i a v ha hv⟩⟩
    | @d y _ hy =>
      cases y <;> simp [calleeAV] at hcal
      obtain ⟨rfl, rfl, rfl⟩ := hcal
      cases hy
      exact ⟨[], [], rfl, All2.nil, All2.nil⟩
    | _ => simp [calleeAV] at hcal
  exact ⟨fv, cv, hfv, (hfi.normA.append (All2.argA he args.toList)).append hca.normA⟩

theorem heavy_sound {o : Oper} {k : Nat} {aas : List AV} {K : AV → List Box → Prop} {next : Act → World → Prop} {Q : Exit → Act → World → Prop} (hR : Rep G nb c H w tm a) (hh : heavy P (ev G (getT [] tm)) o.op = some (k, aas)) (h : callW P G k aas H K) (hn : Goes c H w a o K next) : o.wpIn (Fen rd) 0 P a w next Q := by
  have he := ev_sound (tags := []) hR (fun g p h => by simp [hasTag] at h)
  unfold heavy at hh
  split at hh
  · rename_i f args types hop
    split at hh
    · rename_i k' fi ca hcal
      split at hh
      · rename_i hok
        split at hh
        · cases hh
        · simp only [Option.some.injEq, Prod.mk.injEq] at hh
          obtain ⟨rfl, rfl⟩ := hh
          obtain ⟨fv, cv, hfv, hargsA⟩ := callee_argsA (args := args) he hcal
          unfold callW at h
          split at h
          · rename_i hun
            simp only [Bool.and_eq_true] at hun
            obtain ⟨c9, hr9, e9, k9, t9⟩ := hR.hr.tok (P := P) hun.1
            have hargs9 : All2 (fun v a => RA c9 (tokH P H) w a v) (fv ++ args.toList.map a.eval ++ cv) (fi.map normA ++ args.toList.map (argA (ev G (getT [] tm))) ++ ca.map normA) :=
              ⟨hargsA.1, fun i v a hv ha => t9 a v (unders_get hun.2 ha) (hargsA.2 i v a hv ha)⟩
            unfold callW1 at h
            split at h
            · rename_i hsee
              refine wpIn_enter (by rw [hop]; intro d hd; cases hd) (run_call hop hfv hok) ?_
              refine (call_part (next := fun v w' => next (a.put o.dst v) w') hsee hr9 (hR.gr.ext e9) hargs9 h ?_).mono fun en w' hen => hen
              intro v w' c' rs H1 hq e2 k2 hr2 hra
              obtain ⟨ds', rfl, hq⟩ := exTys_some hq
              obtain ⟨H'', rfl, hk⟩ := exH_some hq
              exact hn v w' c' (resAV rs) _ hk (e9.trans e2) (k9.trans k2) hr2 hra
            · exact h.elim
          · exact h.elim
      · cases hh
    · cases hh
  · cases hh

theorem yield_sound {o : Oper} {l : Nat} {aas : List AV} {K : AV → List Box → Prop} {next : Act → World → Prop} {Q : Exit → Act → World → Prop} (hR : Rep G nb c H w tm a) (hh : yieldOf (ev G (getT [] tm)) o.op = some (l, aas)) (h : yieldW P G l aas H K) (hn : Goes c H w a o K next) : o.wpIn (Fen rd) 0 P a w next Q := by
  have he := ev_sound (tags := []) hR (fun g p h => by simp [hasTag] at h)
  unfold yieldOf at hh
  split at hh
  · rename_i f args types hop
    split at hh
    · rename_i l' hl'
      simp only [Option.some.injEq, Prod.mk.injEq] at hh
      obtain ⟨rfl, rfl⟩ := hh
      have hf := he f
      rw [hl'] at hf
      generalize hfv : a.eval f = fv at hf
      cases hf with
      | @yld _ b k tm' ps asn bd pend st hH hρ =>
      unfold yieldW at h
      split at h
      · rename_i hsee
        generalize hn' : seeN (.yld l' :: (args.toList.map (ev G (getT [] tm))).map normA) H = n at h hsee
        unfold seeOk at hsee
        simp only [Bool.and_eq_true, decide_eq_true_eq, AV.unders, AV.under] at hsee
        obtain ⟨⟨h1, h2, h2'⟩, h3⟩ := hsee
        have hargs : All2 (fun v a => RA (c.take n) (H.take n) w a v) (args.toList.map a.eval) ((args.toList.map (ev G (getT [] tm))).map normA) := unders_all h2' (All2.map_ev he args.toList).normA
        have hρ' : (c.take n).ρ[l']? = some (some (b, k)) := by show (c.ρ.take n)[l']? = _; rw [get_take h2]; exact hρ
        obtain ⟨f2, tmps, asn2, bd2, h4, h5⟩ := h.run (c.take n) w (args.toList.map a.eval) b k (hR.hr.take h3) (hR.gr.ext (Ext.take c w _)) hρ' hargs
        refine ⟨fun _ _ => trivial, ?_⟩
        have hrun : (execOp a.eval o).run P w = .ok (.round b f2 tmps asn2 bd2) w := by
          have e1 : args.map a.eval = (args.toList.map a.eval).toArray := by apply Array.ext'; simp
          simp only [execOp, hop, resolve, Sem.run_bind, hfv, Deferred.ofValue, Sem.run_pure, Result.andThen_ok, invoke]
          rw [← h4, e1]
          simp
        rw [Oper.semAt_eq _ _ _ (by rw [hop]; intro d hd; cases hd), hrun]
        refine ⟨fun h => (by cases h), ?_⟩
        refine RoundIn.mono (F := Fence.wide) h5 fun en w' hen => ?_
        obtain ⟨v, rs, c', H1, rfl, ⟨bb, rfl, hq⟩, hl, hext, hk, hhr, hres⟩ := hen
        obtain ⟨H'', rfl, hk2⟩ := exH_some hq
        obtain ⟨e2, k2, hr2⟩ := back_part h1 hR.hr hext hk hl hhr
        exact hn v w' _ (.d (.bool bb)) _ hk2 e2 k2 hr2 (resR_av (c' := { c' with ρ := c'.ρ ++ c.ρ.drop n }) (rs := [.bool bb]) hres)
      · exact h.elim
    · cases hh
  · cases hh

/-- Under a guard that does not hold the operation is passed over: there is a value all the same with which the walk goes on. -/
theorem opW_some {o : Oper} {tags : List (Nat × Bool)} {C : Prop} {K : AV → List Box → Prop} (h : opW P G o tags C tm H K) (hne : tags ≠ []) : ∃ av, K av H := by
  unfold opW at h
  split at h
  · split at h
    · exact ⟨_, h⟩
    · exact h.elim
  · split at h
    · split at h
      · split at h
        · obtain ⟨rs, hrs⟩ := h.1
          obtain ⟨ds', _, hk⟩ := exTys_some hrs
          exact ⟨_, hk⟩
        · unfold pureW at h
          split at h
          · obtain ⟨rs, H', _, hrs⟩ := h.1
            obtain ⟨ds', _, hk⟩ := exTys_some hrs
            exact ⟨_, hk⟩
          · exact h.elim
      · exact h.elim
    · exact h.elim
  · unfold restW at h
    split at h
    · split at h
      · exact ⟨_, h⟩
      · split at h
        · exact absurd rfl hne
        · exact ⟨_, h.2⟩
    · split at h
      · exact absurd rfl hne
      · exact h.elim
end
end Go.Sx
/- Regions in the text's order, and code without loops; loops by unrolling. -/
namespace Go.Sx
open Go

def chain : Nat → List AV → Nat → Bool → Option (List (Nat × Bool) × Prop)
  | 0, _, _, _ => none
  | n + 1, tm, g, p =>
    match tm.getD g .any with
    | .d (.bool b) => some ([(g, p)], b = p)
    | .opt g' p' (.d (.bool b)) =>
      match chain n tm g' p' with
      | some (tags, C) => some ((g, p) :: tags, C ∧ b = p)
      | none => none
    | _ => none

/-- Does a region make a slice with a bound on its room? -/
def cuts : Code → Bool
  | .region _ ops _ => ops.toList.any fun o => match o.op with
    | .slice _ _ none (some _) (some _) => true
    | _ => false
  | .seq a b => cuts a || cuts b
  | _ => false

/-- A call of data whose one result is a slice that was cut without room. -/
def fullOf (P : Program) (e : Operand → AV) (op : Op) : Option (Nat × List D) :=
  match op with
  | .call { callee := .value f, args, argTypes := _ } =>
    match calleeAV (e f) with
    | some (k, fi, ca) =>
      match P.funcs[k]? with
      | some fn =>
        match fn.resultTypes.toList with
        | [T] =>
          match P.underlying T with
          | some (.slice _) =>
            match fn.body with
            | some code =>
              if cuts code && okFn P k then
                match (fi ++ args.toList.map e ++ ca).mapM avD with
                | some ds => some (k, ds)
                | none => none
              else none
            | none => none
          | _ => none
        | _ => none
      | none => none
    | none => none
  | _ => none

def stepW (P : Program) (G : Nat → Option (List D)) (ops : Array Oper) (o : Oper) (tm : List AV) (H : List Box) (K : List AV → List Box → Prop) : Prop :=
  match o.guard with
  | none =>
    match yieldOf (ev G (getT [] tm)) o.op with
    | some (l, aas) => yieldW P G l aas H fun av H' => K (setSlot tm o.dst (dull av)) H'
    | none =>
    match fullOf P (ev G (getT [] tm)) o.op with
    | some (k, ds) => PFnF P G k ds fun l => K (setSlot tm o.dst (.full l)) H
    | none =>
    match heavy P (ev G (getT [] tm)) o.op with
    | some (k, aas) => callW P G k aas H fun av H' => K (setSlot tm o.dst (dull av)) H'
    | none => opW P G o [] True tm H fun av H' => K (setSlot tm o.dst (dull av)) H'
  | some (j, p) =>
    match (ops[j]?).bind (·.dst) with
    | some g =>
      if o.dst = some g then False else
      match chain 9 tm g p with
      | some (tags, C) => opW P G o tags C tm H fun av H' => K (setSlot tm o.dst (.opt g p (dull av))) H'
      | none => False
    | none => False

def opsW (P : Program) (G : Nat → Option (List D)) (ops : Array Oper) : List Oper → List AV → List Box → (List AV → List Box → Prop) → Prop
  | [], tm, H, K => K tm H
  | o :: rest, tm, H, K => stepW P G ops o tm H fun tm' H' => opsW P G ops rest tm' H' K

section
variable {P : Program} {G : Nat → Option (List D)} {nb : Nat} {rd : Option Nat} {c : Cx} {H : List Box} {w : World} {tm : List AV} {a : Act}

theorem slot_bool {g : Nat} {b : Bool} (hR : Rep G nb c H w tm a) (hg : tm.getD g .any = .d (.bool b)) : a.tmps[g]? = some (.bool b) := by
  rw [List.getD_eq_getElem?_getD] at hg
  cases hx : tm[g]? with
  | none => rw [hx] at hg; simp at hg
  | some x =>
    rw [hx] at hg; simp at hg; subst hg
    obtain ⟨v, hv, hs⟩ := hR.tm.get hx
    simp only [SlotR] at hs
    have := hs.bool
    subst this
    simpa using hv

theorem chain_sound (hR : Rep G nb c H w tm a) : ∀ (n g : Nat) (p : Bool) (tags : List (Nat × Bool)) (C : Prop), a.tmps[g]? = some (.bool p) → chain n tm g p = some (tags, C) → C ∧ TagsOk a.tmps tags ∧ tags ≠ []
  | 0, _, _, _, _, _, h => by simp [chain] at h
  | n + 1, g, p, tags, C, hg, h => by
    simp only [chain] at h
    split at h
    · rename_i b hb
      cases h
      have h1 := slot_bool hR hb
      rw [hg] at h1
      simp at h1
      refine ⟨h1.symm, ?_, by simp⟩
      exact TagsOk.cons (fun g p h => by simp [hasTag] at h) hg
    · rename_i g' p' b hb
      cases hc : chain n tm g' p' with
      | none => rw [hc] at h; cases h
      | some q =>
        obtain ⟨tags', C'⟩ := q
        rw [hc] at h
        cases h
        rw [List.getD_eq_getElem?_getD] at hb
        cases hx : tm[g]? with
        | none => rw [hx] at hb; simp at hb
        | some x =>
          rw [hx] at hb; simp at hb; subst hb
          obtain ⟨v, hv, hs⟩ := hR.tm.get hx
          have hv' : v = .bool p := by
            simp only [Array.getElem?_toList] at hv
            rw [hg] at hv; simpa using hv.symm
          simp only [SlotR] at hs
          have hg' : a.tmps[g']? = some (.bool p') := by
            rcases Classical.em (a.tmps[g']? = some (.bool p')) with h1 | h1
            · exact h1
            · have := hs.2 h1
              rw [hv'] at this
              simp [undef] at this
          obtain ⟨h1, h2, h3⟩ := chain_sound hR n g' p' tags' C' hg' hc
          have hbp : b = p := by
            have := (hs.1 hg').bool
            rw [hv'] at this
            simpa using this.symm
          exact ⟨⟨h1, hbp⟩, h2.cons hg, by simp⟩
    · cases h

theorem put_tmps (a : Act) (d : Nat) (v : Value) : (a.put (some d) v).tmps = a.tmps.setIfInBounds d v := rfl

theorem Rep.put {c' : Cx} {H' : List Box} {w' : World} {v : Value} {av : AV} (hR : Rep G nb c H w tm a) (e : Ext c w c' w') (k : Keep c H c' H') (hr : HR c' H' w') (d : Option Nat) (hv : SlotR c' H' w' (a.put d v).tmps av v) : Rep G nb c' H' w' (setSlot tm d av) (a.put d v) := by
  cases d with
  | none => exact ⟨hr, hR.gr.ext e, hR.tm.ext e k, hR.df.ext e⟩
  | some d =>
    refine ⟨hr, hR.gr.ext e, ?_, hR.df.ext e⟩
    have htm := hR.tm.ext e k
    refine ⟨by simp only [put_tmps, setSlot]; simp; have := htm.1; simpa using this, fun t u x hu hx => ?_⟩
    simp only [put_tmps, Array.toList_setIfInBounds] at hu
    simp only [setSlot] at hx
    rw [List.getElem?_set] at hu hx
    by_cases htd : d = t
    · subst htd
      simp only [if_true] at hu hx
      split at hu
      · rename_i h1
        split at hx
        · simp at hu hx; subst hu; subst hx; exact hv
        · simp at hx
      · simp at hu
    · rw [if_neg htd] at hu hx
      simp only [List.getElem?_map] at hx
      cases hy : tm[t]? with
      | none => rw [hy] at hx; simp at hx
      | some y =>
        rw [hy] at hx
        simp at hx
        have hs := htm.2 t u y hu hy
        subst hx
        cases y <;> simp only [kill] <;> first
          | exact hs
          | skip
        rename_i g p z
        split
        · exact RA.any _
        · rename_i hgd
          simp only [SlotR] at hs ⊢
          have : (a.put (some d) v).tmps[g]? = a.tmps[g]? := by
            rw [put_tmps, Array.getElem?_setIfInBounds]
            simp [Ne.symm hgd]
          rw [this]
          exact hs

theorem slot_dull {tmps : Array Value} {av : AV} {v : Value} (h : RA c H w av v) : SlotR c H w tmps (dull av) v := by
  have := h.dull
  cases av <;> exact this

theorem full_sound {o : Oper} {k : Nat} {ds : List D} {K : AV → List Box → Prop} {next : Act → World → Prop} {Q : Exit → Act → World → Prop} (hR : Rep G nb c H w tm a) (hh : fullOf P (ev G (getT [] tm)) o.op = some (k, ds)) (h : PFnF P G k ds fun l => K (.full l) H) (hn : Goes c H w a o K next) : o.wpIn (Fen rd) 0 P a w next Q := by
  have he := ev_sound (tags := []) hR (fun g p h => by simp [hasTag] at h)
  unfold fullOf at hh
  split at hh
  · rename_i f args types hop
    split at hh
    · rename_i k' fi ca hcal
      split at hh
      · split at hh
        · split at hh
          · split at hh
            · split at hh
              · rename_i hok
                simp only [Bool.and_eq_true] at hok
                split at hh
                · rename_i ds' hds
                  cases hh
                  obtain ⟨fv, cv, hfv, hargs⟩ := callee_args (args := args) he hcal
                  have hrv := mapM_avD hds hargs
                  refine wpIn_enter (by rw [hop]; intro d hd; cases hd) (run_call hop hfv hok.2) ?_
                  have hnil : HR { c with ρ := [] } [] w := hR.hr.nil
                  refine (h.run { c with ρ := [] } w _ rfl hnil hR.gr hrv).mono fun en w' hen => ?_
                  obtain ⟨v, l, c', rfl, hk, hρ, hext, hhr, hres⟩ := hen
                  obtain ⟨e2, k2, h2⟩ := back_from hR.hr hext hhr
                  refine ⟨v, rfl, hn v w' _ (.full l) H hk e2 k2 h2 ?_⟩
                  cases hres with
                  | full h => exact .full h
                · cases hh
              · cases hh
            · cases hh
          · cases hh
        · cases hh
      · cases hh
    · cases hh
  · cases hh

theorem stepW_op {ops : Array Oper} {o : Oper} {i : Nat} {next : Act → World → Prop} {K : List AV → List Box → Prop} {Q : Exit → Act → World → Prop} (ho : ops[i]? = some o) (hR : Rep G nb c H w tm a) (h : stepW P G ops o tm H K)
    (hn : ∀ a' w' c' tm' H', K tm' H' → Rep G nb c' H' w' tm' a' → Ext c w c' w' → Keep c H c' H' → next a' w') : wpOpIn (Fen rd) 0 P ops Q i next a w := by
  simp only [wpOpIn, ho]
  unfold stepW at h
  split at h
  · rename_i hg
    have hw : Region.wanted o (yielded ops a.tmps) = true := by simp [Region.wanted, hg]
    rw [if_pos hw]
    split at h
    · rename_i l aas hh
      refine yield_sound hR hh h ?_
      intro v w' c' av H' hk e k hr hra
      exact hn _ w' c' _ H' hk (hR.put e k hr o.dst (slot_dull hra)) e k
    split at h
    · rename_i k ds hh
      refine full_sound (K := fun av H' => K (setSlot tm o.dst (dull av)) H') hR hh h ?_
      intro v w' c' av H' hk e k hr hra
      exact hn _ w' c' _ H' hk (hR.put e k hr o.dst (slot_dull hra)) e k
    split at h
    · rename_i k aas hh
      refine heavy_sound hR hh h ?_
      intro v w' c' av H' hk e k hr hra
      exact hn _ w' c' _ H' hk (hR.put e k hr o.dst (slot_dull hra)) e k
    · refine opW_sound hR (fun g p h => by simp [hasTag] at h) trivial h ?_
      intro v w' c' av H' hk e k hr hra
      exact hn _ w' c' _ H' hk (hR.put e k hr o.dst (slot_dull hra)) e k
  · rename_i j p hg
    split at h
    · rename_i g hgd
      split at h
      · exact h.elim
      · rename_i hne
        split at h
        · rename_i tags C hch
          have hyield : yielded ops a.tmps j = match a.tmps[g]? with | some (.bool b) => some b | _ => none := by
            unfold yielded
            rw [hgd]
            rfl
          have hgp : ∀ v, (a.put o.dst v).tmps[g]? = a.tmps[g]? := by
            intro v
            cases hd : o.dst with
            | none => rfl
            | some d =>
              rw [put_tmps, Array.getElem?_setIfInBounds]
              have : d ≠ g := fun e => hne (by rw [hd, e])
              simp [this]
          by_cases hw : Region.wanted o (yielded ops a.tmps) = true
          · rw [if_pos hw]
            have hgt : a.tmps[g]? = some (.bool p) := by
              simp only [Region.wanted, hg, hyield] at hw
              split at hw
              · rename_i b hb; simp at hw; subst hw; exact hb
              · simp at hw
            obtain ⟨hC, htags, _⟩ := chain_sound hR 9 g p tags C hgt hch
            refine opW_sound hR htags hC h ?_
            intro v w' c' av H' hk e k hr hra
            refine hn _ w' c' _ H' hk (hR.put e k hr o.dst ?_) e k
            refine ⟨fun _ => hra.dull, fun hno => ?_⟩
            rw [hgp] at hno
            exact absurd hgt hno
          · rw [if_neg hw]
            refine ⟨fun _ _ => trivial, ?_⟩
            have hne' : tags ≠ [] := by
              intro h0
              subst h0
              revert hch
              generalize tm = tm'
              intro hch
              simp only [chain] at hch
              split at hch
              · cases hch
              · split at hch
                · cases hch
                · cases hch
              · cases hch
            obtain ⟨av, hk⟩ := opW_some h hne'
            refine hn _ w c _ H hk (hR.put (Ext.refl _ _) (Keep.refl _ _) hR.hr o.dst ?_) (Ext.refl _ _) (Keep.refl _ _)
            refine ⟨fun hyes => ?_, fun _ => rfl⟩
            rw [hgp] at hyes
            exact absurd (by simp [Region.wanted, hg, hyield, hyes]) hw
        · exact h.elim
    · exact h.elim

theorem stepW_sound {ops : Array Oper} {o : Oper} {i : Nat} {rest : List Nat} {K : List AV → List Box → Prop} {Q : Exit → Act → World → Prop} (ho : ops[i]? = some o) (hR : Rep G nb c H w tm a) (h : stepW P G ops o tm H K)
    (hn : ∀ a' w' c' tm' H', K tm' H' → Rep G nb c' H' w' tm' a' → Ext c w c' w' → Keep c H c' H' → wpOpsIn (Fen rd) 0 P ops Q rest a' w') : wpOpsIn (Fen rd) 0 P ops Q (i :: rest) a w := by
  rw [wpOpsIn_cons]
  exact stepW_op ho hR h hn

theorem opsW_sound {ops : Array Oper} {K : List AV → List Box → Prop} {Q : Exit → Act → World → Prop} : ∀ (l : List Oper) (i : Nat) (c : Cx) (H : List Box) (w : World) (tm : List AV) (a : Act), ops.toList.drop i = l → Rep G nb c H w tm a → opsW P G ops l tm H K →
    (∀ a' w' c' tm' H', K tm' H' → Rep G nb c' H' w' tm' a' → Ext c w c' w' → Keep c H c' H' → Q .normal a' w') → wpOpsIn (Fen rd) 0 P ops Q (List.range' i l.length) a w
  | [], i, c, H, w, tm, a, _, hR, h, hq => hq a w c tm H h hR (Ext.refl _ _) (Keep.refl _ _)
  | o :: l, i, c, H, w, tm, a, hl, hR, h, hq => by
    have ho : ops[i]? = some o := by
      have := congrArg (fun x => x[0]?) hl
      simpa using this
    have hl' : ops.toList.drop (i + 1) = l := by
      have := congrArg List.tail hl
      simpa using this
    rw [List.length_cons, List.range'_succ]
    refine stepW_sound ho hR h ?_
    intro a' w' c' tm' H' hk hR' e k
    exact opsW_sound l (i + 1) c' H' w' tm' a' hl' hR' hk fun a2 w2 c2 tm2 H2 hk2 hR2 e2 k2 => hq a2 w2 c2 tm2 H2 hk2 hR2 (e.trans e2) (k.trans k2)

theorem Rep.clear (hR : Rep G nb c H w tm a) : Rep G nb c H w (clearOpt tm) a := by
  refine ⟨hR.hr, hR.gr, ⟨by simp [clearOpt]; have := hR.tm.1; simpa using this, fun t v x hv hx => ?_⟩, hR.df⟩
  simp only [clearOpt, List.getElem?_map] at hx
  cases hy : tm[t]? with
  | none => rw [hy] at hx; simp at hx
  | some y =>
    rw [hy] at hx; simp at hx; subst hx
    have hs := hR.tm.2 t v y hv hy
    cases y <;> first
      | exact hs
      | exact RA.any _
end
end Go.Sx
