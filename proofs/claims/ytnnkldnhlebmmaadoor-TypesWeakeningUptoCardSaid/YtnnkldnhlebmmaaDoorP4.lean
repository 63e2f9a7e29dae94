/- Joined texts: the walk by computed conditions, the contracts of the functions, the plain laws. -/
import Derived.Test.YtnnkldnhlebmmaaDoorP3
import Derived.Test.YtnnkldnhlebmmaaDoorRows
import Derived.ChangeArms
import Derived.Deep.Slices
import Derived.WideKeyElems2
import Derived.WideKeyArgs2
import Derived.MakeChecks
import Derived.FnData
import Derived.OpenShut
import Derived.Carry
import Derived.WideShapes
import Derived.RowKit
import Derived.LaidMore
import Derived.Deep.DeepHandedRow
import Derived.Deep.DeepWitnessRowRef
import Derived.Test.YtnnkldnhlebmmaaDoorCards
import Derived.Test.YtnnkldnhlebmmaaDoorTie
import Derived.ProofKit
import Derived.Test.YtnnkldnhlebmmaaDoorP2
import Derived.ChangeMaps5
set_option linter.unusedVariables false
set_option linter.unusedSimpArgs false
/- From the reading of the claim's form to the data of the walk. -/
namespace Go.Fo
open Go Go.Sx Go.Proofs
open Go.Proofs.YtnnkldnhlebmmaaDoor (Rows.uptoBulk Rows.uptoBulkAll)
set_option maxRecDepth 100000

def cW (W : World) : Cx := ⟨[], fun b o => ∃ v, W.cell? ⟨b, o, none⟩ = some v, fun r => ∃ es clk, W.heap[r]? = some (.map es clk)⟩

theorem hrW (W : World) : HR (cW W) [] W where
  len := rfl
  inj l l' b k k' h := by simp [cW] at h
  box l b k x h := by simp [cW] at h
  non l x h := by simp [cW] at h
  lt l b k h := by simp [cW] at h
  ilt b o h := by
    obtain ⟨v, hv⟩ := h
    unfold World.cell? at hv
    cases hb : W.heap[b]? with
    | none => simp [hb] at hv
    | some x => exact heap_lt hb
  jlt r h := by obtain ⟨es, clk, h⟩ := h; exact heap_lt h
  iap b o l k hi h := by simp [cW] at h
  jap r l k hr h := by simp [cW] at h

theorem list_choice {α : Type} {Q : Nat → α → Prop} : ∀ n, (∀ i, i < n → ∃ a, Q i a) → ∃ zs : List α, zs.length = n ∧ ∀ (i : Nat) a, zs[i]? = some a → Q i a
  | 0, _ => ⟨[], rfl, fun i a h => by simp at h⟩
  | n + 1, h => by
    obtain ⟨zs, h1, h2⟩ := list_choice n fun i hi => h i (by omega)
    obtain ⟨a, ha⟩ := h n (by omega)
    refine ⟨zs ++ [a], by simp [h1], fun i b hb => ?_⟩
    rcases get_snoc_cases hb with hb | ⟨rfl, rfl⟩
    · exact h2 i b hb
    · rw [h1]; exact ha

theorem sum_bulk {H α : Type} {wt : α → Nat} : ∀ {zs : List α} {es : List (DataW H × List MemPlace)}, zs.length = es.length → (∀ (i : Nat) a y, zs[i]? = some a → es[i]? = some y → wt a ≤ Rows.uptoBulk y.1) → (zs.map wt).sum ≤ Rows.uptoBulkAll (es.map (·.1))
  | [], [], _, _ => by simp
  | a :: zs, y :: es, hl, h => by
    have := sum_bulk (zs := zs) (es := es) (by simpa using hl) fun i b z hb hz => h (i + 1) b z (by simpa using hb) (by simpa using hz)
    have := h 0 a y rfl rfl
    simp only [List.map_cons, List.sum_cons, Rows.uptoBulkAll]; omega
  | [], _ :: _, hl, _ => by simp at hl
  | _ :: _, [], hl, _ => by simp at hl

section
variable {H : Type} {enc : TypeId × Value → H} {P : Program} {W : World} {held : Bool}

/-- A slice of elements that read. -/
theorem trodSlice {α : Type} (toD : α → D) (wt : α → Nat) {sz : Nat} (hs0 : 0 < sz) (hsz : ∀ a, (toD a).cells.length = sz) {t e : TypeId} {fuel : Nat} {cs : List Value} {x : DataW H × List MemPlace} (ht : P.underlying t = some (.slice e)) (hc : P.cellsOf e = sz)
    (helem : ∀ n cs' y, fuel = n + 1 → DataW.trod enc P W 0 (fun _ => true) held n e cs' = some y → ∃ a : α, All2 (R1 (cW W).I (cW W).J W) cs' (toD a).cells ∧ wt a ≤ Rows.uptoBulk y.1)
    (h : DataW.trod enc P W 0 (fun _ => true) held fuel t cs = some x) :
    ∃ (zs : List α) (v : Value), cs = [v] ∧ R1 (cW W).I (cW W).J W v (.sl (zs.map toD)) ∧ (zs.map wt).sum + 1 ≤ Rows.uptoBulk x.1 := by
  rcases DataW.trod_slice ht h with ⟨rfl, rfl⟩ | ⟨a, len, cap, elems, rest, n, hf, rfl, rfl, hb, hl, hm, hlen, hel, hsp, hns⟩
  · exact ⟨[], _, rfl, R1.nil, by simp [Rows.uptoBulk]⟩
  have hex : ∀ i, i < len → ∃ b : α, ∃ cs' y, W.cells? 0 (a.add (i * sz)) sz = some cs' ∧ elems[i]? = some y ∧ All2 (R1 (cW W).I (cW W).J W) cs' (toD b).cells ∧ wt b ≤ Rows.uptoBulk y.1 := by
    intro i hi
    have h1 := hel i hi
    rw [List.getElem?_eq_getElem (by omega : i < elems.length), hc] at h1
    obtain ⟨cs', h2, h3⟩ := Option.bind_eq_some_iff.1 h1
    obtain ⟨b, h4, h5⟩ := helem n cs' _ hf h3
    exact ⟨b, cs', _, h2, by simp [hlen, hi], h4, h5⟩
  obtain ⟨zs, has, hQ⟩ := list_choice len hex
  have hsum : (zs.map wt).sum ≤ Rows.uptoBulkAll (elems.map (·.1)) := sum_bulk (by rw [has, hlen]) fun i b y hb hy => by
    obtain ⟨cs', y', _, h2, _, h4⟩ := hQ i b hb
    rw [hy] at h2; cases h2; exact h4
  refine ⟨zs, _, rfl, ?_, by simp only [Rows.uptoBulk]; omega⟩
  rcases Nat.eq_zero_or_pos len with h0 | h0
  · have : zs = [] := List.eq_nil_of_length_eq_zero (by omega)
    subst this
    subst h0
    exact R1.emp a cap
  · have hspot : a = ⟨a.block, a.off, none⟩ := by
      have hlt : 0 < zs.length := by omega
      obtain ⟨cs', y, h1, _, h3, _⟩ := hQ 0 zs[0] (by simp [hlt])
      obtain ⟨_, h5, h6⟩ := World.cells?_some h1
      have h7 := h6 0 hs0
      have h8 : (a.add (0 * sz)).add 0 = a := by simp [Addr.add]
      rw [h8] at h7
      have h9 : 0 < cs'.length := by omega
      rw [List.getElem?_eq_getElem h9] at h7
      unfold World.cell? at h7
      split at h7
      · split at h7
        · cases h7
        · rename_i hs
          obtain ⟨b, o, s⟩ := a
          cases s with
          | none => rfl
          | some q => simp at hs
      · cases h7
    rw [hspot]
    have key : ∀ i j d, cellAt (zs.map toD) i j = some d → ∃ v, W.cell? ⟨a.block, a.off + i * sz + j, none⟩ = some v ∧ R1 (cW W).I (cW W).J W v d := by
      intro i j d hd
      unfold cellAt at hd
      obtain ⟨x, hx, hj⟩ := Option.bind_eq_some_iff.1 hd
      rw [List.getElem?_map] at hx
      obtain ⟨b, hb', rfl⟩ := Option.map_eq_some_iff.1 hx
      obtain ⟨cs', y, h1, _, h3, _⟩ := hQ i b hb'
      obtain ⟨_, h5, h6⟩ := World.cells?_some h1
      obtain ⟨v, hv, hr⟩ := h3.get hj
      have hjl : j < sz := by
        have := hsz b
        rcases Nat.lt_or_ge j (toD b).cells.length with h' | h'
        · omega
        · rw [List.getElem?_eq_none h'] at hj; cases hj
      have h7 := h6 j hjl
      rw [hv, Deep.add_add] at h7
      have h8 : a.add (i * sz + j) = ⟨a.block, a.off + i * sz + j, none⟩ := by
        have h9 := add_none a.block a.off (i * sz + j)
        rw [← hspot] at h9
        rw [h9, Nat.add_assoc]
      rw [h8] at h7
      exact ⟨v, h7, hr⟩
    have e1 : len = (zs.map toD).length := by simp [has]
    rw [e1]
    refine R1.sl a.block a.off cap sz (zs.map toD) (fun i j => (W.cell? ⟨a.block, a.off + i * sz + j, none⟩).getD undef) ?_ ?_ ?_ (by simp [has]; omega)
    · intro d hd
      obtain ⟨b, _, rfl⟩ := List.mem_map.1 hd
      exact hsz b
    · intro i j d hd
      obtain ⟨v, hv, _⟩ := key i j d hd
      exact ⟨⟨v, hv⟩, by simp [hv]⟩
    · intro i j d hd
      obtain ⟨v, hv, hr⟩ := key i j d hd
      simp only [hv, Option.getD_some]
      exact hr

theorem byte_str (s : ByteArray) : Value.string s = .string ⟨s.data.toList.toArray⟩ := by cases s; simp

/-- A term that reads. -/
theorem trodTm {fuel : Nat} {cs : List Value} {x : DataW H × List MemPlace} (h : DataW.trod enc Tryd.prog W 0 (fun _ => true) held fuel 24 cs = some x) :
    ∃ t : Tm, All2 (R1 (cW W).I (cW W).J W) cs t.d.cells ∧ t.name.length + 1 ≤ Rows.uptoBulk x.1 := by
  obtain ⟨xs, n, rfl, rfl, hl, hx, hf⟩ := DataW.trod_struct Tryd.underlying24 h
  have hc : Tryd.prog.cellsOf 24 = 3 := by kernel_rfl
  have hc3 : Tryd.prog.cellsOf 3 = 1 := by kernel_rfl
  have hc9 : Tryd.prog.cellsOf 9 = 1 := by kernel_rfl
  rw [hc] at hl
  match cs, hl with
  | [v0, v1, v2], _ =>
  match xs, hx with
  | [x0, x1, x2], _ =>
  have h0 : DataW.trod enc Tryd.prog W 0 (fun _ => true) held n 3 (List.take (Tryd.prog.cellsOf 3) [v0, v1, v2]) = some x0 := hf 0 _ rfl
  have h1 : DataW.trod enc Tryd.prog W 0 (fun _ => true) held n 9 (List.take (Tryd.prog.cellsOf 9) [v1, v2]) = some x1 := hf 1 _ rfl
  have h2 : DataW.trod enc Tryd.prog W 0 (fun _ => true) held n 3 (List.take (Tryd.prog.cellsOf 3) [v2]) = some x2 := hf 2 _ rfl
  simp only [hc3, hc9, List.take_succ_cons, List.take_zero] at h0 h1 h2
  obtain ⟨a, e0, f0, _⟩ := DataW.trod_int (k := .i64) Tryd.underlying3 h0
  obtain ⟨b, e1, f1, _⟩ := DataW.trod_string Tryd.underlying9 h1
  obtain ⟨c, e2, f2, _⟩ := DataW.trod_int (k := .i64) Tryd.underlying3 h2
  simp only [List.cons.injEq, and_true] at e0 e1 e2
  subst e0 e1 e2 f0 f1 f2
  refine ⟨⟨a, b.data.toList, c⟩, ?_, ?_⟩
  · rw [byte_str]
    exact All2.cons (.int _ _) (All2.cons (.str _) (All2.cons (.int _ _) All2.nil))
  · simp [Rows.uptoBulk, Rows.uptoBulkAll]; omega

theorem trodBd {fuel : Nat} {cs : List Value} {x : DataW H × List MemPlace} (h : DataW.trod enc Tryd.prog W 0 (fun _ => true) held fuel 43 cs = some x) :
    ∃ t : Bd, All2 (R1 (cW W).I (cW W).J W) cs t.d.cells ∧ t.name.length + 1 ≤ Rows.uptoBulk x.1 := by
  obtain ⟨xs, n, rfl, rfl, hl, hx, hf⟩ := DataW.trod_struct Tryd.underlying43 h
  have hc : Tryd.prog.cellsOf 43 = 2 := by kernel_rfl
  have hc3 : Tryd.prog.cellsOf 3 = 1 := by kernel_rfl
  have hc9 : Tryd.prog.cellsOf 9 = 1 := by kernel_rfl
  rw [hc] at hl
  match cs, hl with
  | [v0, v1], _ =>
  match xs, hx with
  | [x0, x1], _ =>
  have h0 : DataW.trod enc Tryd.prog W 0 (fun _ => true) held n 9 (List.take (Tryd.prog.cellsOf 9) [v0, v1]) = some x0 := hf 0 _ rfl
  have h1 : DataW.trod enc Tryd.prog W 0 (fun _ => true) held n 3 (List.take (Tryd.prog.cellsOf 3) [v1]) = some x1 := hf 1 _ rfl
  simp only [hc3, hc9, List.take_succ_cons, List.take_zero] at h0 h1
  obtain ⟨b, e1, f1, _⟩ := DataW.trod_string Tryd.underlying9 h0
  obtain ⟨c, e2, f2, _⟩ := DataW.trod_int (k := .i64) Tryd.underlying3 h1
  simp only [List.cons.injEq, and_true] at e1 e2
  subst e1 e2 f1 f2
  refine ⟨⟨b.data.toList, c⟩, ?_, ?_⟩
  · rw [byte_str]
    exact All2.cons (.str _) (All2.cons (.int _ _) All2.nil)
  · simp [Rows.uptoBulk, Rows.uptoBulkAll]

theorem sumT_eq (ts : List Tm) : (ts.map fun t => t.name.length + 1).sum = sumT ts + ts.length := by
  unfold sumT
  induction ts with
  | nil => rfl
  | cons t r ih => simp only [List.map_cons, List.sum_cons, List.length_cons, ih]; omega
theorem sumB_eq (ts : List Bd) : (ts.map fun t => t.name.length + 1).sum = sumB ts + ts.length := by
  unfold sumB
  induction ts with
  | nil => rfl
  | cons t r ih => simp only [List.map_cons, List.sum_cons, List.length_cons, ih]; omega
theorem wts_eq (l : List Fm) : (l.map Fm.wt).sum = Fm.wts l := by
  induction l with
  | nil => rfl
  | cons t r ih => simp only [List.map_cons, List.sum_cons, Fm.wts, ih]

/-- A formula that reads. -/
theorem trodFm : ∀ (fuel : Nat) (cs : List Value) (x : DataW H × List MemPlace), DataW.trod enc Tryd.prog W 0 (fun _ => true) held fuel 33 cs = some x →
    ∃ f : Fm, All2 (R1 (cW W).I (cW W).J W) cs f.d.cells ∧ f.wt ≤ Rows.uptoBulk x.1 := by
  intro fuel
  induction fuel using Nat.strongRecOn with
  | _ fuel ih =>
  intro cs x h
  obtain ⟨xs, n, rfl, rfl, hl, hx, hf⟩ := DataW.trod_struct Tryd.underlying33 h
  have hc : Tryd.prog.cellsOf 33 = 6 := by kernel_rfl
  have hc3 : Tryd.prog.cellsOf 3 = 1 := by kernel_rfl
  have hc9 : Tryd.prog.cellsOf 9 = 1 := by kernel_rfl
  have hc22 : Tryd.prog.cellsOf 30 = 1 := by kernel_rfl
  have hc23 : Tryd.prog.cellsOf 22 = 1 := by kernel_rfl
  have hc24 : Tryd.prog.cellsOf 31 = 1 := by kernel_rfl
  have hc43 : Tryd.prog.cellsOf 24 = 3 := by kernel_rfl
  have hc40 : Tryd.prog.cellsOf 43 = 2 := by kernel_rfl
  rw [hc] at hl
  match cs, hl with
  | [v0, v1, v2, v3, v4, v5], _ =>
  match xs, hx with
  | [x0, x1, x2, x3, x4, x5], _ =>
  have h0 : DataW.trod enc Tryd.prog W 0 (fun _ => true) held n 3 (List.take (Tryd.prog.cellsOf 3) [v0, v1, v2, v3, v4, v5]) = some x0 := hf 0 _ rfl
  have h1 : DataW.trod enc Tryd.prog W 0 (fun _ => true) held n 9 (List.take (Tryd.prog.cellsOf 9) [v1, v2, v3, v4, v5]) = some x1 := hf 1 _ rfl
  have h2 : DataW.trod enc Tryd.prog W 0 (fun _ => true) held n 3 (List.take (Tryd.prog.cellsOf 3) [v2, v3, v4, v5]) = some x2 := hf 2 _ rfl
  have h3 : DataW.trod enc Tryd.prog W 0 (fun _ => true) held n 30 (List.take (Tryd.prog.cellsOf 30) [v3, v4, v5]) = some x3 := hf 3 _ rfl
  have h4 : DataW.trod enc Tryd.prog W 0 (fun _ => true) held n 22 (List.take (Tryd.prog.cellsOf 22) [v4, v5]) = some x4 := hf 4 _ rfl
  have h5 : DataW.trod enc Tryd.prog W 0 (fun _ => true) held n 31 (List.take (Tryd.prog.cellsOf 31) [v5]) = some x5 := hf 5 _ rfl
  simp only [hc3, hc9, hc22, hc23, hc24, List.take_succ_cons, List.take_zero] at h0 h1 h2 h3 h4 h5
  obtain ⟨a, e0, f0, _⟩ := DataW.trod_int (k := .i64) Tryd.underlying3 h0
  obtain ⟨b, e1, f1, _⟩ := DataW.trod_string Tryd.underlying9 h1
  obtain ⟨c, e2, f2, _⟩ := DataW.trod_int (k := .i64) Tryd.underlying3 h2
  obtain ⟨ts, w3, e3, r3, b3⟩ := trodSlice Tm.d (fun t => t.name.length + 1) (by decide) (fun _ => rfl) Tryd.underlying30 hc43 (fun _ _ _ _ h => trodTm h) h3
  obtain ⟨bs, w4, e4, r4, b4⟩ := trodSlice Bd.d (fun t => t.name.length + 1) (by decide) (fun _ => rfl) Tryd.underlying22 hc40 (fun _ _ _ _ h => trodBd h) h4
  obtain ⟨l, w5, e5, r5, b5⟩ := trodSlice Fm.d Fm.wt (by decide : 0 < 6) (fun f => by rw [f.d_eq]; rfl) Tryd.underlying31 hc (fun m cs' y hm h => ih m (by omega) cs' y h) h5
  simp only [List.cons.injEq, and_true] at e0 e1 e2 e3 e4 e5
  subst e0 e1 e2 e3 e4 e5 f0 f1 f2
  refine ⟨.mk a b.data.toList c ts bs l, ?_, ?_⟩
  · rw [byte_str, Fm.d_mk]
    exact All2.cons (.int _ _) (All2.cons (.str _) (All2.cons (.int _ _) (All2.cons r3 (All2.cons r4 (All2.cons r5 All2.nil)))))
  · rw [sumT_eq] at b3
    rw [sumB_eq] at b4
    rw [wts_eq] at b5
    rw [Fm.wt_eq]
    simp only [Fm.name, Fm.ts, Fm.bs, Fm.l, List.map_cons, List.map_nil, Rows.uptoBulk, Rows.uptoBulkAll]
    omega
end
end Go.Fo
/- The package's maps, out of what the row lists. -/
namespace Go.Fo
open Go Go.Sx Go.Proofs
open Go.WideElems
open Go.ChangeMaps (mem_insert_iff)
set_option maxRecDepth 100000

def litD : Lit → D
  | .int k n => .int k n
  | .string s => .str s
  | .bool b => .bool b
  | _ => .bool false
def litOf {H : Type} : DataW H → Lit
  | .lit l => l
  | _ => .bool false
def conv {H : Type} (p : Lit × DataW H) : D × D := (litD p.1, litD (litOf p.2))

theorem mem_foldr {H : Type} {y : Lit × DataW H} : ∀ {l : List (Lit × DataW H)}, y ∈ l.foldr DataW.insert [] ↔ y ∈ l
  | [] => by simp
  | a :: l => by rw [List.foldr_cons, mem_insert_iff, mem_foldr]; simp

section
variable {H : Type} {enc : TypeId × Value → H} {P : Program} {W : World} {held : Bool}

theorem trodMap {t k e : TypeId} (ht : P.underlying t = some (.map k e)) (hkey : ∀ v l, keyOf P k v = some l → R1 (cW W).I (cW W).J W v (litD l))
    (hel : ∀ n v y, elemAt enc P W 0 (fun _ => true) held n e v = some y → R1 (cW W).I (cW W).J W v (litD (litOf y.1)))
    {fuel : Nat} {cs : List Value} {L : List (Lit × DataW H)} {p : List MemPlace} (h : DataW.trod enc P W 0 (fun _ => true) held fuel t cs = some (.map L, p)) :
    ∃ (es : List (D × D)) (v : Value), cs = [v] ∧ R1 (cW W).I (cW W).J W v (.gmap es) ∧ ∀ kv, kv ∈ es ↔ kv ∈ L.map conv := by
  rcases open_map ht h with ⟨_, hx⟩ | ⟨b, ents, clk, n, _, rfl, hb, _, F, hx⟩
  · cases hx
  simp only [Prod.mk.injEq, DataW.map.injEq] at hx
  refine ⟨ents.toList.map fun x => conv (rg P k (elemAt enc P W 0 (fun _ => true) held n e) x), _, rfl, ?_, fun kv => ?_⟩
  · have key : ∀ (i : Nat) kv, (ents.toList.map fun x => conv (rg P k (elemAt enc P W 0 (fun _ => true) held n e) x))[i]? = some kv → R1 (cW W).I (cW W).J W (ents.getD i default).key kv.1 ∧ R1 (cW W).I (cW W).J W (ents.getD i default).val kv.2 := by
      intro i kv hi
      rw [List.getElem?_map, Option.map_eq_some_iff] at hi
      obtain ⟨x, hx1, rfl⟩ := hi
      have hg : ents.getD i default = x := by
        rw [Array.getElem?_toList] at hx1
        simp [Array.getD_eq_getD_getElem?, hx1]
      obtain ⟨y, hy⟩ := F.reads x (List.mem_of_getElem? hx1)
      rw [hg, rg_of hy]
      obtain ⟨z, hz, hz2⟩ := rd_val hy
      refine ⟨hkey _ _ (rd_key hy), ?_⟩
      show R1 _ _ W x.val (litD (litOf y.2))
      rw [hz2]
      exact hel n _ _ hz
    exact .gmap b ents clk _ ⟨ents, clk, hb⟩ hb (by simp) (fun i kv h => (key i kv h).1) (fun i kv h => (key i kv h).2)
  · rw [hx.1]
    simp only [List.mem_map, mem_foldr]
    constructor
    · rintro ⟨x, hx, rfl⟩; exact ⟨_, ⟨x, hx, rfl⟩, rfl⟩
    · rintro ⟨_, ⟨x, hx, rfl⟩, rfl⟩; exact ⟨x, hx, rfl⟩

theorem key_int {k : TypeId} {q : IntKind} (hk : P.underlying k = some (.int q)) (v : Value) (l : Lit) (h : keyOf P k v = some l) : R1 (cW W).I (cW W).J W v (litD l) := by
  rw [keyOf_int hk] at h
  unfold mapKey at h
  rw [hk] at h
  split at h <;> simp_all
  obtain ⟨⟨rfl, _⟩, rfl⟩ := h
  exact .int _ _
theorem key_str {k : TypeId} (hk : P.underlying k = some .string) (v : Value) (l : Lit) (h : keyOf P k v = some l) : R1 (cW W).I (cW W).J W v (litD l) := by
  rw [keyOf_string hk] at h
  unfold mapKey at h
  rw [hk] at h
  split at h <;> simp_all
  obtain ⟨_, rfl⟩ := h
  rw [byte_str]
  exact .str _
theorem el_int {e : TypeId} {q : IntKind} (he : P.underlying e = some (.int q)) (n : Nat) (v : Value) (y : DataW H × List MemPlace) (h : elemAt enc P W 0 (fun _ => true) held n e v = some y) : R1 (cW W).I (cW W).J W v (litD (litOf y.1)) := by
  obtain ⟨a, rfl, rfl, _⟩ := elemAt_int he h
  exact .int _ _
theorem el_bool {e : TypeId} (he : P.underlying e = some .bool) (n : Nat) (v : Value) (y : DataW H × List MemPlace) (h : elemAt enc P W 0 (fun _ => true) held n e v = some y) : R1 (cW W).I (cW W).J W v (litD (litOf y.1)) := by
  obtain ⟨a, rfl, rfl⟩ := elemAt_bool he h
  exact .bool _
theorem el_str {e : TypeId} (he : P.underlying e = some .string) (n : Nat) (v : Value) (y : DataW H × List MemPlace) (h : elemAt enc P W 0 (fun _ => true) held n e v = some y) : R1 (cW W).I (cW W).J W v (litD (litOf y.1)) := by
  unfold elemAt at h
  split at h
  · rename_i hf
    obtain ⟨s, hc, hz, _⟩ := DataW.trod_string he h
    cases v <;> simp [Value.formed, he, Value.cells] at hf hc
    subst hc
    rw [hz, byte_str]
    exact .str _
  · cases h

/-- One listed variable. -/
theorem laid_mem {laid : List (String × DataW Unit)} : ∀ {ps : List MemPlace}, DataW.LaidVars P W laid ps → ∀ {n d}, (n, d) ∈ laid →
    ∃ g t cs fuel p, P.globalNamed n = some g ∧ (P.globals[g]?).map (·.type) = some t ∧ W.var? P n = some cs ∧ DataW.trod (fun _ => ()) P W 0 (fun _ => true) false fuel t cs.toList = some (d, p) := by
  induction laid with
  | nil => intro ps _ n d h; cases h
  | cons x r ih =>
    obtain ⟨n0, d0⟩ := x
    rintro ps ⟨g, t, cs, fuel, p, q, h1, h2, h3, h4, h5, _⟩ n d hm
    rcases List.mem_cons.1 hm with h | h
    · cases h; exact ⟨g, t, cs, fuel, p, h1, h2, h3, h4⟩
    · exact ih h5 h
end

/-- The same entries give the same answers. -/
theorem lookD_same {es L : List (D × D)} (k : D) (h : ∀ kv, kv ∈ es ↔ kv ∈ L) (hb : ∀ kv ∈ L, ∀ kv' ∈ L, beqD k kv.1 = true → beqD k kv'.1 = true → kv = kv') : lookD es k = lookD L k := by
  unfold lookD
  cases h1 : es.find? fun kv => beqD k kv.1 with
  | none =>
    rw [List.find?_eq_none] at h1
    have : L.find? (fun kv => beqD k kv.1) = none := by
      rw [List.find?_eq_none]
      exact fun x hx => h1 x ((h x).2 hx)
    rw [this]
  | some kv =>
    have hm := List.mem_of_find?_eq_some h1
    have hp := List.find?_some h1
    cases h2 : L.find? fun kv => beqD k kv.1 with
    | none =>
      rw [List.find?_eq_none] at h2
      exact absurd hp (h2 kv ((h kv).1 hm))
    | some kv' =>
      have hp' := List.find?_some h2
      rw [hb kv ((h kv).1 hm) kv' (List.mem_of_find?_eq_some h2) hp hp']

theorem beq_int {a : Int} {p : D × D} (k : Int) (h1 : p.1 = .int .i64 a) : beqD (.int .i64 k) p.1 = true ↔ k = a := by rw [h1]; simp [beqD]

theorem lookI (L : List (Int × Int)) (hL : (L.map Prod.fst).Nodup) {es : List (D × D)} (h : ∀ kv, kv ∈ es ↔ kv ∈ L.map fun p => (D.int .i64 p.1, D.int .i64 p.2)) (k : Int) : lookD es (.int .i64 k) = (L.lookup k).map (.int .i64) := by
  rw [lookD_same _ h ?_]
  · clear h hL
    induction L with
    | nil => rfl
    | cons p r ih =>
      obtain ⟨a, b⟩ := p
      unfold lookD at ih ⊢
      rw [List.map_cons, List.find?_cons, List.lookup_cons]
      simp only [beqD]
      cases hk : k == a with
      | true => rfl
      | false => exact ih
  · intro kv h1 kv' h2 e1 e2
    obtain ⟨p, hp, rfl⟩ := List.mem_map.1 h1
    obtain ⟨q, hq, rfl⟩ := List.mem_map.1 h2
    simp only [beqD, beq_iff_eq] at e1 e2
    have : p = q := inj_fst hL hp hq (e1.symm.trans e2)
    rw [this]
 where
  inj_fst {α β : Type} : ∀ {L : List (α × β)}, (L.map Prod.fst).Nodup → ∀ {p q}, p ∈ L → q ∈ L → p.1 = q.1 → p = q
    | [], _, _, _, h, _, _ => by cases h
    | a :: L, hn, p, q, hp, hq, he => by
      rw [List.map_cons, List.nodup_cons] at hn
      rcases List.mem_cons.1 hp with rfl | hp' <;> rcases List.mem_cons.1 hq with rfl | hq'
      · rfl
      · exact absurd (he ▸ List.mem_map_of_mem hq') hn.1
      · exact absurd (he ▸ List.mem_map_of_mem hp') hn.1
      · exact inj_fst hn.2 hp' hq' he

theorem lookS (L : List (List UInt8 × List UInt8)) (hL : (L.map Prod.fst).Nodup) {es : List (D × D)} (h : ∀ kv, kv ∈ es ↔ kv ∈ L.map fun p => (D.str p.1, D.str p.2)) (k : List UInt8) : lookD es (.str k) = (L.lookup k).map .str := by
  rw [lookD_same _ h ?_]
  · clear h hL
    induction L with
    | nil => rfl
    | cons p r ih =>
      obtain ⟨a, b⟩ := p
      unfold lookD at ih ⊢
      rw [List.map_cons, List.find?_cons, List.lookup_cons]
      simp only [beqD]
      cases hk : k == a with
      | true => rfl
      | false => exact ih
  · intro kv h1 kv' h2 e1 e2
    obtain ⟨p, hp, rfl⟩ := List.mem_map.1 h1
    obtain ⟨q, hq, rfl⟩ := List.mem_map.1 h2
    simp only [beqD, beq_iff_eq] at e1 e2
    have : p = q := lookI.inj_fst hL hp hq (e1.symm.trans e2)
    rw [this]

theorem lookB (L : List (List UInt8)) {es : List (D × D)} (h : ∀ kv, kv ∈ es ↔ kv ∈ L.map fun p => (D.str p, D.bool true)) (k : List UInt8) : lookD es (.str k) = if L.contains k then some (.bool true) else none := by
  rw [lookD_same _ h ?_]
  · clear h
    induction L with
    | nil => rfl
    | cons a r ih =>
      unfold lookD at ih ⊢
      rw [List.map_cons, List.find?_cons, List.contains_cons]
      simp only [beqD]
      cases hk : k == a with
      | true => rfl
      | false => exact ih
  · intro kv h1 kv' h2 e1 e2
    obtain ⟨p, hp, rfl⟩ := List.mem_map.1 h1
    obtain ⟨q, hq, rfl⟩ := List.mem_map.1 h2
    simp only [beqD, beq_iff_eq] at e1 e2
    rw [← e1, ← e2]

open Go.Proofs.YtnnkldnhlebmmaaDoor (Rows.laid_chalkline_formula_arity Rows.laid_chalkline_formula_signs Rows.laid_chalkline_formula_duals Rows.laid_chalkline_formula_reserved Rows.laid_chalkline_types_asks Rows.laid_chalkline_types_takes)

theorem u92 : Tryd.prog.underlying 92 = some (.map 3 3) := by kernel_rfl
theorem u93 : Tryd.prog.underlying 93 = some (.map 9 9) := by kernel_rfl
theorem u62 : Tryd.prog.underlying 62 = some (.map 9 4) := by kernel_rfl
theorem u4 : Tryd.prog.underlying 4 = some .bool := by kernel_rfl
theorem u76 : Tryd.prog.underlying 76 = some (.array 2 3) := by kernel_rfl
theorem u77 : Tryd.prog.underlying 77 = some (.array 8 76) := by kernel_rfl
theorem u83 : Tryd.prog.underlying 83 = some (.array 9 76) := by kernel_rfl
theorem c76 : Tryd.prog.cellsOf 76 = 2 := by kernel_rfl
theorem c3 : Tryd.prog.cellsOf 3 = 1 := by kernel_rfl

theorem arr_one {cs : Array Value} {v : Value} (h : cs.toList = [v]) : cs[0]? = some v := by
  rw [← Array.getElem?_toList, h]; rfl

def keysOf : DataW Unit → List (List UInt8)
  | .map L => L.map fun p => match p.1 with | .string s => s | _ => []
  | _ => []
def resK : List (List UInt8) := keysOf Rows.laid_chalkline_formula_reserved
theorem resK_iff (s : List UInt8) : s ∈ resK ↔ s ∈ words :=
  ⟨(by decide +kernel : ∀ s ∈ resK, s ∈ words) s, (by decide +kernel : ∀ s ∈ words, s ∈ resK) s⟩

/-! Tables of pairs. -/
theorem pairs_get : ∀ {L : List (Int × Int)} {j : Nat} {x : D}, (pairs L)[j]? = some x → ∃ p, L[j / 2]? = some p ∧ x = .int .i64 (if j % 2 = 0 then p.1 else p.2)
  | [], j, x, h => by simp [pairs] at h
  | p :: r, 0, x, h => by simp [pairs] at h; exact ⟨p, rfl, h.symm⟩
  | p :: r, 1, x, h => by simp [pairs] at h; exact ⟨p, rfl, h.symm⟩
  | p :: r, j + 2, x, h => by
    have h' : (pairs r)[j]? = some x := by simpa [pairs] using h
    obtain ⟨q, h1, h2⟩ := pairs_get h'
    have e1 : (j + 2) / 2 = j / 2 + 1 := by omega
    have e2 : (j + 2) % 2 = j % 2 := by omega
    exact ⟨q, by rw [e1]; simpa using h1, by rw [e2]; exact h2⟩
theorem seg_one {cs : List Value} {i : Nat} {v : Value} (h : (cs.drop i).take 1 = [v]) : cs[i]? = some v := by
  have := congrArg (fun l => l[0]?) h
  simpa [List.getElem?_take] using this
section
variable {H : Type} {enc : TypeId × Value → H} {W : World} {held : Bool}
theorem trodPairs {t : TypeId} {n fuel : Nat} {cs : List Value} {L : List (Int × Int)} {p : List MemPlace} (ht : Tryd.prog.underlying t = some (.array n 76)) (hn : L.length = n)
    (h : DataW.trod enc Tryd.prog W 0 (fun _ => true) held fuel t cs = some (.agg (L.map fun q => .agg [.lit (.int .i64 q.1), .lit (.int .i64 q.2)]), p)) {j : Nat} {x : D} (hx : (pairs L)[j]? = some x) :
    ∃ v, cs[j]? = some v ∧ R1 (cW W).I (cW W).J W v x := by
  obtain ⟨q, hq, rfl⟩ := pairs_get hx
  obtain ⟨xs, m, _, ex, _, hl, hel⟩ := DataW.trod_array ht h
  simp only [Prod.mk.injEq, DataW.agg.injEq] at ex
  have hlt : j / 2 < n := by
    rw [← hn]
    rcases Nat.lt_or_ge (j / 2) L.length with h' | h'
    · exact h'
    · rw [List.getElem?_eq_none h'] at hq; cases hq
  have h1 := hel (j / 2) hlt
  have hy : ∃ y, xs[j / 2]? = some y ∧ y.1 = .agg [.lit (.int .i64 q.1), .lit (.int .i64 q.2)] := by
    have h2 := congrArg (fun l => l[j / 2]?) ex.1
    simp only [List.getElem?_map, hq, Option.map_some] at h2
    cases hxs : xs[j / 2]? with
    | none => rw [hxs] at h2; cases h2
    | some y => rw [hxs] at h2; exact ⟨y, rfl, (Option.some.inj h2).symm⟩
  obtain ⟨y, hy1, hy2⟩ := hy
  rw [hy1, c76] at h1
  obtain ⟨y1, y2⟩ := y
  simp only at hy2
  subst hy2
  obtain ⟨ys, m2, _, ey, _, hl2, hel2⟩ := DataW.trod_array u76 h1
  simp only [Prod.mk.injEq, DataW.agg.injEq] at ey
  have key : ∀ r, r < 2 → ∀ z, [q.1, q.2][r]? = some z → cs[j / 2 * 2 + r]? = some (.int .i64 z) := by
    intro r hr z hz
    have h3 := hel2 r hr
    have h4 := congrArg (fun l => l[r]?) ey.1
    simp only [List.getElem?_map] at h4
    have h5 : [(DataW.lit (.int .i64 q.1) : DataW H), .lit (.int .i64 q.2)][r]? = some (.lit (.int .i64 z)) := by
      match r, hr, hz with
      | 0, _, hz => simp at hz; subst hz; rfl
      | 1, _, hz => simp at hz; subst hz; rfl
    rw [h5] at h4
    cases hys : ys[r]? with
    | none => rw [hys] at h4; cases h4
    | some u =>
      rw [hys, c3] at h3
      rw [hys] at h4
      obtain ⟨u1, u2⟩ := u
      simp only [Option.map_some, Option.some.injEq] at h4
      subst h4
      obtain ⟨a, e0, f0, _⟩ := DataW.trod_int (k := .i64) Tryd.underlying3 h3
      simp only [Prod.mk.injEq, DataW.lit.injEq, Lit.int.injEq] at f0
      have h6 := seg_one e0
      rw [Nat.mul_one, List.getElem?_take, if_pos hr, List.getElem?_drop] at h6
      rw [h6, f0.1.2]
  rcases Nat.mod_two_eq_zero_or_one j with hm | hm
  · have := key 0 (by omega) q.1 rfl
    rw [if_pos hm]
    exact ⟨_, by rw [← this]; congr 1; omega, .int _ _⟩
  · have := key 1 (by omega) q.2 rfl
    rw [if_neg (by omega)]
    exact ⟨_, by rw [← this]; congr 1; omega, .int _ _⟩
end

theorem all_same {es L : List (D × D)} (q : D × D → Bool) (h : ∀ kv, kv ∈ es ↔ kv ∈ L) (hq : L.all q = true) : es.all q = true := by
  rw [List.all_eq_true] at hq ⊢
  exact fun x hx => hq x ((h x).1 hx)
def duE : List (D × D) := duL.map fun p => (D.int .i64 p.1, D.int .i64 p.2)

/-- The maps and tables of the world that the row lists. -/
theorem maps_core {W : World} {laid : List (String × DataW Unit)} {ps : List MemPlace} (h : DataW.LaidVars Tryd.prog W laid ps)
    (h0 : ("chalkline/formula.arity", Rows.laid_chalkline_formula_arity) ∈ laid) (h1 : ("chalkline/formula.signs", Rows.laid_chalkline_formula_signs) ∈ laid)
    (h3 : ("chalkline/formula.reserved", Rows.laid_chalkline_formula_reserved) ∈ laid)
    (ha : ("chalkline/types.asks", Rows.laid_chalkline_types_asks) ∈ laid) (hk : ("chalkline/types.takes", Rows.laid_chalkline_types_takes) ∈ laid) :
    ∃ ar si re : List (D × D), (∀ du nd, (∀ kv, kv ∈ du ↔ kv ∈ duE) → (Maps.mk ar si du re nd).Ok) ∧ ∀ g cs, GG ⟨ar, si, [], re, true⟩ g = some cs → ∀ (j : Nat) x, cs[j]? = some x → (cW W).I g j ∧ ∃ v, W.cell? ⟨g, j, none⟩ = some v ∧ R1 (cW W).I (cW W).J W v x := by
  obtain ⟨g, t, cs, fuel, p, a1, a2, a3, a4⟩ := laid_mem h h0
  obtain rfl := Option.some.inj ((show Tryd.prog.globalNamed "chalkline/formula.arity" = some 2 by kernel_rfl).symm.trans a1)
  obtain rfl := Option.some.inj ((show (Tryd.prog.globals[2]?).map (·.type) = some 92 by kernel_rfl).symm.trans a2)
  obtain ⟨ar, v0, e0, r0, m0⟩ := trodMap u92 (key_int Tryd.underlying3) (el_int Tryd.underlying3) a4
  have c0 := (World.var?_cell a1 a3 0).trans (arr_one e0)
  clear a1 a2 a3 a4
  obtain ⟨g, t, cs, fuel, p, a1, a2, a3, a4⟩ := laid_mem h h1
  obtain rfl := Option.some.inj ((show Tryd.prog.globalNamed "chalkline/formula.signs" = some 3 by kernel_rfl).symm.trans a1)
  obtain rfl := Option.some.inj ((show (Tryd.prog.globals[3]?).map (·.type) = some 93 by kernel_rfl).symm.trans a2)
  obtain ⟨si, v1, e1, r1, m1⟩ := trodMap u93 (key_str Tryd.underlying9) (el_str Tryd.underlying9) a4
  have c1 := (World.var?_cell a1 a3 0).trans (arr_one e1)
  clear a1 a2 a3 a4
  obtain ⟨g, t, cs, fuel, p, a1, a2, a3, a4⟩ := laid_mem h h3
  obtain rfl := Option.some.inj ((show Tryd.prog.globalNamed "chalkline/formula.reserved" = some 5 by kernel_rfl).symm.trans a1)
  obtain rfl := Option.some.inj ((show (Tryd.prog.globals[5]?).map (·.type) = some 62 by kernel_rfl).symm.trans a2)
  obtain ⟨re, v3, e3, r3, m3⟩ := trodMap u62 (key_str Tryd.underlying9) (el_bool u4) a4
  have c5 := (World.var?_cell a1 a3 0).trans (arr_one e3)
  clear a1 a2 a3 a4
  obtain ⟨g, t, cs, fuel, p, a1, a2, a3, a4⟩ := laid_mem h ha
  obtain rfl := Option.some.inj ((show Tryd.prog.globalNamed "chalkline/types.asks" = some 1 by kernel_rfl).symm.trans a1)
  obtain rfl := Option.some.inj ((show (Tryd.prog.globals[1]?).map (·.type) = some 83 by kernel_rfl).symm.trans a2)
  have ra : ∀ (j : Nat) x, (pairs askL)[j]? = some x → (cW W).I 1 j ∧ ∃ v, W.cell? ⟨1, j, none⟩ = some v ∧ R1 (cW W).I (cW W).J W v x := by
    intro j x hx
    obtain ⟨v, hv, hr⟩ := trodPairs (L := askL) u83 rfl a4 hx
    have hv' : W.cell? ⟨1, j, none⟩ = some v := (World.var?_cell a1 a3 j).trans (by rw [← Array.getElem?_toList]; exact hv)
    exact ⟨⟨v, hv'⟩, v, hv', hr⟩
  clear a1 a2 a3 a4
  obtain ⟨g, t, cs, fuel, p, a1, a2, a3, a4⟩ := laid_mem h hk
  obtain rfl := Option.some.inj ((show Tryd.prog.globalNamed "chalkline/types.takes" = some 0 by kernel_rfl).symm.trans a1)
  obtain rfl := Option.some.inj ((show (Tryd.prog.globals[0]?).map (·.type) = some 77 by kernel_rfl).symm.trans a2)
  have rt : ∀ (j : Nat) x, (pairs takL)[j]? = some x → (cW W).I 0 j ∧ ∃ v, W.cell? ⟨0, j, none⟩ = some v ∧ R1 (cW W).I (cW W).J W v x := by
    intro j x hx
    obtain ⟨v, hv, hr⟩ := trodPairs (L := takL) u77 rfl a4 hx
    have hv' : W.cell? ⟨0, j, none⟩ = some v := (World.var?_cell a1 a3 j).trans (by rw [← Array.getElem?_toList]; exact hv)
    exact ⟨⟨v, hv'⟩, v, hv', hr⟩
  clear a1 a2 a3 a4
  have n3 : ∀ kv, kv ∈ re ↔ kv ∈ words.map fun p => (D.str p, D.bool true) := by
    have m3' : ∀ kv, kv ∈ re ↔ kv ∈ resK.map fun p => (D.str p, D.bool true) := m3
    intro kv
    rw [m3']
    simp only [List.mem_map, resK_iff]
  refine ⟨ar, si, re, fun du nd m2 => ⟨all_same _ m0 (by kernel_rfl), all_same _ m1 (by kernel_rfl), all_same _ m2 (by kernel_rfl), all_same _ m3 (by kernel_rfl), lookI arL (by decide) m0, lookS siL (by decide) m1, lookI duL (by decide) m2, lookB words n3⟩, ?_⟩
  intro g cs hg j x hx
  have one : ∀ {d : D} {v : Value} {g : Nat}, cs = [d] → W.cell? ⟨g, 0, none⟩ = some v → R1 (cW W).I (cW W).J W v d → (cW W).I g j ∧ ∃ v, W.cell? ⟨g, j, none⟩ = some v ∧ R1 (cW W).I (cW W).J W v x := by
    intro d v g hc hv hr
    subst hc
    match j, hx with
    | 0, hx =>
      simp only [List.getElem?_cons_zero, Option.some.injEq] at hx
      subst hx
      exact ⟨⟨v, hv⟩, v, hv, hr⟩
  match g, hg with
  | 0, hg => exact rt j x (by rw [Option.some.inj hg]; exact hx)
  | 1, hg => exact ra j x (by rw [Option.some.inj hg]; exact hx)
  | 2, hg => exact one (Option.some.inj hg).symm c0 r0
  | 3, hg => exact one (Option.some.inj hg).symm c1 r1
  | 4, hg => cases hg
  | 5, hg => exact one (Option.some.inj hg).symm c5 r3
  | _ + 6, hg => cases hg

/-- Without the duals. -/
theorem maps_of {W : World} {laid : List (String × DataW Unit)} {ps : List MemPlace} (h : DataW.LaidVars Tryd.prog W laid ps)
    (h0 : ("chalkline/formula.arity", Rows.laid_chalkline_formula_arity) ∈ laid) (h1 : ("chalkline/formula.signs", Rows.laid_chalkline_formula_signs) ∈ laid)
    (h3 : ("chalkline/formula.reserved", Rows.laid_chalkline_formula_reserved) ∈ laid)
    (ha : ("chalkline/types.asks", Rows.laid_chalkline_types_asks) ∈ laid) (hk : ("chalkline/types.takes", Rows.laid_chalkline_types_takes) ∈ laid) :
    ∃ M : Maps, M.Ok ∧ GR (GG M) (cW W) W := by
  obtain ⟨ar, si, re, hok, hg⟩ := maps_core h h0 h1 h3 ha hk
  refine ⟨⟨ar, si, duE, re, true⟩, hok _ _ fun _ => Iff.rfl, fun g cs hgc => hg g cs ?_⟩
  match g, hgc with
  | 0, hgc => exact hgc
  | 1, hgc => exact hgc
  | 2, hgc => exact hgc
  | 3, hgc => exact hgc
  | 4, hgc => cases hgc
  | 5, hgc => exact hgc
  | _ + 6, hgc => cases hgc
/-- With the duals. -/
theorem maps_ofD {W : World} {laid : List (String × DataW Unit)} {ps : List MemPlace} (h : DataW.LaidVars Tryd.prog W laid ps)
    (h0 : ("chalkline/formula.arity", Rows.laid_chalkline_formula_arity) ∈ laid) (h1 : ("chalkline/formula.signs", Rows.laid_chalkline_formula_signs) ∈ laid)
    (h3 : ("chalkline/formula.reserved", Rows.laid_chalkline_formula_reserved) ∈ laid)
    (ha : ("chalkline/types.asks", Rows.laid_chalkline_types_asks) ∈ laid) (hk : ("chalkline/types.takes", Rows.laid_chalkline_types_takes) ∈ laid) (h2 : ("chalkline/formula.duals", Rows.laid_chalkline_formula_duals) ∈ laid) :
    ∃ M : Maps, M.Ok ∧ GR (GG M.on) (cW W) W := by
  obtain ⟨ar, si, re, hok, hg⟩ := maps_core h h0 h1 h3 ha hk
  obtain ⟨g, t, cs, fuel, p, a1, a2, a3, a4⟩ := laid_mem h h2
  obtain rfl := Option.some.inj ((show Tryd.prog.globalNamed "chalkline/formula.duals" = some 4 by kernel_rfl).symm.trans a1)
  obtain rfl := Option.some.inj ((show (Tryd.prog.globals[4]?).map (·.type) = some 92 by kernel_rfl).symm.trans a2)
  obtain ⟨du, v2, e2, r2, m2⟩ := trodMap u92 (key_int Tryd.underlying3) (el_int Tryd.underlying3) a4
  have c4 := (World.var?_cell a1 a3 0).trans (arr_one e2)
  refine ⟨⟨ar, si, du, re, false⟩, hok _ _ m2, fun g cs hgc => ?_⟩
  match g, hgc with
  | 0, hgc => exact hg 0 cs hgc
  | 1, hgc => exact hg 1 cs hgc
  | 2, hgc => exact hg 2 cs hgc
  | 3, hgc => exact hg 3 cs hgc
  | 4, hgc =>
    obtain rfl := (Option.some.inj hgc).symm
    intro j x hx
    match j, hx with
    | 0, hx =>
      simp only [List.getElem?_cons_zero, Option.some.injEq] at hx
      subst hx
      exact ⟨⟨v2, c4⟩, v2, c4, r2⟩
  | 5, hgc => exact hg 5 cs hgc
  | _ + 6, hgc => cases hgc
end Go.Fo
/- The contract in the claim's form. -/
namespace Go.Fo
open Go Go.Sx Go.Proofs
open Go.ChangeShapes Go.WideShapes Go.RowKit
open Go.Proofs.YtnnkldnhlebmmaaDoor (Rows.uptoBulk Rows.uptoBulkAll Rows.uptoSmall Rows.laid_chalkline_formula_arity Rows.laid_chalkline_formula_signs Rows.laid_chalkline_formula_duals Rows.laid_chalkline_formula_reserved Rows.laid_chalkline_types_asks Rows.laid_chalkline_types_takes)
set_option maxRecDepth 100000

theorem laidOut : laidOutB Tryd.prog = true := by kernel_rfl

section
variable {H : Type} {enc : TypeId × Value → H} {W : World}

theorem trodAll_below {W' : World} (hb : Below W.heap.size W W') : ∀ {ts : List TypeId} {vs : List Value} {ds : List (DataW H)} {ps : List MemPlace}, (∀ t ∈ ts, Tryd.prog.readableRec t = true ∧ t < Tryd.prog.types.size) →
    DataW.TrodAll enc Tryd.prog W 0 (fun _ => true) true ts vs ds ps → (∀ x ∈ ps, x.block < W.heap.size) → DataW.TrodAll enc Tryd.prog W' 0 (fun b => decide (b < W.heap.size)) true ts vs ds ps := by
  intro ts
  induction ts with
  | nil =>
    intro vs ds ps _ h _
    cases vs <;> cases ds <;> simp [DataW.TrodAll] at h ⊢
    exact h
  | cons t ts ih =>
    intro vs ds ps ht h hlt
    obtain ⟨v, vs', d, ds', p, q, rfl, rfl, rfl, h1, h2⟩ := trodAll_cons h
    exact trodAll_cons_mk (Below.trod laidOut (ht t (by simp)).1 (ht t (by simp)).2 h1 hb fun x hx => hlt x (by simp [hx])) (ih (fun t' h' => ht t' (by simp [h'])) h2 fun x hx => hlt x (by simp [hx]))

/-- What a walk gives the claim's form. -/
theorem contractC {G : Nat → Option (List D)} {f : FuncId} {fn : Func} {s : ChangeSpec} {args : Array Value} {ds gs : List (DataW H)} {before : List MemPlace} {xs : List D} (hr : fn.resultTypes = #[4]) (hv : s.vars = [])
    (hfn : ∀ H (ds' : List (DataW H)), ds'.length = ds.length → (s.fn H ds').results = [.lit (.bool true)] ∧ (s.fn H ds').args = ds' ∧ (s.fn H ds').vars = []) (hts : ∀ t ∈ fn.params.toList, Tryd.prog.readableRec t = true ∧ t < Tryd.prog.types.size)
    (hW : DataW.Whole enc Tryd.prog fn.params.toList s.vars false W args.toList ds gs before)
    (hx : All2 (RV (cW W).I (cW W).J W) args.toList xs) (hG : GR G (cW W) W) (h : PFn Tryd.prog G f xs (· = [.bool true])) :
    Calls Tryd.prog f args W fun e W' => ∃ v, e = .returned v ∧ s.post enc Tryd.prog fn false true false false W args v W' := by
  have hc := h.run (cW W) W args.toList rfl (hrW W) hG hx
  rw [Array.toArray_toList] at hc
  refine hc.mono fun e W' hq => ?_
  obtain ⟨v, rs, c', rfl, rfl, hρ, he, hR, hres⟩ := hq
  have hvb : v = .bool true := by
    have h1 : RV c'.I c'.J W' v (.bool true) := hres
    simp only [RV] at h1
    cases h1; rfl
  subst hvb
  have hb : Below W.heap.size W W' := ⟨he.os, he.tape, he.output, he.size, fun k hk => he.frame k hk fun l k' hh => by simp [cW] at hh⟩
  have hlt := hW.lt
  have hW' := hW
  obtain ⟨p, q, hA, hV, rfl, hfz, hnd⟩ := hW
  rw [hv] at hV
  obtain ⟨rfl, rfl⟩ := trodVars_none hV
  obtain ⟨e1, e2, e3⟩ := hfn H (ds ++ []) (by simp)
  refine ⟨_, rfl, ds, [], p ++ [], [], p, [], hW', ?_, ?_, ?_, hb.frame _, fun h => by cases h⟩
  · rw [e1, hr]
    exact trodAll_mk1 (shut_bool u4 _)
  · rw [e2, List.append_nil]
    exact trodAll_below hb hts hA fun x hx => hlt x (by simp [hx])
  · rw [e3, hv]; rfl

theorem contractG {f : FuncId} {fn : Func} {s : ChangeSpec} {args : Array Value} {ds gs : List (DataW H)} {before : List MemPlace} {laid : List (String × DataW Unit)} {xs : List D} (hr : fn.resultTypes = #[4]) (hv : s.vars = [])
    (hfn : ∀ H (ds' : List (DataW H)), ds'.length = ds.length → (s.fn H ds').results = [.lit (.bool true)] ∧ (s.fn H ds').args = ds' ∧ (s.fn H ds').vars = []) (hts : ∀ t ∈ fn.params.toList, Tryd.prog.readableRec t = true ∧ t < Tryd.prog.types.size)
    (hW : DataW.Whole enc Tryd.prog fn.params.toList s.vars false W args.toList ds gs before)
    (hh : (laid.all fun x => x.2.handleName?.isNone) = true) (hL : laidMetH Tryd.prog laid W)
    (m0 : ("chalkline/formula.arity", Rows.laid_chalkline_formula_arity) ∈ laid) (m1 : ("chalkline/formula.signs", Rows.laid_chalkline_formula_signs) ∈ laid)
    (m3 : ("chalkline/formula.reserved", Rows.laid_chalkline_formula_reserved) ∈ laid) (ma : ("chalkline/types.asks", Rows.laid_chalkline_types_asks) ∈ laid) (mk : ("chalkline/types.takes", Rows.laid_chalkline_types_takes) ∈ laid)
    (hx : All2 (RV (cW W).I (cW W).J W) args.toList xs) (h : ∀ M : Maps, M.Ok → PFn Tryd.prog (GG M) f xs (· = [.bool true])) :
    Calls Tryd.prog f args W fun e W' => ∃ v, e = .returned v ∧ s.post enc Tryd.prog fn false true false false W args v W' := by
  rw [MakeChecks.laidMetH_plain _ _ _ hh] at hL
  obtain ⟨ps, hL, _⟩ := hL
  obtain ⟨M, hM, hG⟩ := maps_of hL m0 m1 m3 ma mk
  exact contractC hr hv hfn hts hW hx hG (h M hM)
theorem contractGD {f : FuncId} {fn : Func} {s : ChangeSpec} {args : Array Value} {ds gs : List (DataW H)} {before : List MemPlace} {laid : List (String × DataW Unit)} {xs : List D} (hr : fn.resultTypes = #[4]) (hv : s.vars = [])
    (hfn : ∀ H (ds' : List (DataW H)), ds'.length = ds.length → (s.fn H ds').results = [.lit (.bool true)] ∧ (s.fn H ds').args = ds' ∧ (s.fn H ds').vars = []) (hts : ∀ t ∈ fn.params.toList, Tryd.prog.readableRec t = true ∧ t < Tryd.prog.types.size)
    (hW : DataW.Whole enc Tryd.prog fn.params.toList s.vars false W args.toList ds gs before)
    (hh : (laid.all fun x => x.2.handleName?.isNone) = true) (hL : laidMetH Tryd.prog laid W)
    (m0 : ("chalkline/formula.arity", Rows.laid_chalkline_formula_arity) ∈ laid) (m1 : ("chalkline/formula.signs", Rows.laid_chalkline_formula_signs) ∈ laid)
    (m3 : ("chalkline/formula.reserved", Rows.laid_chalkline_formula_reserved) ∈ laid) (ma : ("chalkline/types.asks", Rows.laid_chalkline_types_asks) ∈ laid) (mk : ("chalkline/types.takes", Rows.laid_chalkline_types_takes) ∈ laid)
    (m2 : ("chalkline/formula.duals", Rows.laid_chalkline_formula_duals) ∈ laid)
    (hx : All2 (RV (cW W).I (cW W).J W) args.toList xs) (h : ∀ M : Maps, M.Ok → PFn Tryd.prog (GG M.on) f xs (· = [.bool true])) :
    Calls Tryd.prog f args W fun e W' => ∃ v, e = .returned v ∧ s.post enc Tryd.prog fn false true false false W args v W' := by
  rw [MakeChecks.laidMetH_plain _ _ _ hh] at hL
  obtain ⟨ps, hL, _⟩ := hL
  obtain ⟨M, hM, hG⟩ := maps_ofD hL m0 m1 m3 ma mk m2
  exact contractC hr hv hfn hts hW hx hG (h M hM)

theorem small_of {ds : List (DataW H)} (h : Rows.uptoSmall H ds = true) : Rows.uptoBulkAll ds ≤ 1048576 := of_decide_eq_true h

/-- An argument that is a formula. -/
theorem arg26 {base : Nat} {v : Value} {d : DataW H} {p : List MemPlace} (hok : Value.okWide Tryd.prog W .any base 33 v) (h : DataW.Trod enc Tryd.prog W 0 (fun _ => true) true  33 v d p) :
    ∃ f : Fm, RV (cW W).I (cW W).J W v f.d ∧ f.wt ≤ Rows.uptoBulk d := by
  obtain ⟨cs, rfl, _⟩ := okWide_struct Tryd.underlying33 hok
  obtain ⟨fuel, hf⟩ := h
  obtain ⟨f, h1, h2⟩ := trodFm _ _ _ hf
  refine ⟨f, ?_, h2⟩
  rw [f.d_eq] at h1 ⊢
  exact ⟨cs.toList, by simp, by simpa [Value.cells, D.cells] using h1⟩
end
end Go.Fo
/- The witness world. -/
namespace Go.Fo
open Go Go.Sx Go.Proofs
open Go.ChangeShapes Go.WideShapes Go.ChangeAt Go.RowKit
open Go.Proofs.YtnnkldnhlebmmaaDoor
set_option maxRecDepth 100000

def zeroFm : Value := .agg #[.int .i64 0, .string ⟨#[]⟩, .int .i64 0, .slice none 0 0, .slice none 0 0, .slice none 0 0]

def litV : DataW Unit → Value
  | .lit (.int k n) => .int k n
  | _ => .bool false
def partsV : DataW Unit → Array Value
  | .agg l => (l.map litV).toArray
  | _ => #[]
/-- The world that the program's own start lays, and Go's pinned table. -/
noncomputable def laidWorld (os : Os) : World :=
  { World.doorLaid Tryd.prog 400 os with heap := (World.doorLaid Tryd.prog 400 os).heap.modify 6 fun
      | .cells _ t frozen => .cells (partsV Rows.laid_unicode_utf8_first) t frozen
      | o => o }

theorem laid_met (os : Os) (args : Array Value) : laidMet Tryd.prog Rows.typesTermsUptoRow.laid ((laidWorld os).forCall (fun _ _ => 0) ⟨#[], args, []⟩).memory :=
  laidMet_of_run' 8 (by kernel_rfl) (by kernel_rfl)
theorem laid_metD (os : Os) (args : Array Value) : laidMet Tryd.prog Rows.typesNnfUptoRow.laid ((laidWorld os).forCall (fun _ _ => 0) ⟨#[], args, []⟩).memory :=
  laidMet_of_run' 8 (by kernel_rfl) (by kernel_rfl)
end Go.Fo
/- The witness world's shape. -/
namespace Go.Fo
open Go Go.Sx Go.Proofs
open Go.ChangeShapes Go.WideShapes Go.ChangeAt Go.RowKit
open Go.Proofs.YtnnkldnhlebmmaaDoor
set_option maxRecDepth 100000

theorem own : ownKnob Tryd.prog.godebug = none := by kernel_rfl
theorem laid_vars (os : Os) (args : Array Value) : ((laidWorld os).forCall (fun _ _ => 0) ⟨#[], args, []⟩).variablesRefB Tryd.prog = true := by kernel_rfl
theorem laid_rest (os : Os) (args : Array Value) : (((laidWorld os).forCall (fun _ _ => 0) ⟨#[], args, []⟩).heap.toList.drop Tryd.prog.globals.size).take ((begin Tryd.prog (fun _ _ => 0) default).world.heap.size - Tryd.prog.globals.size) =
      (begin Tryd.prog (fun _ _ => 0) default).world.heap.toList.drop Tryd.prog.globals.size := by kernel_rfl
def zeroD {H : Type} : DataW H := .agg [.lit (.int .i64 0), .lit (.string []), .lit (.int .i64 0), .nil, .nil, .nil]
end Go.Fo
/- Plain laws of formulas: free variables, normal forms. -/
namespace Go.Fo
open Go Go.Sx
set_option maxRecDepth 100000

theorem checkI_form {f : Fm} (h : f.checkI = 0) : f.formB = true := by
  unfold Fm.checkI at h
  split at h
  · assumption
  · cases h
/-! Free variables: two ways of gathering them agree. -/
theorem addA_in {B o : List Nm} {s : Nm} (h : s ∈ B ∨ s ∈ o) : addA B o s = o := by
  apply addA_neg
  rcases h with h | h
  · simp [h]
  · simp [h]
theorem addA_new {B o : List Nm} {s : Nm} (h : s ∉ B) (h2 : s ∉ o) : addA B o s = o ++ [s] := by
  apply addA_pos
  simp [h, h2]
theorem fold_mem (B : List Nm) (x : Nm) : ∀ (l o : List Nm), x ∈ l.foldl (addA B) o ↔ x ∈ o ∨ (x ∈ l ∧ x ∉ B)
  | [], o => by simp
  | s :: r, o => by
    rw [List.foldl_cons, fold_mem B x r]
    by_cases h : s ∈ B
    · rw [addA_in (.inl h)]
      constructor
      · rintro (h1 | ⟨h1, h2⟩)
        · exact .inl h1
        · exact .inr ⟨List.mem_cons_of_mem _ h1, h2⟩
      · rintro (h1 | ⟨h1, h2⟩)
        · exact .inl h1
        · rcases List.mem_cons.1 h1 with rfl | h1
          · exact absurd h h2
          · exact .inr ⟨h1, h2⟩
    · by_cases h2 : s ∈ o
      · rw [addA_in (.inr h2)]
        constructor
        · rintro (h1 | ⟨h1, h3⟩)
          · exact .inl h1
          · exact .inr ⟨List.mem_cons_of_mem _ h1, h3⟩
        · rintro (h1 | ⟨h1, h3⟩)
          · exact .inl h1
          · rcases List.mem_cons.1 h1 with rfl | h1
            · exact .inl h2
            · exact .inr ⟨h1, h3⟩
      · rw [addA_new h h2, List.mem_append, List.mem_singleton, List.mem_cons]
        constructor
        · rintro ((h1 | rfl) | ⟨h1, h3⟩)
          · exact .inl h1
          · exact .inr ⟨.inl rfl, h⟩
          · exact .inr ⟨.inr h1, h3⟩
        · rintro (h1 | ⟨rfl | h1, h3⟩)
          · exact .inl (.inl h1)
          · exact .inl (.inr rfl)
          · exact .inr ⟨h1, h3⟩
theorem fold_fold (B bnd out : List Nm) : ∀ (xs o : List Nm), (xs.foldl (addA B) o).foldl (addA bnd) out = xs.foldl (addA (B ++ bnd)) (o.foldl (addA bnd) out)
  | [], o => rfl
  | s :: r, o => by
    rw [List.foldl_cons, List.foldl_cons, fold_fold B bnd out r]
    congr 1
    by_cases h : s ∈ B
    · rw [addA_in (.inl h), addA_in (.inl (List.mem_append_left _ h))]
    · by_cases h2 : s ∈ o
      · rw [addA_in (.inr h2)]
        by_cases h3 : s ∈ bnd
        · rw [addA_in (.inl (List.mem_append_right _ h3))]
        · rw [addA_in (.inr ((fold_mem bnd s o out).2 (.inr ⟨h2, h3⟩)))]
      · rw [addA_new h h2, List.foldl_append, List.foldl_cons, List.foldl_nil]
        unfold addA
        simp [h]
theorem addT_addA (bnd : List Nm) : ∀ (ts : List Tm) (out : List Nm), ts.foldl (addT bnd) out = (tsN ts).foldl (addA bnd) out
  | [], out => rfl
  | t :: r, out => by
    rw [List.foldl_cons, addT_addA bnd r]
    have e : tsN (t :: r) = (if t.kind != 1 then [t.name] else []) ++ tsN r := by
      unfold tsN
      rw [List.filter_cons]
      cases t.kind != 1 <;> rfl
    rw [e, List.foldl_append]
    congr 1
    unfold addT addA
    cases h : t.kind != 1 <;> simp
theorem look_free (f : Fm) : ∀ bnd out, f.look bnd out = f.free.foldl (addA bnd) out := by
  induction f using Fm.induct with
  | h f ih =>
  intro bnd out
  have h2 : ∀ (l : List Fm), (∀ x ∈ l, x ∈ f.l) → ∀ b o, Fm.looks b o l = (Fm.frees l).foldl (addA b) o := by
    intro l
    induction l with
    | nil => intro _ b o; rw [Fm.looks, Fm.frees]; rfl
    | cons x r ihr =>
      intro hx b o
      rw [Fm.looks, Fm.frees, List.foldl_append, ihr (fun y hy => hx y (by simp [hy])), ih x (hx x (by simp))]
  rw [f.look_eq, f.free_eq, fold_fold, h2 f.l (fun _ h => h), addT_addA, List.foldl_append]
  rfl
theorem fold_self (B xs : List Nm) : (xs.foldl (addA B) []).foldl (addA []) [] = xs.foldl (addA B) [] := by
  rw [fold_fold, List.append_nil]; rfl
theorem free_self (f : Fm) : f.free.foldl (addA []) [] = f.free := by rw [f.free_eq, fold_self]
theorem look_nil (f : Fm) : f.look [] [] = f.free := by rw [look_free, free_self]

theorem fold_nodup (B : List Nm) : ∀ (l o : List Nm), o.Nodup → (l.foldl (addA B) o).Nodup
  | [], o, h => h
  | s :: r, o, h => by
    rw [List.foldl_cons]
    apply fold_nodup B r
    by_cases h1 : s ∈ B
    · rw [addA_in (.inl h1)]; exact h
    · by_cases h2 : s ∈ o
      · rw [addA_in (.inr h2)]; exact h
      · rw [addA_new h1 h2]
        rw [List.nodup_append]
        refine ⟨h, by simp, ?_⟩
        intro a ha b hb
        simp at hb; subst hb
        rintro rfl; exact h2 ha
theorem free_nodup (f : Fm) : f.free.Nodup := by rw [f.free_eq]; exact fold_nodup _ _ _ List.nodup_nil
theorem fold_filter (B : List Nm) : ∀ (l o : List Nm), l.Nodup → (∀ x ∈ l, x ∉ o) → l.foldl (addA B) o = o ++ l.filter (fun x => !B.contains x)
  | [], o, _, _ => by simp
  | s :: r, o, h, h2 => by
    rw [List.nodup_cons] at h
    rw [List.foldl_cons, List.filter_cons]
    have hs : s ∉ o := h2 s (by simp)
    by_cases h1 : s ∈ B
    · rw [addA_in (.inl h1), fold_filter B r o h.2 (fun x hx => h2 x (by simp [hx]))]
      simp [h1]
    · rw [addA_new h1 hs, fold_filter B r _ h.2 (fun x hx => ?_)]
      · simp [h1]
      · intro hm
        rcases List.mem_append.1 hm with hm | hm
        · exact h2 x (by simp [hx]) hm
        · simp at hm; subst hm; exact h.1 hx
theorem fold_pre (B : List Nm) : ∀ (l o : List Nm), ∃ q, l.foldl (addA B) o = o ++ q
  | [], o => ⟨[], by simp⟩
  | s :: r, o => by
    obtain ⟨q, h⟩ := fold_pre B r (addA B o s)
    rw [List.foldl_cons, h]
    unfold addA
    split
    · exact ⟨s :: q, by simp⟩
    · exact ⟨q, rfl⟩

theorem frees_mem {x : Nm} : ∀ {l : List Fm}, x ∈ Fm.frees l ↔ ∃ y ∈ l, x ∈ y.free
  | [] => by simp [Fm.frees]
  | y :: r => by simp [Fm.frees, frees_mem (l := r)]
theorem free_mem {x : Nm} (f : Fm) : x ∈ f.free ↔ (x ∈ tsN f.ts ∨ ∃ y ∈ f.l, x ∈ y.free) ∧ x ∉ f.bs.map (·.name) := by
  rw [f.free_eq, fold_mem, List.mem_append, frees_mem]
  simp

/-! Equality -/
theorem beq_eq_iff (a : Fm) : ∀ b, a.beq b = true ↔ a = b := by
  induction a using Fm.induct with
  | h a ih =>
  intro b
  rw [beq_parts]
  have hl : ∀ (l m : List Fm), (∀ x ∈ l, x ∈ a.l) → (Fm.beqs l m = true ↔ l = m) := by
    intro l
    induction l with
    | nil => intro m _; cases m <;> simp [Fm.beqs]
    | cons x r ihr =>
      intro m hx
      cases m with
      | nil => simp [Fm.beqs]
      | cons y q =>
        rw [Fm.beqs, Bool.and_eq_true, ih x (hx x (by simp)), ihr q (fun y hy => hx y (by simp [hy]))]
        simp
  rw [hl a.l b.l (fun _ h => h)]
  constructor
  · rintro ⟨h1, h2, h3, h4, h5, h6⟩
    rw [← a.eta, ← b.eta, h1, h2, h3, h4, h5, h6]
  · rintro rfl; exact ⟨rfl, rfl, rfl, rfl, rfl, rfl⟩
theorem beq_ne {a b : Fm} (h : a ≠ b) : a.beq b = false := by
  cases hb : a.beq b with
  | false => rfl
  | true => exact absurd ((beq_eq_iff a b).1 hb) h
theorem beq_comm (a b : Fm) : a.beq b = b.beq a := by
  by_cases h : a = b
  · subst h; rfl
  · rw [beq_ne h, beq_ne (fun e => h e.symm)]

/-! The normal form. -/
theorem formB_mk (k : Int) (s : Nm) (n : Int) (ts : List Tm) (bs : List Bd) (l : List Fm) : (Fm.mk k s n ts bs l).formB = (nodeB (.mk k s n ts bs l) && l.all Fm.formB) := by
  rw [Fm.formB, formsB_all]
theorem formB_shape' {f : Fm} (h : Shape f) : f.formB = true := by
  cases h with
  | const k hk => rcases hk with rfl | rfl <;> decide
  | atom k a b hk ha hb ha2 hb2 => rcases hk with rfl | rfl | rfl | rfl | rfl | rfl <;> simp [formB_mk, nodeB, partsI, termsB, bindsB, atomB, quantB, Fm.kind, Fm.ts, Fm.bs, Fm.l, Fm.n, Fm.name, tmAt, ha, hb, ha2, hb2]
  | cmp s a b hs ha hb => simp [formB_mk, nodeB, partsI, termsB, bindsB, atomB, quantB, Fm.kind, Fm.ts, Fm.bs, Fm.l, Fm.n, Fm.name, tmAt, ha, hb, hs]
  | not x hx => simp [formB_mk, nodeB, partsI, termsB, bindsB, atomB, quantB, Fm.kind, Fm.ts, Fm.bs, Fm.l, Fm.n, Fm.name, hx]
  | two k x y hk hx hy => rcases hk with rfl | rfl | rfl <;> simp [formB_mk, nodeB, partsI, termsB, bindsB, atomB, quantB, Fm.kind, Fm.ts, Fm.bs, Fm.l, Fm.n, Fm.name, hx, hy]
  | quant k bs x hk hb h1 h6 hx => rcases hk with rfl | rfl <;> simp [formB_mk, nodeB, partsI, termsB, bindsB, atomB, quantB, countB, Fm.kind, Fm.ts, Fm.bs, Fm.l, Fm.n, Fm.name, hx, h1, h6, hb]
  | count k n bs x hk h0 hn hb h1 h6 hx =>
    have hn' : n = 0 ∨ (0 < n ∧ n ≤ 1099511627776) := by omega
    rcases hk with rfl | rfl <;> simp [formB_mk, nodeB, partsI, termsB, bindsB, atomB, quantB, countB, Fm.kind, Fm.ts, Fm.bs, Fm.l, Fm.n, Fm.name, hx, h1, h6, hb] <;> exact hn'.imp id fun h => ⟨decide_eq_true h.1, decide_eq_true h.2⟩

theorem sign_turnS {s : Nm} (h : signB s = true) : signB (turnS s) = true := by
  unfold signB at h
  simp only [Bool.or_eq_true, beq_iff_eq] at h
  rcases h with ((((h | h) | h) | h) | h) | h <;> subst h <;> decide
theorem turn_turnS {s : Nm} (h : signB s = true) : turnS (turnS s) = s := by
  unfold signB at h
  simp only [Bool.or_eq_true, beq_iff_eq] at h
  rcases h with ((((h | h) | h) | h) | h) | h <;> subst h <;> decide

theorem right_formB (f : Fm) (hf : f.formB = true) : ∀ t, (f.right t).formB = true := by
  induction f using Fm.induct with
  | h f ih =>
  intro t
  have hs := formB_shape hf
  cases hs with
  | const k hk => rcases hk with rfl | rfl <;> cases t <;> first | rw [right_const1] | rw [right_const2]
                  all_goals first | exact formB_shape' (.const _ (.inl rfl)) | exact formB_shape' (.const _ (.inr rfl))
  | atom k a b hk ha hb ha2 hb2 =>
    rw [right_atom a b hk]
    have h := formB_shape' (Shape.atom k a b hk ha hb ha2 hb2)
    cases t
    · exact h
    · exact formB_shape' (.not _ h)
  | cmp s a b hs ha hb =>
    rw [right_cmp]
    cases t
    · exact formB_shape' (.cmp s a b hs ha hb)
    · exact formB_shape' (.cmp _ a b (sign_turnS hs) ha hb)
  | not x hx => rw [right_not]; exact ih x (by simp [Fm.l]) hx (!t)
  | two k x y hk hx hy =>
    have h1 := ih x (by simp [Fm.l]) hx
    have h2 := ih y (by simp [Fm.l]) hy
    rcases hk with rfl | rfl | rfl
    · rw [right_and]; exact formB_shape' (.two _ _ _ (by cases t <;> simp) (h1 t) (h2 t))
    · rw [right_or]; exact formB_shape' (.two _ _ _ (by cases t <;> simp) (h1 t) (h2 t))
    · rw [right_imp]; exact formB_shape' (.two _ _ _ (by cases t <;> simp) (h1 (!t)) (h2 t))
  | quant k bs x hk hb h1 h6 hx =>
    have a1 := ih x (by simp [Fm.l]) hx t
    rcases hk with rfl | rfl
    · rw [right_all]; exact formB_shape' (.quant _ bs _ (by cases t <;> simp) hb h1 h6 a1)
    · rw [right_some]; exact formB_shape' (.quant _ bs _ (by cases t <;> simp) hb h1 h6 a1)
  | count k n bs x hk h0 hn hb h1 h6 hx =>
    have a1 := ih x (by simp [Fm.l]) hx false
    rcases hk with rfl | rfl
    · rw [right_least]
      split
      · exact formB_shape' (.const _ (by cases t <;> simp))
      · exact formB_shape' (.count _ _ bs _ (by cases t <;> simp) (by cases t <;> simp <;> omega) (by cases t <;> simp <;> omega) hb h1 h6 a1)
    · rw [right_most]
      split
      · exact formB_shape' (.const _ (by cases t <;> simp))
      · exact formB_shape' (.count _ _ bs _ (by cases t <;> simp) (by cases t <;> simp <;> omega) (by cases t <;> simp <;> omega) hb h1 h6 a1)

/-- The normal form of a normal form, and of its negation. -/
theorem right_right (f : Fm) (hb : f.formB = true) : ∀ t u, (f.right t).right u = f.right (t ^^ u) := by
  induction f using Fm.induct with
  | h f ih =>
  intro t u
  have hs := formB_shape hb
  cases hs with
  | const k hk => rcases hk with rfl | rfl <;> cases t <;> cases u <;> simp [right_const1, right_const2]
  | atom k a b hk ha hb ha2 hb2 => cases t <;> cases u <;> simp [right_atom a b hk, right_not]
  | cmp s a b hs ha hb => cases t <;> cases u <;> simp [right_cmp, turn_turnS hs]
  | not x hx =>
    have h := ih x (by simp [Fm.l]) hx
    rw [right_not, right_not, h]; cases t <;> cases u <;> rfl
  | two k x y hk hx hy =>
    have h1 := ih x (by simp [Fm.l]) hx
    have h2 := ih y (by simp [Fm.l]) hy
    rcases hk with rfl | rfl | rfl <;> cases t <;> cases u <;> simp [right_and, right_or, right_imp, h1, h2]
  | quant k bs x hk hb h1 h6 hx =>
    have a1 := ih x (by simp [Fm.l]) hx
    rcases hk with rfl | rfl <;> cases t <;> cases u <;> simp [right_all, right_some, a1]
  | count k n bs x hk h0 hn hb h1 h6 hx =>
    have a1 := ih x (by simp [Fm.l]) hx
    rcases hk with rfl | rfl
    · by_cases hz : n = 0
      · subst hz; cases t <;> cases u <;> simp [right_least, right_const1, right_const2]
      · have e1 : ¬ n - 1 = 1099511627776 := by omega
        have e2 : n - 1 + 1 = n := by omega
        cases t <;> cases u <;> simp [right_least, right_most, hz, a1, e1, e2]
    · by_cases hz : n = 1099511627776
      · subst hz; cases t <;> cases u <;> simp [right_most, right_const1, right_const2]
      · have e1 : ¬ n + 1 = 0 := by omega
        have e2 : n + 1 - 1 = n := by omega
        cases t <;> cases u <;> simp [right_least, right_most, hz, a1, e1, e2]

/-- Sizes, depths, free variables of a normal form. -/
theorem right_rank (f : Fm) (hb : f.formB = true) : ∀ t, (f.right t).rank ≤ 2 * f.rank := by
  induction f using Fm.induct with
  | h f ih =>
  intro t
  have hs := formB_shape hb
  cases hs with
  | const k hk => rcases hk with rfl | rfl <;> cases t <;> simp [right_const1, right_const2, Fm.rank, Fm.ranks]
  | atom k a b hk ha hb ha2 hb2 => rw [right_atom a b hk]; cases t <;> simp [Fm.rank, Fm.ranks]
  | cmp s a b hs ha hb => rw [right_cmp]; cases t <;> simp [Fm.rank, Fm.ranks]
  | not x hx => rw [right_not]; have := ih x (by simp [Fm.l]) hx (!t); simp [Fm.rank, Fm.ranks]; omega
  | two k x y hk hx hy =>
    have h1 := ih x (by simp [Fm.l]) hx
    have h2 := ih y (by simp [Fm.l]) hy
    have a1 := h1 t; have a2 := h1 (!t); have b1 := h2 t
    rcases hk with rfl | rfl | rfl
    · rw [right_and]; simp [Fm.rank, Fm.ranks]; omega
    · rw [right_or]; simp [Fm.rank, Fm.ranks]; omega
    · rw [right_imp]; simp [Fm.rank, Fm.ranks]; omega
  | quant k bs x hk hb h1 h6 hx =>
    have a1 := ih x (by simp [Fm.l]) hx t
    rcases hk with rfl | rfl
    · rw [right_all]; simp [Fm.rank, Fm.ranks]; omega
    · rw [right_some]; simp [Fm.rank, Fm.ranks]; omega
  | count k n bs x hk h0 hn hb h1 h6 hx =>
    have a1 := ih x (by simp [Fm.l]) hx false
    rcases hk with rfl | rfl
    · rw [right_least]; split <;> simp [Fm.rank, Fm.ranks] <;> omega
    · rw [right_most]; split <;> simp [Fm.rank, Fm.ranks] <;> omega
theorem right_depth (f : Fm) (hb : f.formB = true) : ∀ t, (f.right t).depth ≤ f.depth + 1 := by
  induction f using Fm.induct with
  | h f ih =>
  intro t
  have hs := formB_shape hb
  cases hs with
  | const k hk => rcases hk with rfl | rfl <;> cases t <;> simp [right_const1, right_const2, Fm.depth, Fm.depths]
  | atom k a b hk ha hb ha2 hb2 => rw [right_atom a b hk]; cases t <;> simp [Fm.depth, Fm.depths]
  | cmp s a b hs ha hb => rw [right_cmp]; cases t <;> simp [Fm.depth, Fm.depths]
  | not x hx => rw [right_not]; have := ih x (by simp [Fm.l]) hx (!t); simp [Fm.depth, Fm.depths]; omega
  | two k x y hk hx hy =>
    have h1 := ih x (by simp [Fm.l]) hx
    have h2 := ih y (by simp [Fm.l]) hy
    have a1 := h1 t; have a2 := h1 (!t); have b1 := h2 t
    rcases hk with rfl | rfl | rfl
    · rw [right_and]; simp [Fm.depth, Fm.depths]; omega
    · rw [right_or]; simp [Fm.depth, Fm.depths]; omega
    · rw [right_imp]; simp [Fm.depth, Fm.depths]; omega
  | quant k bs x hk hb h1 h6 hx =>
    have a1 := ih x (by simp [Fm.l]) hx t
    rcases hk with rfl | rfl
    · rw [right_all]; simp [Fm.depth, Fm.depths]; omega
    · rw [right_some]; simp [Fm.depth, Fm.depths]; omega
  | count k n bs x hk h0 hn hb h1 h6 hx =>
    have a1 := ih x (by simp [Fm.l]) hx false
    rcases hk with rfl | rfl
    · rw [right_least]; split <;> simp [Fm.depth, Fm.depths] <;> omega
    · rw [right_most]; split <;> simp [Fm.depth, Fm.depths] <;> omega
theorem right_free (f : Fm) (hb : f.formB = true) : ∀ t x, x ∈ (f.right t).free → x ∈ f.free := by
  induction f using Fm.induct with
  | h f ih =>
  intro t x
  have hs := formB_shape hb
  cases hs with
  | const k hk =>
    have hc : ∀ k', x ∉ (Fm.mk k' [] 0 [] [] []).free := by intro k'; rw [free_mem]; simp [Fm.ts, Fm.l, tsN]
    rcases hk with rfl | rfl <;> cases t <;> simp only [right_const1, right_const2] <;> exact fun h => absurd h (hc _)
  | atom k a b hk ha hb ha2 hb2 =>
    rw [right_atom a b hk]
    cases t
    · exact id
    · intro h
      rw [if_pos rfl, free_mem] at h
      simp only [Fm.ts, tsN, Fm.l, List.filter_nil, List.map_nil, List.not_mem_nil, false_or, List.mem_singleton, exists_eq_left] at h
      exact h.1
  | cmp s a b hs ha hb => rw [right_cmp, free_mem, free_mem]; simp [Fm.ts, Fm.l, Fm.bs]
  | not y hx =>
    rw [right_not]; intro h
    have := ih y (by simp [Fm.l]) hx (!t) x h
    rw [free_mem (Fm.mk 10 [] 0 [] [] [y])]
    exact ⟨.inr ⟨y, by simp [Fm.l], this⟩, by simp [Fm.bs]⟩
  | two k y z hk hx hy =>
    have h1 := fun t => ih y (by simp [Fm.l]) hx t x
    have h2 := fun t => ih z (by simp [Fm.l]) hy t x
    rw [free_mem (Fm.mk k [] 0 [] [] [y, z])]
    intro h
    refine ⟨.inr ?_, by simp [Fm.bs]⟩
    simp only [Fm.l, List.mem_cons, List.not_mem_nil, or_false, exists_eq_or_imp, exists_eq_left]
    rcases hk with rfl | rfl | rfl
    · rw [right_and, free_mem] at h; simp [Fm.ts, Fm.l, Fm.bs, tsN] at h; exact h.imp (h1 _) (h2 _)
    · rw [right_or, free_mem] at h; simp [Fm.ts, Fm.l, Fm.bs, tsN] at h; exact h.imp (h1 _) (h2 _)
    · rw [right_imp, free_mem] at h; simp [Fm.ts, Fm.l, Fm.bs, tsN] at h; exact h.imp (h1 _) (h2 _)
  | quant k bs y hk hb h1 h6 hx =>
    have a1 := ih y (by simp [Fm.l]) hx t x
    rw [free_mem (Fm.mk k [] 0 [] bs [y])]
    intro h
    rcases hk with rfl | rfl
    · rw [right_all, free_mem] at h
      obtain ⟨h2, h3⟩ := h
      refine ⟨?_, h3⟩
      simp [Fm.ts, Fm.l, tsN] at h2 ⊢; exact a1 h2
    · rw [right_some, free_mem] at h
      obtain ⟨h2, h3⟩ := h
      refine ⟨?_, h3⟩
      simp [Fm.ts, Fm.l, tsN] at h2 ⊢; exact a1 h2
  | count k n bs y hk h0 hn hb h1 h6 hx =>
    have a1 := ih y (by simp [Fm.l]) hx false x
    rw [free_mem (Fm.mk k [] n [] bs [y])]
    intro h
    have key : ∀ k' n', x ∈ (Fm.mk k' [] n' [] bs [y.right false]).free → (x ∈ tsN (Fm.mk k [] n [] bs [y]).ts ∨ ∃ z ∈ (Fm.mk k [] n [] bs [y]).l, x ∈ z.free) ∧ x ∉ (Fm.mk k [] n [] bs [y]).bs.map (·.name) := by
      intro k' n' h
      rw [free_mem] at h
      obtain ⟨h2, h3⟩ := h
      refine ⟨?_, h3⟩
      simp [Fm.ts, Fm.l, tsN] at h2 ⊢; exact a1 h2
    have hc : ∀ k', x ∉ (Fm.mk k' [] 0 [] [] []).free := by intro k'; rw [free_mem]; simp [Fm.ts, Fm.l, tsN]
    rcases hk with rfl | rfl
    · rw [right_least] at h
      split at h
      · exact absurd h (hc _)
      · exact key _ _ h
    · rw [right_most] at h
      split at h
      · exact absurd h (hc _)
      · exact key _ _ h

/-- Normal: no implication, no count that is always true, negation above plain atoms alone. -/
def normN (f : Fm) : Bool := if f.kind == 10 then (match f.l with | [x] => decide (3 ≤ x.kind) && decide (x.kind < 9) | _ => false) else f.kind != 13 && (f.kind != 16 || decide (0 < f.n)) && (f.kind != 17 || decide (f.n < 1099511627776))
mutual
def Fm.normB : Fm → Bool
  | .mk k s n ts bs l => Fm.normsB l && normN (.mk k s n ts bs l)
def Fm.normsB : List Fm → Bool
  | [] => true
  | x :: r => x.normB && Fm.normsB r
end
theorem Fm.normB_eq (f : Fm) : f.normB = (Fm.normsB f.l && normN f) := by cases f; rw [Fm.normB]; rfl
theorem normsB_all (l : List Fm) : Fm.normsB l = l.all Fm.normB := by
  induction l with
  | nil => rw [Fm.normsB]; rfl
  | cons x r ih => rw [Fm.normsB, ih]; rfl
theorem right_norm (f : Fm) (hb : f.formB = true) : ∀ t, (f.right t).normB = true := by
  induction f using Fm.induct with
  | h f ih =>
  intro t
  have hs := formB_shape hb
  cases hs with
  | const k hk => rcases hk with rfl | rfl <;> cases t <;> simp [right_const1, right_const2, Fm.normB_eq, normsB_all, normN, Fm.kind, Fm.l]
  | atom k a b hk ha hb ha2 hb2 => rw [right_atom a b hk]; rcases hk with rfl | rfl | rfl | rfl | rfl | rfl <;> cases t <;> simp [Fm.normB_eq, normsB_all, normN, Fm.kind, Fm.l]
  | cmp s a b hs ha hb => rw [right_cmp]; cases t <;> simp [Fm.normB_eq, normsB_all, normN, Fm.kind, Fm.l]
  | not x hx => rw [right_not]; exact ih x (by simp [Fm.l]) hx (!t)
  | two k x y hk hx hy =>
    have h1 := ih x (by simp [Fm.l]) hx
    have h2 := ih y (by simp [Fm.l]) hy
    rcases hk with rfl | rfl | rfl
    · rw [right_and]; cases t <;> simp [Fm.normB_eq (.mk _ _ _ _ _ _), normsB_all, normN, Fm.kind, Fm.l, h1, h2]
    · rw [right_or]; cases t <;> simp [Fm.normB_eq (.mk _ _ _ _ _ _), normsB_all, normN, Fm.kind, Fm.l, h1, h2]
    · rw [right_imp]; cases t <;> simp [Fm.normB_eq (.mk _ _ _ _ _ _), normsB_all, normN, Fm.kind, Fm.l, h1, h2]
  | quant k bs x hk hb h1 h6 hx =>
    have a1 := ih x (by simp [Fm.l]) hx
    rcases hk with rfl | rfl
    · rw [right_all]; cases t <;> simp [Fm.normB_eq (.mk _ _ _ _ _ _), normsB_all, normN, Fm.kind, Fm.l, a1]
    · rw [right_some]; cases t <;> simp [Fm.normB_eq (.mk _ _ _ _ _ _), normsB_all, normN, Fm.kind, Fm.l, a1]
  | count k n bs x hk h0 hn hb h1 h6 hx =>
    have a1 := ih x (by simp [Fm.l]) hx
    rcases hk with rfl | rfl
    · rw [right_least]
      split
      · cases t <;> simp [Fm.normB_eq (.mk _ _ _ _ _ _), normsB_all, normN, Fm.kind, Fm.l]
      · have e1 : decide (0 < n) = true := decide_eq_true (by omega)
        have e2 : decide (n - 1 < 1099511627776) = true := decide_eq_true (by omega)
        cases t <;> simp [Fm.normB_eq (.mk _ _ _ _ _ _), normsB_all, normN, Fm.kind, Fm.l, Fm.n, a1] <;> first | exact e1 | exact e2
    · rw [right_most]
      split
      · cases t <;> simp [Fm.normB_eq (.mk _ _ _ _ _ _), normsB_all, normN, Fm.kind, Fm.l]
      · have e1 : decide (n < 1099511627776) = true := decide_eq_true (by omega)
        have e2 : decide (0 < n + 1) = true := decide_eq_true (by omega)
        cases t <;> simp [Fm.normB_eq (.mk _ _ _ _ _ _), normsB_all, normN, Fm.kind, Fm.l, Fm.n, a1] <;> first | exact e1 | exact e2
end Go.Fo
/- Nnf; the sanity check. -/
namespace Go.Fo
open Go Go.Sx Go.Proofs
set_option maxRecDepth 100000
set_option maxHeartbeats 0

def Fm.nnf (f : Fm) : Fm := if f.checkI = 0 then f.right false else nil0
theorem nil0_d : nil0.d = .agg [.int .i64 0, .str [], .int .i64 0, .sl [], .sl [], .sl []] := by rw [nil0, Fm.d_mk]; rfl

theorem beq_refl (f : Fm) : f.beq f = true := by
  induction f using Fm.induct with
  | h f ih =>
  rw [beq_parts]
  refine ⟨rfl, rfl, rfl, rfl, rfl, ?_⟩
  have : ∀ l : List Fm, (∀ x ∈ l, x.beq x = true) → Fm.beqs l l = true := by
    intro l
    induction l with
    | nil => intro _; rw [Fm.beqs]
    | cons x r ihr => intro h; rw [Fm.beqs, h x (by simp), ihr fun y hy => h y (by simp [hy])]; rfl
  exact this f.l ih

/-- The weight of a normal form. -/
theorem turn_len (s : Nm) : (turnS s).length ≤ 2 := by unfold turnS; repeat (first | (split; · simp) | simp)
theorem right_wt (f : Fm) (hb : f.formB = true) : ∀ t, (f.right t).wt ≤ 3 * f.wt := by
  induction f using Fm.induct with
  | h f ih =>
  intro t
  have hs := formB_shape hb
  cases hs with
  | const k hk => rcases hk with rfl | rfl <;> cases t <;> simp [right_const1, right_const2, Fm.wt, Fm.wts, sumT, sumB]
  | atom k a b hk ha hb ha2 hb2 => rw [right_atom a b hk]; cases t <;> simp [Fm.wt, Fm.wts, sumT, sumB] <;> omega
  | cmp s a b hs ha hb =>
    have := turn_len s
    rw [right_cmp]; cases t <;> simp [Fm.wt, Fm.wts, sumT, sumB] <;> omega
  | not x hx => rw [right_not]; have := ih x (by simp [Fm.l]) hx (!t); simp [Fm.wt, Fm.wts, sumT, sumB] at this ⊢; omega
  | two k x y hk hx hy =>
    have h1 := ih x (by simp [Fm.l]) hx
    have h2 := ih y (by simp [Fm.l]) hy
    have a1 := h1 t; have a2 := h1 (!t); have b1 := h2 t
    rcases hk with rfl | rfl | rfl
    · rw [right_and]; simp [Fm.wt, Fm.wts, sumT, sumB] at *; omega
    · rw [right_or]; simp [Fm.wt, Fm.wts, sumT, sumB] at *; omega
    · rw [right_imp]; simp [Fm.wt, Fm.wts, sumT, sumB] at *; omega
  | quant k bs x hk hb h1 h6 hx =>
    have a1 := ih x (by simp [Fm.l]) hx t
    rcases hk with rfl | rfl
    · rw [right_all]; simp [Fm.wt, Fm.wts, sumT, sumB] at *; omega
    · rw [right_some]; simp [Fm.wt, Fm.wts, sumT, sumB] at *; omega
  | count k n bs x hk h0 hn hb h1 h6 hx =>
    have a1 := ih x (by simp [Fm.l]) hx false
    rcases hk with rfl | rfl
    · rw [right_least]; split <;> simp [Fm.wt, Fm.wts, sumT, sumB] at * <;> omega
    · rw [right_most]; split <;> simp [Fm.wt, Fm.wts, sumT, sumB] at * <;> omega
theorem nnf_wt (f : Fm) : f.nnf.wt ≤ 3 * f.wt + 1 := by
  unfold Fm.nnf
  split
  · rename_i h; have := right_wt f (checkI_form h) false; omega
  · have : nil0.wt = 1 := by decide
    omega

def vT (c : UInt8) : Tm := ⟨2, [c], 0⟩
def lvIn : Fm := .mk 4 [] 0 [vT 108, vT 114] [] []
def lvAt : Fm := .mk 3 [] 0 [vT 108, vT 115] [] []
def lvLeast : Fm := .mk 16 [] 2 [] [⟨[115], 2⟩] [lvAt]
def lvF : Fm := .mk 10 [] 0 [] [] [.mk 13 [] 0 [] [] [lvIn, lvLeast]]
def lvWant : Fm := .mk 11 [] 0 [] [] [lvIn, .mk 17 [] 1 [] [⟨[115], 2⟩] [lvAt]]
def lvBad : Fm := .mk 4 [] 0 [] [] []

theorem lv1 : lvF.checkI = 0 := by decide +kernel
theorem lv2 : lvF.nnf.beq lvWant = true := by decide +kernel
theorem lv3 : lvF.beq lvWant = false := by decide +kernel
theorem lv4 : lvF.look [] [] = [[108], [114]] := by decide +kernel
theorem lv5 : lvF.rank = 5 := by decide +kernel
theorem lv6 : lvF.depth = 4 := by decide +kernel
theorem lv7 : lvBad.checkI = 1 := by decide +kernel
theorem lv8 : nil0.checkI = 1 := by decide +kernel
theorem lv9 : lvF.wt < 100 := by decide +kernel
theorem lv10 : lvF.nnf.wt < 100 := by decide +kernel

section
variable {M : Maps}
theorem fn23 (hM : M.Ok) (f : Fm) (hf : f.wt < 1099511627776) : PFn Tryd.prog (GG M.on) 27 [f.d] (· = [f.nnf.d, .int .i64 f.checkI]) := by
  have h13 := fn13 hM.on f (by omega)
  have h38 := fn38 hM f
  rw [d_cells f] at h13 h38 ⊢
  refine PFn.walk (fn := Tryd.f27) (code := bodyOf Tryd.f27) mixed L0 Tryd.func27 (by kernel_rfl) ⟨_, rfl⟩ (ok0 (by kernel_rfl)) ?_
  apply @of_vc _ (
    PFn Tryd.prog (GG (Maps.on M)) (25 : Nat) [D.agg [D.int IntKind.i64 (Fm.kind f), D.str (Fm.name f), D.int IntKind.i64 (Fm.n f), D.sl (List.map Tm.d (Fm.ts f)), D.sl (List.map Bd.d (Fm.bs
    f)), D.sl (List.map Fm.d (Fm.l f))]] fun (rs : List D) => ∃ (n : Int), rs = [D.int IntKind.i64 n] ∧ ((n != (0 : Int)) = true → [D.agg [D.int IntKind.i64 (0 : Int), D.str (Array.toList
    (ByteArray.data (ByteArray.mk #[]))), D.int IntKind.i64 (0 : Int), D.sl [], D.sl [], D.sl []], D.int IntKind.i64 n] = [Fm.d (Fm.nnf f), D.int IntKind.i64 (Fm.checkI f)]) ∧ ((n != (0 :
    Int)) = false → PFn Tryd.prog (GG (Maps.on M)) (51 : Nat) [D.agg [D.int IntKind.i64 (Fm.kind f), D.str (Fm.name f), D.int IntKind.i64 (Fm.n f), D.sl (List.map Tm.d (Fm.ts f)), D.sl
    (List.map Bd.d (Fm.bs f)), D.sl (List.map Fm.d (Fm.l f))], D.bool false] fun (rs : List D) => ∃ (n : Int), ∃ (s : List UInt8), ∃ (n_1 : Int), ∃ (l : List D), ∃ (l_1 : List D), ∃ (l_2 :
    List D), rs = [D.agg [D.int IntKind.i64 n, D.str s, D.int IntKind.i64 n_1, D.sl l, D.sl l_1, D.sl l_2]] ∧ [D.agg [D.int IntKind.i64 n, D.str s, D.int IntKind.i64 n_1, D.sl l, D.sl l_1,
    D.sl l_2], D.int IntKind.i64 (0 : Int)] = [Fm.d (Fm.nnf f), D.int IntKind.i64 (Fm.checkI f)]))
  · kernel_rfl
  refine h13.mono ?_
  rintro rs rfl
  refine ⟨_, rfl, fun h => ?_, fun h => ?_⟩
  · have h' : ¬ f.checkI = 0 := by simpa using h
    rw [Fm.nnf, if_neg h', nil0_d]
  · have h' : f.checkI = 0 := by simpa using h
    refine (h38 (checkI_form h') false).mono ?_
    rintro rs rfl
    refine ⟨_, _, _, _, _, _, congrArg (fun z => [z]) (Fm.d_eq _), ?_⟩
    rw [← Fm.d_eq, Fm.nnf, if_pos h', h']
end
end Go.Fo
/- Types of formulas in plain terms: the model of chapter 08, and its laws. -/
namespace Go.Fo
open Go Go.Sx
set_option maxRecDepth 100000

abbrev En := List Bd
def hasE (e : En) (nm : Nm) : Bool := e.any fun b => b.name == nm
def sortE : En → Nm → Int
  | [], _ => 0
  | b :: r, nm => if b.name == nm then b.sort else sortE r nm
def envB (e : En) : Bool := e.all bindB && decide ((e.map (·.name)).Nodup)

def askK (k : Int) : Int := if k = 3 ∨ k = 4 then 2 else if k = 5 ∨ k = 6 then 3 else if k = 7 then 1 else 0
def giveK (k s : Int) : Int := if k = 3 then 6 else if k = 5 then 7 else if k = 4 ∨ k = 6 ∨ k = 7 then 8 else s
/-- The sort of a term, and the error. -/
def termS (e : En) (t : Tm) : Int × Int :=
  if t.kind = 1 then (8, 0) else if hasE e t.name = false then (0, 81)
  else if askK t.kind ≠ 0 ∧ sortE e t.name ≠ askK t.kind then (0, 80) else (giveK t.kind (sortE e t.name), 0)
def ofS (e : En) (t : Tm) (s : Int) : Int := if (termS e t).2 = 0 ∧ (termS e t).1 ≠ s then 80 else (termS e t).2
def cmpS (e : En) (op : Nm) (a b : Tm) : Int :=
  if (termS e a).2 ≠ 0 then (termS e a).2 else if (termS e b).2 ≠ 0 then (termS e b).2
  else if (termS e a).1 ≠ (termS e b).1 ∨ ¬ (op = [61] ∨ op = [33, 61]) ∧ (termS e a).1 ≠ 8 ∧ (termS e a).1 ≠ 2 ∧ (termS e a).1 ≠ 6 then 80 else 0
def askA (k : Int) : Int × Int :=
  if k = 3 then (1, 2) else if k = 4 then (1, 3) else if k = 5 then (4, 1) else if k = 6 then (5, 1) else if k = 7 then (4, 2) else (3, 2)
def atomS (e : En) (k : Int) (a b : Tm) : Int := if ofS e a (askA k).1 ≠ 0 then ofS e a (askA k).1 else ofS e b (askA k).2
def addE (e : En) : List Bd → Option En
  | [] => some e
  | b :: r => if hasE e b.name then none else addE (e ++ [b]) r
mutual
def Fm.ty : Fm → En → Int
  | .mk k op _ ts bs l, e =>
    if k = 9 then cmpS e op (tmAt ts 0) (tmAt ts 1)
    else if atomB k then atomS e k (tmAt ts 0) (tmAt ts 1)
    else match addE e bs with
      | none => 82
      | some e' => Fm.tys l e'
def Fm.tys : List Fm → En → Int
  | [], _ => 0
  | x :: r, e => if x.ty e ≠ 0 then x.ty e else Fm.tys r e
end
/-- The whole check of a formula. -/
def Fm.tyI (f : Fm) (e : En) : Int := if envB e = false then 1 else if f.checkI ≠ 0 then f.checkI else f.ty e

theorem Fm.ty_eq (f : Fm) (e : En) : f.ty e = if f.kind = 9 then cmpS e f.name (tmAt f.ts 0) (tmAt f.ts 1) else if atomB f.kind then atomS e f.kind (tmAt f.ts 0) (tmAt f.ts 1) else match addE e f.bs with
      | none => 82
      | some e' => Fm.tys f.l e' := by cases f; rw [Fm.ty]; rfl

theorem hasE_iff {e : En} {nm : Nm} : hasE e nm = true ↔ nm ∈ e.map (·.name) := by
  unfold hasE
  rw [List.any_eq_true, List.mem_map]
  constructor
  · rintro ⟨b, h1, h2⟩; exact ⟨b, h1, by simpa using h2⟩
  · rintro ⟨b, h1, h2⟩; exact ⟨b, h1, by simpa using h2⟩
theorem hasE_app (a b : En) (nm : Nm) : hasE (a ++ b) nm = (hasE a nm || hasE b nm) := by unfold hasE; rw [List.any_append]
theorem sortE_app (a b : En) (nm : Nm) : sortE (a ++ b) nm = if hasE a nm then sortE a nm else sortE b nm := by
  induction a with
  | nil => rfl
  | cons x r ih =>
    simp only [List.cons_append, sortE]
    by_cases h : (x.name == nm) = true
    · rw [if_pos h, if_pos h, if_pos]
      simp [hasE, h]
    · rw [if_neg h, if_neg h, ih]
      have h' : (x.name == nm) = false := by simpa using h
      have : hasE (x :: r) nm = hasE r nm := by simp only [hasE, List.any_cons, h', Bool.false_or]
      rw [this]
theorem sortE_none {e : En} {nm : Nm} (h : hasE e nm = false) : sortE e nm = 0 := by
  induction e with
  | nil => rfl
  | cons x r ih =>
    simp only [hasE, List.any_cons, Bool.or_eq_false_iff] at h
    simp only [sortE, h.1, Bool.false_eq_true, if_false]
    exact ih h.2

theorem addE_eq (bs : List Bd) : ∀ e : En, addE e bs = if (bs.all fun b => !hasE e b.name) && decide ((bs.map (·.name)).Nodup) then some (e ++ bs) else none := by
  induction bs with
  | nil => intro e; simp [addE]
  | cons b r ih =>
    intro e
    rw [addE]
    by_cases h : hasE e b.name = true
    · rw [if_pos h, if_neg]
      simp [h]
    · rw [if_neg h, ih]
      have h' : hasE e b.name = false := by simpa using h
      have hall : (r.all fun x => !hasE (e ++ [b]) x.name) = ((r.all fun x => !hasE e x.name) && decide (b.name ∉ r.map (·.name))) := by
        rw [Bool.eq_iff_iff]
        simp only [List.all_eq_true, Bool.and_eq_true, decide_eq_true_eq, List.mem_map, not_exists, not_and, hasE_app]
        constructor
        · intro hh
          refine ⟨fun x hx => ?_, fun x hx e2 => ?_⟩
          · have := hh x hx; simp only [Bool.not_eq_true', Bool.or_eq_false_iff] at this; simp [this.1]
          · have := hh x hx; simp [hasE, e2] at this
        · rintro ⟨h1, h2⟩ x hx
          have h3 := h1 x hx
          have h4 := h2 x hx
          simp only [Bool.not_eq_true'] at h3
          have h5 : (b.name == x.name) = false := by rw [beq_eq_false_iff_ne]; exact fun e => h4 e.symm
          rw [h3]
          simp only [hasE, List.any_cons, List.any_nil, h5]; rfl
      rw [hall]
      simp only [List.all_cons, h', Bool.not_false, Bool.true_and, List.map_cons, List.nodup_cons, Bool.decide_and, List.append_assoc, List.singleton_append]
      congr 1
      rw [Bool.and_assoc]

/-! Environments that agree on the names that occur. -/
mutual
def Fm.occ : Fm → List Nm
  | .mk _ _ _ ts bs l => ts.map (·.name) ++ bs.map (·.name) ++ Fm.occs l
def Fm.occs : List Fm → List Nm
  | [] => []
  | x :: r => x.occ ++ Fm.occs r
end
theorem Fm.occ_eq (f : Fm) : f.occ = f.ts.map (·.name) ++ f.bs.map (·.name) ++ Fm.occs f.l := by cases f; rw [Fm.occ]; rfl
theorem occs_mem {l : List Fm} {x : Fm} {nm : Nm} (h : x ∈ l) (h2 : nm ∈ x.occ) : nm ∈ Fm.occs l := by
  induction l with
  | nil => cases h
  | cons y r ih =>
    rw [Fm.occs, List.mem_append]
    rcases List.mem_cons.1 h with rfl | h
    · exact .inl h2
    · exact .inr (ih h)
def Like (ns : List Nm) (a b : En) : Prop := ∀ nm ∈ ns, hasE a nm = hasE b nm ∧ sortE a nm = sortE b nm
theorem Like.sub {ns ms : List Nm} {a b : En} (h : Like ns a b) (hs : ∀ x ∈ ms, x ∈ ns) : Like ms a b := fun nm hn => h nm (hs nm hn)
theorem Like.app {ns : List Nm} {a b : En} (h : Like ns a b) (c : En) : Like ns (a ++ c) (b ++ c) := fun nm hn => by
  obtain ⟨h1, h2⟩ := h nm hn
  rw [hasE_app, hasE_app, sortE_app, sortE_app, h1, h2]
  exact ⟨rfl, rfl⟩
theorem termS_like {a b : En} {t : Tm} (h : Like [t.name] a b) : termS a t = termS b t := by
  obtain ⟨h1, h2⟩ := h t.name (by simp)
  unfold termS
  rw [h1, h2]
theorem termS_num (a b : En) {t : Tm} (h : t.kind = 1) : termS a t = termS b t := by unfold termS; rw [if_pos h, if_pos h]
theorem tmAt_name {ts : List Tm} {ns : List Nm} (h : ∀ t ∈ ts, t.name ∈ ns) {a b : En} (hl : Like ns a b) {i : Nat} (hi : i < ts.length) : termS a (tmAt ts i) = termS b (tmAt ts i) := by
  unfold tmAt
  rw [List.getElem?_eq_getElem hi, Option.getD_some]
  exact termS_like (hl.sub (by intro x hx; simp at hx; subst hx; exact h _ (List.getElem_mem hi)))

theorem atom_ts {f : Fm} (hf : f.formB = true) (ha : atomB f.kind = true) : f.ts.length = 2 := by
  rw [f.formB_eq, Bool.and_eq_true] at hf
  have h := hf.1
  unfold nodeB at h
  rw [Bool.and_eq_true, Bool.and_eq_true] at h
  have h2 := h.1.2
  unfold termsB at h2
  rw [if_pos ha] at h2
  simp only [Bool.and_eq_true, decide_eq_true_eq] at h2
  exact h2.1.1.1

theorem ty_like (f : Fm) (hf : f.formB = true) : ∀ a b : En, Like f.occ a b → f.ty a = f.ty b := by
  induction f using Fm.induct with
  | h f ih =>
  intro a b hl
  rw [f.occ_eq] at hl
  have hlist : ∀ (l : List Fm), (∀ x ∈ l, x ∈ f.l) → l.all Fm.formB = true → ∀ a b : En, Like (Fm.occs f.l) a b → Fm.tys l a = Fm.tys l b := by
    intro l
    induction l with
    | nil => intro _ _ a b _; rw [Fm.tys, Fm.tys]
    | cons x r ihr =>
      intro hx hall a b hl
      simp only [List.all_cons, Bool.and_eq_true] at hall
      rw [Fm.tys, Fm.tys, ih x (hx x (by simp)) hall.1 a b (hl.sub fun nm hn => occs_mem (hx x (by simp)) hn), ihr (fun y hy => hx y (by simp [hy])) hall.2 a b hl]
  have hall : f.l.all Fm.formB = true := by
    rw [f.formB_eq, formsB_all, Bool.and_eq_true] at hf; exact hf.2
  have hterms : ∀ t ∈ f.ts, t.name ∈ f.ts.map (·.name) ++ f.bs.map (·.name) ++ Fm.occs f.l := fun t ht => by simp only [List.mem_append, List.mem_map]; exact .inl (.inl ⟨t, ht, rfl⟩)
  rw [f.ty_eq, f.ty_eq]
  have hadd : addE a f.bs = none ∧ addE b f.bs = none ∨ addE a f.bs = some (a ++ f.bs) ∧ addE b f.bs = some (b ++ f.bs) := by
    rw [addE_eq, addE_eq]
    have : (f.bs.all fun x => !hasE a x.name) = (f.bs.all fun x => !hasE b x.name) := by
      rw [Bool.eq_iff_iff]
      simp only [List.all_eq_true]
      constructor <;> intro h x hx <;> have h2 := h x hx <;> have h3 := (hl x.name (by simp only [List.mem_append, List.mem_map]; exact .inl (.inr ⟨x, hx, rfl⟩))).1
      · rw [← h3]; exact h2
      · rw [h3]; exact h2
    rw [this]
    split
    · exact .inr ⟨rfl, rfl⟩
    · exact .inl ⟨rfl, rfl⟩
  by_cases h9 : f.kind = 9
  · rw [if_pos h9, if_pos h9]
    have h2 : f.ts.length = 2 := atom_ts hf (by rw [h9]; rfl)
    unfold cmpS
    rw [tmAt_name hterms hl (by omega), tmAt_name hterms hl (by omega)]
  · rw [if_neg h9, if_neg h9]
    by_cases ha : atomB f.kind = true
    · rw [if_pos ha, if_pos ha]
      have h2 : f.ts.length = 2 := atom_ts hf ha
      unfold atomS ofS
      rw [tmAt_name hterms hl (by omega), tmAt_name hterms hl (by omega)]
    · rw [if_neg ha, if_neg ha]
      rcases hadd with ⟨e1, e2⟩ | ⟨e1, e2⟩
      · rw [e1, e2]
      · rw [e1, e2]
        exact hlist f.l (fun _ h => h) hall _ _ ((hl.sub fun nm hn => by simp only [List.mem_append]; exact .inr hn).app _)
end Go.Fo
/- Types of formulas: weakening, removal, negation normal forms, rules. -/
namespace Go.Fo
open Go Go.Sx
set_option maxRecDepth 100000

theorem envB_iff {e : En} : envB e = true ↔ (∀ b ∈ e, bindB b = true) ∧ (e.map (·.name)).Nodup := by
  unfold envB; rw [Bool.and_eq_true, List.all_eq_true, decide_eq_true_eq]
theorem hasE_false {e : En} {nm : Nm} : hasE e nm = false ↔ nm ∉ e.map (·.name) := by
  rw [← hasE_iff]; simp
theorem envB_snoc {e : En} {b : Bd} (hb : bindB b = true) (hn : hasE e b.name = false) : envB (e ++ [b]) = envB e := by
  rw [Bool.eq_iff_iff, envB_iff, envB_iff]
  rw [hasE_false] at hn
  constructor
  · rintro ⟨h1, h2⟩
    refine ⟨fun x hx => h1 x (by simp [hx]), ?_⟩
    rw [List.map_append, List.nodup_append] at h2
    exact h2.1
  · rintro ⟨h1, h2⟩
    refine ⟨fun x hx => ?_, ?_⟩
    · rcases List.mem_append.1 hx with h | h
      · exact h1 x h
      · simp at h; subst h; exact hb
    · rw [List.map_append, List.nodup_append]
      refine ⟨h2, by simp, ?_⟩
      intro a ha c hc
      simp at hc; subst hc
      rintro rfl; exact hn ha
theorem envB_back {e : En} {b : Bd} (hb : bindB b = true) (hn : hasE e b.name = false) : envB (b :: e.reverse) = envB e := by
  rw [Bool.eq_iff_iff, envB_iff, envB_iff]
  rw [hasE_false] at hn
  simp only [List.map_cons, List.map_reverse, List.nodup_cons, List.mem_reverse, List.mem_cons]
  rw [List.Nodup, List.pairwise_reverse]
  constructor
  · rintro ⟨h1, _, h2⟩
    exact ⟨fun x hx => h1 x (.inr hx), h2.imp fun h => h.symm⟩
  · rintro ⟨h1, h2⟩
    refine ⟨fun x hx => ?_, hn, h2.imp fun h => h.symm⟩
    rcases hx with rfl | hx
    · exact hb
    · exact h1 x hx
theorem hasE_rev (e : En) (nm : Nm) : hasE e.reverse nm = hasE e nm := by unfold hasE; rw [List.any_reverse]
theorem sortE_mem {e : En} (hn : (e.map (·.name)).Nodup) {b : Bd} (h : b ∈ e) : sortE e b.name = b.sort := by
  induction e with
  | nil => cases h
  | cons x r ih =>
    rw [List.map_cons, List.nodup_cons] at hn
    rcases List.mem_cons.1 h with rfl | h
    · simp [sortE]
    · have : ¬ (x.name == b.name) = true := by
        intro e
        have e' : x.name = b.name := by simpa using e
        exact hn.1 (by rw [e', List.mem_map]; exact ⟨b, h, rfl⟩)
      simp only [sortE, if_neg this]
      exact ih hn.2 h
theorem sortE_rev {e : En} (hn : (e.map (·.name)).Nodup) (nm : Nm) : sortE e.reverse nm = sortE e nm := by
  cases h : hasE e nm with
  | false => rw [sortE_none h, sortE_none (by rw [hasE_rev]; exact h)]
  | true =>
    obtain ⟨b, hb, rfl⟩ := List.mem_map.1 (hasE_iff.1 h)
    rw [sortE_mem hn hb, sortE_mem (by rw [List.map_reverse, List.Nodup, List.pairwise_reverse]; exact hn.imp fun h => h.symm) (by simpa using hb)]

theorem like_snoc {ns : List Nm} {e : En} {b : Bd} (h : b.name ∉ ns) : Like ns (e ++ [b]) e := fun nm hn => by
  have hne : (b.name == nm) = false := by rw [beq_eq_false_iff_ne]; rintro rfl; exact h hn
  have h1 : hasE [b] nm = false := by simp only [hasE, List.any_cons, List.any_nil, hne]; rfl
  rw [hasE_app, sortE_app, h1, Bool.or_false]
  refine ⟨rfl, ?_⟩
  cases he : hasE e nm with
  | true => simp
  | false => rw [if_neg (by simp), sortE_none h1, sortE_none he]
theorem like_back {ns : List Nm} {e : En} {b : Bd} (h : b.name ∉ ns) (hn : (e.map (·.name)).Nodup) : Like ns (b :: e.reverse) e := fun nm hm => by
  have hne : (b.name == nm) = false := by rw [beq_eq_false_iff_ne]; rintro rfl; exact h hm
  have h1 : hasE (b :: e.reverse) nm = hasE e.reverse nm := by simp only [hasE, List.any_cons, hne, Bool.false_or]
  have h2 : sortE (b :: e.reverse) nm = sortE e.reverse nm := by simp only [sortE, hne, Bool.false_eq_true, if_false]
  rw [h1, h2, hasE_rev, sortE_rev hn]
  exact ⟨rfl, rfl⟩

theorem tyI_like {f : Fm} {a b : En} (he : envB a = envB b) (h : envB b = true → Like f.occ a b) : f.tyI a = f.tyI b := by
  unfold Fm.tyI
  rw [he]
  cases hb : envB b with
  | false => simp
  | true =>
    by_cases hc : f.checkI = 0
    · rw [ty_like f (checkI_form hc) a b (h hb)]
    · simp [hc]
theorem tyI_snoc {f : Fm} {e : En} {b : Bd} (hb : bindB b = true) (hn : hasE e b.name = false) (ho : b.name ∉ f.occ) : f.tyI (e ++ [b]) = f.tyI e :=
  tyI_like (envB_snoc hb hn) fun _ => like_snoc ho
theorem tyI_back {f : Fm} {e : En} {b : Bd} (hb : bindB b = true) (hn : hasE e b.name = false) (ho : b.name ∉ f.occ) : f.tyI (b :: e.reverse) = f.tyI e :=
  tyI_like (envB_back hb hn) fun h => like_back ho (envB_iff.1 h).2

/-! Taking bindings away. -/
def cutE (e : En) (p : Nm → Bool) : En := e.filter fun b => p b.name
theorem hasE_cut (e : En) (p : Nm → Bool) (nm : Nm) : hasE (cutE e p) nm = (hasE e nm && p nm) := by
  rw [Bool.eq_iff_iff, Bool.and_eq_true, hasE_iff, hasE_iff]
  simp only [cutE, List.mem_map, List.mem_filter]
  constructor
  · rintro ⟨b, ⟨h1, h2⟩, rfl⟩; exact ⟨⟨b, h1, rfl⟩, h2⟩
  · rintro ⟨⟨b, h1, rfl⟩, h2⟩; exact ⟨b, ⟨h1, h2⟩, rfl⟩
theorem sortE_cut (e : En) (p : Nm → Bool) {nm : Nm} (h : p nm = true) : sortE (cutE e p) nm = sortE e nm := by
  induction e with
  | nil => rfl
  | cons x r ih =>
    unfold cutE at ih ⊢
    rw [List.filter_cons]
    by_cases hx : (x.name == nm) = true
    · have : x.name = nm := by simpa using hx
      rw [if_pos (by rw [this]; exact h)]
      simp only [sortE, if_pos hx]
    · simp only [sortE, if_neg hx]
      split
      · simp only [sortE, if_neg hx]; exact ih
      · exact ih
theorem envB_cut {e : En} (p : Nm → Bool) (h : envB e = true) : envB (cutE e p) = true := by
  rw [envB_iff] at h ⊢
  refine ⟨fun b hb => h.1 b (List.mem_filter.1 hb).1, ?_⟩
  exact h.2.sublist (List.Sublist.map _ (List.filter_sublist))
def tmOk (p : Nm → Bool) (t : Tm) : Bool := t.kind == 1 || p t.name
theorem termS_cut {e : En} {p : Nm → Bool} {t : Tm} : (termS e t).2 = 0 → termS (cutE e p) t = if tmOk p t then termS e t else (0, 81) := by
  intro h
  unfold tmOk
  by_cases hk : t.kind = 1
  · unfold termS; simp [hk]
  · have hk' : (t.kind == 1) = false := by simpa using hk
    rw [hk', Bool.false_or]
    have hh : hasE e t.name = true := by
      cases h2 : hasE e t.name with
      | true => rfl
      | false => unfold termS at h; rw [if_neg hk, if_pos h2] at h; cases h
    cases hp : p t.name with
    | true =>
      simp only [if_true]
      unfold termS
      rw [hasE_cut, hp, Bool.and_true, sortE_cut e p hp]
    | false =>
      unfold termS
      rw [if_neg hk, hasE_cut, hp, Bool.and_false]
      simp

theorem tsN_two (a b : Tm) (p : Nm → Bool) : (tsN [a, b]).all p = (tmOk p a && tmOk p b) := by
  unfold tsN tmOk
  simp only [List.filter_cons, List.filter_nil]
  cases ha : a.kind == 1 <;> cases hb : b.kind == 1 <;> simp [bne, ha, hb]
theorem free_all (f : Fm) (p : Nm → Bool) : f.free.all p = ((tsN f.ts).all (fun x => p x || hasE f.bs x) && f.l.all fun y => y.free.all fun x => p x || hasE f.bs x) := by
  rw [Bool.eq_iff_iff]
  simp only [List.all_eq_true, Bool.and_eq_true, Bool.or_eq_true]
  constructor
  · intro h
    refine ⟨fun x hx => ?_, fun y hy x hx => ?_⟩
    · by_cases hb : hasE f.bs x = true
      · exact .inr hb
      · exact .inl (h x ((free_mem f).2 ⟨.inl hx, fun hm => hb (hasE_iff.2 hm)⟩))
    · by_cases hb : hasE f.bs x = true
      · exact .inr hb
      · exact .inl (h x ((free_mem f).2 ⟨.inr ⟨y, hy, hx⟩, fun hm => hb (hasE_iff.2 hm)⟩))
  · rintro ⟨h1, h2⟩ x hx
    obtain ⟨h3, h4⟩ := (free_mem f).1 hx
    rcases h3 with h3 | ⟨y, hy, h3⟩
    · rcases h1 x h3 with h | h
      · exact h
      · exact absurd (hasE_iff.1 h) h4
    · rcases h2 y hy x h3 with h | h
      · exact h
      · exact absurd (hasE_iff.1 h) h4

theorem atom_pair {f : Fm} (hf : f.formB = true) (ha : atomB f.kind = true) : f.bs = [] ∧ f.l = [] ∧ ∃ a b, f.ts = [a, b] := by
  have h2 := atom_ts hf ha
  obtain ⟨a, b, h3⟩ := len2 h2
  have hs := formB_shape hf
  refine ⟨?_, ?_, a, b, h3⟩
  · cases hs <;> first | rfl | (simp [Fm.ts] at h2)
  · cases hs <;> first | rfl | (simp [Fm.ts] at h2)
theorem noatom_ts {f : Fm} (hf : f.formB = true) (ha : ¬ atomB f.kind = true) : f.ts = [] := by
  rw [f.formB_eq, Bool.and_eq_true] at hf
  have h := hf.1
  unfold nodeB at h
  rw [Bool.and_eq_true, Bool.and_eq_true] at h
  have h2 := h.1.2
  unfold termsB at h2
  rw [if_neg ha] at h2
  simp only [Bool.and_eq_true, List.isEmpty_iff] at h2
  exact h2.1

theorem cmpS_cut {e : En} {p : Nm → Bool} {op : Nm} {a b : Tm} (h : cmpS e op a b = 0) : cmpS (cutE e p) op a b = if tmOk p a && tmOk p b then 0 else 81 := by
  have ha : (termS e a).2 = 0 := by
    rcases Classical.em ((termS e a).2 = 0) with h1 | h1
    · exact h1
    · unfold cmpS at h; rw [if_pos h1] at h; exact absurd h h1
  have hb : (termS e b).2 = 0 := by
    rcases Classical.em ((termS e b).2 = 0) with h1 | h1
    · exact h1
    · unfold cmpS at h; rw [if_neg (by simp [ha]), if_pos h1] at h; exact absurd h h1
  cases pa : tmOk p a with
  | false => unfold cmpS; rw [termS_cut ha, pa]; simp
  | true =>
    cases pb : tmOk p b with
    | false =>
      have e1 : termS (cutE e p) a = termS e a := by rw [termS_cut ha, pa]; rfl
      have e2 : termS (cutE e p) b = (0, 81) := by rw [termS_cut hb, pb]; rfl
      unfold cmpS
      rw [e1, e2, if_neg (by simp [ha])]
      simp
    | true =>
      have e1 : termS (cutE e p) a = termS e a := by rw [termS_cut ha, pa]; rfl
      have e2 : termS (cutE e p) b = termS e b := by rw [termS_cut hb, pb]; rfl
      unfold cmpS at h ⊢
      rw [e1, e2]
      exact h
theorem ofS_cut {e : En} {p : Nm → Bool} {a : Tm} {s : Int} (h : ofS e a s = 0) : ofS (cutE e p) a s = if tmOk p a then 0 else 81 := by
  have ha : (termS e a).2 = 0 := by
    rcases Classical.em ((termS e a).2 = 0) with h1 | h1
    · exact h1
    · unfold ofS at h; rw [if_neg (fun h2 => h1 h2.1)] at h; exact h
  unfold ofS at h ⊢
  rw [termS_cut ha]
  cases pa : tmOk p a with
  | false => simp
  | true => simpa using h
theorem atomS_cut {e : En} {p : Nm → Bool} {k : Int} {a b : Tm} (h : atomS e k a b = 0) : atomS (cutE e p) k a b = if tmOk p a && tmOk p b then 0 else 81 := by
  unfold atomS at h ⊢
  have ha : ofS e a (askA k).1 = 0 := by
    rcases Classical.em (ofS e a (askA k).1 = 0) with h1 | h1
    · exact h1
    · rw [if_pos h1] at h; exact absurd h h1
  rw [if_neg (by simp [ha])] at h
  rw [ofS_cut ha, ofS_cut h]
  cases tmOk p a <;> cases tmOk p b <;> simp

theorem tys_zero {l : List Fm} {e : En} : Fm.tys l e = 0 ↔ ∀ x ∈ l, x.ty e = 0 := by
  induction l with
  | nil => simp [Fm.tys]
  | cons x r ih =>
    rw [Fm.tys]
    by_cases h : x.ty e = 0
    · rw [if_neg (by simp [h]), ih]; simp [h]
    · rw [if_pos h]; simp [h]

theorem addE_some {e e' : En} {bs : List Bd} (h : addE e bs = some e') : e' = e ++ bs ∧ (∀ b ∈ bs, hasE e b.name = false) ∧ (bs.map (·.name)).Nodup := by
  rw [addE_eq] at h
  split at h
  · rename_i hc
    cases h
    simp only [Bool.and_eq_true, List.all_eq_true, decide_eq_true_eq] at hc
    exact ⟨rfl, fun b hb => by simpa using hc.1 b hb, hc.2⟩
  · cases h
theorem addE_cut {e : En} {bs : List Bd} (p : Nm → Bool) (h1 : ∀ b ∈ bs, hasE e b.name = false) (h2 : (bs.map (·.name)).Nodup) : addE (cutE e p) bs = some (cutE (e ++ bs) fun x => p x || hasE bs x) := by
  rw [addE_eq, if_pos]
  · congr 1
    unfold cutE
    rw [List.filter_append]
    congr 1
    · apply List.filter_congr
      intro b hb
      have : hasE bs b.name = false := by
        rw [hasE_false]
        intro hm
        obtain ⟨c, hc, e2⟩ := List.mem_map.1 hm
        have := h1 c hc
        rw [hasE_false] at this
        exact this (by rw [e2, List.mem_map]; exact ⟨b, hb, rfl⟩)
      show p b.name = (p b.name || hasE bs b.name)
      rw [this, Bool.or_false]
    · rw [List.filter_eq_self.2]
      intro b hb
      have : hasE bs b.name = true := hasE_iff.2 (List.mem_map.2 ⟨b, hb, rfl⟩)
      show (p b.name || hasE bs b.name) = true
      rw [this, Bool.or_true]
  · simp only [Bool.and_eq_true, List.all_eq_true, decide_eq_true_eq]
    refine ⟨fun b hb => ?_, h2⟩
    rw [hasE_cut, h1 b hb]; rfl

/-- A formula of good types, of whose bindings some are taken away. -/
theorem ty_cut (f : Fm) (hf : f.formB = true) : ∀ (e : En) (p : Nm → Bool), f.ty e = 0 → f.ty (cutE e p) = if f.free.all p then 0 else 81 := by
  induction f using Fm.induct with
  | h f ih =>
  intro e p h
  have hall : ∀ x ∈ f.l, x.formB = true := by
    rw [f.formB_eq, formsB_all, Bool.and_eq_true] at hf; exact List.all_eq_true.1 hf.2
  rw [f.ty_eq] at h ⊢
  rw [free_all]
  by_cases ha : atomB f.kind = true
  · obtain ⟨e1, e2, a, b, e3⟩ := atom_pair hf ha
    have eb : ∀ x, (p x || hasE f.bs x) = p x := fun x => by rw [e1]; simp [hasE]
    simp only [eb]
    rw [e2, List.all_nil, Bool.and_true, e3, tsN_two]
    rw [e3] at h
    by_cases h9 : f.kind = 9
    · rw [if_pos h9] at h ⊢
      exact cmpS_cut h
    · rw [if_neg h9, if_pos ha] at h ⊢
      exact atomS_cut h
  · have h9 : ¬ f.kind = 9 := fun e => ha (by rw [e]; rfl)
    rw [if_neg h9, if_neg ha] at h ⊢
    rw [noatom_ts hf ha]
    have e0 : (tsN []).all (fun x => p x || hasE f.bs x) = true := rfl
    rw [e0, Bool.true_and]
    cases he : addE e f.bs with
    | none => rw [he] at h; cases h
    | some e' =>
      rw [he] at h
      obtain ⟨rfl, h1, h2⟩ := addE_some he
      rw [addE_cut p h1 h2]
      have h' : ∀ x ∈ f.l, x.ty (e ++ f.bs) = 0 := tys_zero.1 h
      have key : ∀ l : List Fm, (∀ x ∈ l, x ∈ f.l) → Fm.tys l (cutE (e ++ f.bs) fun x => p x || hasE f.bs x) = if (l.all fun y => y.free.all fun x => p x || hasE f.bs x) then 0 else 81 := by
        intro l
        induction l with
        | nil => intro _; simp [Fm.tys]
        | cons y r ihr =>
          intro hx
          rw [Fm.tys, ih y (hx y (by simp)) (hall y (hx y (by simp))) _ _ (h' y (hx y (by simp))), ihr fun z hz => hx z (by simp [hz])]
          rw [List.all_cons]
          cases y.free.all fun x => p x || hasE f.bs x <;> simp
      exact key f.l fun _ h => h

theorem ty_free {f : Fm} (hf : f.formB = true) {e : En} (h : f.ty e = 0) {x : Nm} (hx : x ∈ f.free) : hasE e x = true := by
  have h1 := ty_cut f hf e (hasE e) h
  have h2 : cutE e (hasE e) = e := by
    unfold cutE
    rw [List.filter_eq_self.2]
    intro b hb
    exact hasE_iff.2 (List.mem_map.2 ⟨b, hb, rfl⟩)
  rw [h2, h] at h1
  split at h1
  · rename_i h3; exact List.all_eq_true.1 h3 x hx
  · cases h1

/-! The normal form keeps the types. -/
theorem cmpS_turn {e : En} {op : Nm} {a b : Tm} (hs : signB op = true) (h : cmpS e op a b = 0) : cmpS e (turnS op) a b = 0 := by
  unfold signB at hs
  simp only [Bool.or_eq_true, beq_iff_eq] at hs
  unfold cmpS at h ⊢
  rcases hs with ((((hs | hs) | hs) | hs) | hs) | hs <;> subst hs <;> simp [turnS] at h ⊢ <;> exact h
theorem tys_one (x : Fm) (e : En) : Fm.tys [x] e = x.ty e := by
  rw [Fm.tys, Fm.tys]
  by_cases h : x.ty e = 0
  · simp [h]
  · simp [h]
theorem tys_two (x y : Fm) (e : En) : Fm.tys [x, y] e = if x.ty e ≠ 0 then x.ty e else y.ty e := by rw [Fm.tys, tys_one]
theorem ty_two (k : Int) (hk : k = 11 ∨ k = 12 ∨ k = 13) (x y : Fm) (e : En) : (Fm.mk k [] 0 [] [] [x, y]).ty e = if x.ty e ≠ 0 then x.ty e else y.ty e := by
  rcases hk with rfl | rfl | rfl <;> rw [Fm.ty, ← tys_two] <;> simp [atomB, addE]
theorem ty_quant (k n : Int) (hk : k = 14 ∨ k = 15 ∨ k = 16 ∨ k = 17) (bs : List Bd) (x : Fm) (e : En) : (Fm.mk k [] n [] bs [x]).ty e = match addE e bs with
    | none => 82
    | some e' => x.ty e' := by
  rcases hk with rfl | rfl | rfl | rfl <;> rw [Fm.ty] <;> simp [atomB, tys_one] <;> cases addE e bs <;> rfl
theorem ty_not (x : Fm) (e : En) : (Fm.mk 10 [] 0 [] [] [x]).ty e = x.ty e := by
  rw [Fm.ty]; simp [atomB, addE, tys_one]
theorem ty_const (k : Int) (hk : k = 1 ∨ k = 2) (e : En) : (Fm.mk k [] 0 [] [] []).ty e = 0 := by
  rcases hk with rfl | rfl <;> rw [Fm.ty] <;> simp [atomB, addE, Fm.tys]
theorem right_ty (f : Fm) (hf : f.formB = true) : ∀ (t : Bool) (e : En), f.ty e = 0 → (f.right t).ty e = 0 := by
  induction f using Fm.induct with
  | h f ih =>
  intro t e h
  have hs := formB_shape hf
  cases hs with
  | const k hk => rcases hk with rfl | rfl <;> cases t <;> simp [right_const1, right_const2] <;> exact ty_const _ (by simp) _
  | atom k a b hk ha hb ha2 hb2 =>
    rw [right_atom a b hk]
    cases t
    · exact h
    · simp only [if_true]; rw [ty_not]; exact h
  | cmp s a b hs ha hb =>
    rw [right_cmp]
    cases t
    · exact h
    · rw [Fm.ty] at h ⊢
      simp only [if_true] at h ⊢
      exact cmpS_turn hs h
  | not x hx => rw [right_not]; rw [ty_not] at h; exact ih x (by simp [Fm.l]) hx (!t) e h
  | two k x y hk hx hy =>
    rw [ty_two k hk] at h
    have h1 : x.ty e = 0 := by
      rcases Classical.em (x.ty e = 0) with h1 | h1
      · exact h1
      · rw [if_pos h1] at h; exact h
    rw [if_neg (by simp [h1])] at h
    have a1 := fun t => ih x (by simp [Fm.l]) hx t e h1
    have a2 := fun t => ih y (by simp [Fm.l]) hy t e h
    rcases hk with rfl | rfl | rfl
    · rw [right_and, ty_two _ (by cases t <;> simp), if_neg (by simp [a1])]; exact a2 _
    · rw [right_or, ty_two _ (by cases t <;> simp), if_neg (by simp [a1])]; exact a2 _
    · rw [right_imp, ty_two _ (by cases t <;> simp), if_neg (by simp [a1])]; exact a2 _
  | quant k bs x hk hb h1 h6 hx =>
    rw [ty_quant k 0 (by omega)] at h
    have a1 := fun e' => ih x (by simp [Fm.l]) hx t e'
    rcases hk with rfl | rfl
    · rw [right_all, ty_quant _ 0 (by cases t <;> simp)]
      cases he : addE e bs with
      | none => rw [he] at h; exact h
      | some e' => rw [he] at h; exact a1 _ h
    · rw [right_some, ty_quant _ 0 (by cases t <;> simp)]
      cases he : addE e bs with
      | none => rw [he] at h; exact h
      | some e' => rw [he] at h; exact a1 _ h
  | count k n bs x hk h0 hn hb h1 h6 hx =>
    rw [ty_quant k n (by omega)] at h
    have a1 := fun e' => ih x (by simp [Fm.l]) hx false e'
    rcases hk with rfl | rfl
    · rw [right_least]
      split
      · exact ty_const _ (by cases t <;> simp) _
      · rw [ty_quant _ _ (by cases t <;> simp)]
        cases he : addE e bs with
        | none => rw [he] at h; exact h
        | some e' => rw [he] at h; exact a1 _ h
    · rw [right_most]
      split
      · exact ty_const _ (by cases t <;> simp) _
      · rw [ty_quant _ _ (by cases t <;> simp)]
        cases he : addE e bs with
        | none => rw [he] at h; exact h
        | some e' => rw [he] at h; exact a1 _ h

/-! Rules -/
structure Ru where
  name : Nm
  hard : Bool
  weight : Int
  each : List Bd
  body : Fm
def Ru.d (r : Ru) : D := .agg [.str r.name, .bool r.hard, .int .i64 r.weight, .sl (r.each.map Bd.d), .int .i64 r.body.kind, .str r.body.name, .int .i64 r.body.n, .sl (r.body.ts.map Tm.d), .sl (r.body.bs.map Bd.d), .sl (r.body.l.map Fm.d)]
def weighB (r : Ru) : Bool := if r.hard then r.weight == 0 else decide (1 ≤ r.weight) && decide (r.weight ≤ 1000)
def Ru.tyI (r : Ru) : Int :=
  if (nameB r.name && weighB r && decide (r.each.length ≤ 6) && r.each.all bindB) = false then 1
  else if r.body.checkI ≠ 0 then r.body.checkI
  else if (r.each.map (·.name)).Nodup then r.body.ty r.each else 82
/-- The first bad rule: its place, the error. -/
def rulesT : List Nm → Nat → List Ru → Int × Int
  | _, _, [] => (0, 0)
  | seen, i, r :: l => if r.tyI ≠ 0 then ((i : Int), r.tyI) else if seen.contains r.name then ((i : Int), 82) else rulesT (seen ++ [r.name]) (i + 1) l
def rulesI (l : List Ru) : Int × Int := rulesT [] 0 l
end Go.Fo
/- Environments: looking a name up, being valid. -/
namespace Go.Fo
open Go Go.Sx Go.Proofs
set_option maxRecDepth 100000
set_option maxHeartbeats 0

theorem _root_.Go.Sx.PFn.use {P : Program} {G : Nat → Option (List D)} {f : FuncId} {ds rs : List D} {Q : List D → Prop} (h : PFn P G f ds (· = rs)) (k : Q rs) : PFn P G f ds Q := h.mono (by rintro _ rfl; exact k)

def findN : En → Nm → Option Nat
  | [], _ => none
  | b :: r, nm => if b.name == nm then some 0 else (findN r nm).map (· + 1)
def findI (e : En) (nm : Nm) : Int := match findN e nm with
  | some i => (i : Int)
  | none => -1
theorem find_hit {nm : Nm} {z : Bd} : ∀ {e : En} {i : Nat}, e[i]? = some z → hasE (e.take i) nm = false → (z.name == nm) = true → findN e nm = some i
  | [], _, h, _, _ => by simp at h
  | b :: r, 0, h, _, h1 => by simp at h; subst h; simp only [findN, h1, if_true]
  | b :: r, i + 1, h, h0, h1 => by
    simp only [List.take_succ_cons, hasE, List.any_cons, Bool.or_eq_false_iff] at h0
    simp only [findN, h0.1, Bool.false_eq_true, if_false]
    rw [find_hit (i := i) (by simpa using h) h0.2 h1]; rfl
theorem find_none {nm : Nm} : ∀ {e : En}, hasE e nm = false → findN e nm = none
  | [], _ => rfl
  | b :: r, h => by
    simp only [hasE, List.any_cons, Bool.or_eq_false_iff] at h
    simp only [findN, h.1, Bool.false_eq_true, if_false]
    rw [find_none h.2]; rfl
theorem find_some {nm : Nm} : ∀ {e : En}, hasE e nm = true → ∃ i z, findN e nm = some i ∧ e[i]? = some z ∧ z.sort = sortE e nm
  | [], h => by cases h
  | b :: r, h => by
    by_cases hb : (b.name == nm) = true
    · exact ⟨0, b, by simp only [findN, hb, if_true], rfl, by simp only [sortE, hb, if_true]⟩
    · have h' : hasE r nm = true := by
        simp only [hasE, List.any_cons, Bool.or_eq_true] at h
        exact h.resolve_left hb
      obtain ⟨i, z, h1, h2, h3⟩ := find_some h'
      exact ⟨i + 1, z, by simp only [findN, if_neg hb, h1]; rfl, by simpa using h2, by simp only [sortE, if_neg hb]; exact h3⟩
theorem find_lt {nm : Nm} : ∀ {e : En} {i : Nat}, hasE (e.take i) nm = true → ∃ j, j < i ∧ findN e nm = some j
  | [], i, h => by simp [hasE] at h
  | b :: r, 0, h => by simp [hasE] at h
  | b :: r, i + 1, h => by
    by_cases hb : (b.name == nm) = true
    · exact ⟨0, by omega, by simp only [findN, hb, if_true]⟩
    · have h' : hasE (r.take i) nm = true := by
        simp only [List.take_succ_cons, hasE, List.any_cons, Bool.or_eq_true] at h
        exact h.resolve_left hb
      obtain ⟨j, h1, h2⟩ := find_lt h'
      exact ⟨j + 1, by omega, by simp only [findN, if_neg hb, h2]; rfl⟩
theorem findI_neg (e : En) (nm : Nm) : decide (findI e nm < 0) = !hasE e nm := by
  cases h : hasE e nm with
  | false => unfold findI; rw [find_none h]; rfl
  | true => obtain ⟨i, z, h1, _, _⟩ := find_some h; unfold findI; rw [h1]; simp
theorem findI_ge (e : En) (nm : Nm) : decide (findI e nm ≥ 0) = hasE e nm := by
  cases h : hasE e nm with
  | false => unfold findI; rw [find_none h]; rfl
  | true => obtain ⟨i, z, h1, _, _⟩ := find_some h; unfold findI; rw [h1]; simp
theorem findI_ne {e : En} {i : Nat} {z : Bd} (h : e[i]? = some z) : (findI e z.name != (i : Int)) = hasE (e.take i) z.name := by
  cases h0 : hasE (e.take i) z.name with
  | false => unfold findI; rw [find_hit h h0 (by simp)]; simp
  | true =>
    obtain ⟨j, h1, h2⟩ := find_lt h0
    unfold findI; rw [h2]
    simp only [bne_iff_ne, ne_eq]; omega

theorem envB_app (e : En) (b : Bd) : envB (e ++ [b]) = (envB e && bindB b && !hasE e b.name) := by
  by_cases h1 : bindB b = true
  · by_cases h2 : hasE e b.name = true
    · rw [h1, h2, Bool.and_true, Bool.not_true, Bool.and_false]
      cases h3 : envB (e ++ [b]) with
      | false => rfl
      | true =>
        have h4 := (envB_iff.1 h3).2
        rw [List.map_append, List.nodup_append] at h4
        exact absurd rfl (h4.2.2 _ (hasE_iff.1 h2) b.name (by simp))
    · have h2' : hasE e b.name = false := by simpa using h2
      rw [envB_snoc h1 h2', h1, h2']; simp
  · have h1' : bindB b = false := by simpa using h1
    rw [h1', Bool.and_false, Bool.false_and]
    cases h3 : envB (e ++ [b]) with
    | false => rfl
    | true => exact absurd ((envB_iff.1 h3).1 b (by simp)) h1
theorem envB_take {e : En} (h : envB e = true) (i : Nat) : envB (e.take i) = true := by
  rw [envB_iff] at h ⊢
  exact ⟨fun b hb => h.1 b (List.mem_of_mem_take hb), h.2.sublist (List.Sublist.map _ (List.take_sublist _ _))⟩
theorem envB_take_succ {e : En} {i : Nat} {z : Bd} (h : e[i]? = some z) : envB (e.take (i + 1)) = (envB (e.take i) && bindB z && !hasE (e.take i) z.name) := by
  rw [List.take_add_one, h, ← envB_app]; rfl
def ewt (e : En) : Nat := e.length + sumB e

def hNm (nm : Nm) : List Box := [.cells 9 [.d (.str nm)]]
section
variable {G : Nat → Option (List D)} {M : Maps}
theorem g82 (b : Bd) (nm : Nm) : PCall Tryd.prog G 82 [.d b.d, .ptr 0 0] (hNm nm) (fun rs H' => rs = [.bool (b.name == nm)] ∧ H' = hNm nm) := by
  unfold Bd.d
  refine PCall.walk (fn := Tryd.f82) (code := bodyOf Tryd.f82) mixed L0 Tryd.func82 (by kernel_rfl) rfl ⟨_, _, rfl, rfl⟩ (ok0 (by kernel_rfl)) ?_
  apply @of_vc _ (
    [D.bool (Bd.name b == nm)] = [D.bool (Bd.name b == nm)] ∧ [Box.cells (9 : Nat) [AV.d (D.str nm)]] = [Box.cells (9 : Nat) [AV.d (D.str nm)]])
  · kernel_rfl
  exact ⟨rfl, rfl⟩
theorem g81 (e : En) (nm : Nm) (hl : e.length < 4611686018427387904) : PCall Tryd.prog G 81 [.d (.sl (e.map Bd.d)), .clo 82 [] [.ptr 0 0]] (hNm nm) (fun rs H' => rs = [.int .i64 (findI e nm)] ∧ H' = hNm nm) := by
  refine PCall.walk (fn := Tryd.f81) (code := bodyOf Tryd.f81) mixed
    (LL [(2, loopW (α := Nat) Tryd.prog G L0 1 (loopN (bodyOf Tryd.f81) 0) [0, 1, 7] (fun i => i ≤ e.length ∧ hasE (e.take i) nm = false) (fun i => e.length - i)
      (fun i => [(8, .d (.int .i64 i))]) (fun H _ => H))])
    Tryd.func81 (by kernel_rfl) rfl ⟨_, _, rfl, rfl⟩ (LoopsOk.one (b1 := loopN (bodyOf Tryd.f81) 0) (by kernel_rfl) (by kernel_rfl) (loopW_sound mixed (ok0 (by kernel_rfl)))) ?_
  apply @of_vc _ (
    ∃ (x0 : Nat), (x0 ≤ List.length e ∧ hasE (List.take x0 e) nm = false) ∧ ((List.map Bd.d e = List.map Bd.d e ∧ AV.clo (82 : Nat) [] [AV.ptr (0 : Nat) (0 : Nat)] = AV.clo (82 : Nat) []
    [AV.ptr (0 : Nat) (0 : Nat)] ∧ (↑(List.length (List.map Bd.d e)) : Int) = (↑(List.length (List.map Bd.d e)) : Int) ∧ (0 : Int) = (↑x0 : Int) ∧ True) ∧ (nm = nm ∧ True) ∧ True) ∧ ∀ (x :
    Nat), x ≤ List.length e ∧ hasE (List.take x e) nm = false → (decide ((↑x : Int) < (↑(List.length (List.map Bd.d e)) : Int)) = true → ((0 : Int) ≤ (↑x : Int) ∧ (List.map Bd.d e)[Int.toNat
    (↑x : Int)]? = some (aggAt [Sh.str, Sh.int IntKind.i64] (List.map Bd.d e) (Int.toNat (↑x : Int)))) ∧ PCall Tryd.prog G (82 : Nat) [AV.d (aggAt [Sh.str, Sh.int IntKind.i64] (List.map Bd.d
    e) (Int.toNat (↑x : Int))), AV.ptr (0 : Nat) (0 : Nat)] [Box.cells (9 : Nat) [AV.d (D.str nm)]] fun (rs : List D) (H' : List Box) => ∃ (b : Bool), rs = [D.bool b] ∧ ∃ (s : List UInt8),
    H' = [Box.cells (9 : Nat) [AV.d (D.str s)]] ∧ (b = true → [D.int IntKind.i64 (↑x : Int)] = [D.int IntKind.i64 (findI e nm)] ∧ [Box.cells (9 : Nat) [AV.d (D.str s)]] = [Box.cells (9 :
    Nat) [AV.d (D.str nm)]]) ∧ (b = false → ∃ (y : Nat), (y ≤ List.length e ∧ hasE (List.take y e) nm = false) ∧ List.length e - y < List.length e - x ∧ (List.map Bd.d e = List.map Bd.d e ∧
    AV.clo (82 : Nat) [] [AV.ptr (0 : Nat) (0 : Nat)] = AV.clo (82 : Nat) [] [AV.ptr (0 : Nat) (0 : Nat)] ∧ (↑(List.length (List.map Bd.d e)) : Int) = (↑(List.length (List.map Bd.d e)) :
    Int) ∧ IntKind.wrap IntKind.i64 ((↑x : Int) + (1 : Int)) = (↑y : Int) ∧ True) ∧ (s = nm ∧ True) ∧ True)) ∧ (decide ((↑x : Int) < (↑(List.length (List.map Bd.d e)) : Int)) = false →
    [D.int IntKind.i64 (-1 : Int)] = [D.int IntKind.i64 (findI e nm)] ∧ [Box.cells (9 : Nat) [AV.d (D.str nm)]] = [Box.cells (9 : Nat) [AV.d (D.str nm)]]))
  · kernel_rfl
  refine ⟨0, ⟨by omega, rfl⟩, ⟨⟨rfl, rfl, rfl, rfl, trivial⟩, ⟨rfl, trivial⟩, trivial⟩, fun i hi => ⟨fun hlt => ?_, fun hge => ?_⟩⟩
  · simp only [List.length_map, decide_eq_true_eq] at hlt
    obtain ⟨z, hz, hm⟩ := get_nat (l := e) (x := i) (by omega)
    rw [Int.toNat_natCast, agg_bd hz]
    refine ⟨⟨by omega, by simp [hz]⟩, ?_⟩
    refine (g82 z nm).mono ?_
    rintro rs H' ⟨rfl, rfl⟩
    refine ⟨_, rfl, _, rfl, fun hb => ⟨?_, rfl⟩, fun hb => ⟨i + 1, ⟨by omega, ?_⟩, by omega, ⟨rfl, rfl, rfl, ?_, trivial⟩, ⟨rfl, trivial⟩, trivial⟩⟩
    · unfold findI; rw [find_hit hz hi.2 hb]
    · rw [List.take_add_one, hz, hasE_app, hi.2]
      simp only [Option.toList_some, hasE, List.any_cons, List.any_nil, hb]; rfl
    · rw [wrap64 (by omega) (by omega)]; simp
  · simp only [List.length_map, decide_eq_false_iff_not] at hge
    have h2 := hi.2
    rw [List.take_of_length_le (by omega)] at h2
    refine ⟨?_, rfl⟩
    unfold findI; rw [find_none h2]
theorem g53 (e : En) (nm : Nm) (hl : e.length < 4611686018427387904) : PFn Tryd.prog G 53 [.sl (e.map Bd.d), .str nm] (· = [.int .i64 (findI e nm)]) := by
  refine PFn.walk (fn := Tryd.f53) (code := bodyOf Tryd.f53) mixed L0 Tryd.func53 (by kernel_rfl) ⟨_, rfl⟩ (ok0 (by kernel_rfl)) ?_
  apply @of_vc _ (
    PCall Tryd.prog G (81 : Nat) [AV.d (D.sl (List.map Bd.d e)), AV.clo (82 : Nat) [] [AV.ptr (0 : Nat) (0 : Nat)]] [Box.cells (9 : Nat) [AV.d (D.str nm)]] fun (rs : List D) (H' : List Box)
    => ∃ (n : Int), rs = [D.int IntKind.i64 n] ∧ ∃ (s : List UInt8), H' = [Box.cells (9 : Nat) [AV.d (D.str s)]] ∧ [D.int IntKind.i64 n] = [D.int IntKind.i64 (findI e nm)])
  · kernel_rfl
  refine (g81 e nm hl).mono ?_
  rintro rs H' ⟨rfl, rfl⟩
  exact ⟨_, rfl, _, rfl, rfl⟩
theorem g60 (e : En) : PFnF Tryd.prog G 60 [.sl (e.map Bd.d)] (· = e.map Bd.d) := by
  refine PFnF.of_A (PFnA.walk (fn := Tryd.f60) (code := bodyOf Tryd.f60) mixed L0 Tryd.func60 (by kernel_rfl) (ok0 (by kernel_rfl)) ?_)
  apply @of_vc _ (
    ((0 : Int) ≤ (↑(List.length (List.map Bd.d e)) : Int) ∧ (↑(List.length (List.map Bd.d e)) : Int) ≤ (↑(List.length (List.map Bd.d e)) : Int) ∧ (↑(List.length (List.map Bd.d e)) : Int) =
    (↑(List.length (List.map Bd.d e)) : Int)) ∧ ∃ (l : List D), AV.full (List.take (Int.toNat (↑(List.length (List.map Bd.d e)) : Int)) (List.map Bd.d e)) = AV.full l ∧ l = List.map Bd.d e)
  · kernel_rfl
  refine ⟨⟨by omega, Int.le_refl _, rfl⟩, _, rfl, ?_⟩
  rw [Int.toNat_natCast, List.take_length]
def one1 : Fm := .mk 1 [] 0 [] [] []
theorem g39 (hM : M.Ok) (b : Bd) (hb : b.name.length ≤ 1099511627776) : PFn Tryd.prog (GG M) 39 [b.d] (· = [.bool (bindB b)]) := by
  have h25 := fn13 hM (.mk 14 [] 0 [] [b] [one1]) (by simp [Fm.wt, Fm.wts, sumT, sumB, one1]; omega)
  unfold Bd.d
  refine PFn.walk (fn := Tryd.f39) (code := bodyOf Tryd.f39) mixed L0 Tryd.func39 (by kernel_rfl) ⟨_, rfl⟩ (ok0 (by kernel_rfl)) ?_
  apply @of_vc _ (
    PFn Tryd.prog (GG M) (25 : Nat) [D.agg [D.int IntKind.i64 (14 : Int), D.str (Array.toList (ByteArray.data (ByteArray.mk #[]))), D.int IntKind.i64 (0 : Int), D.sl [], D.sl [D.agg [D.str
    (Bd.name b), D.int IntKind.i64 (Bd.sort b)]], D.sl [D.agg [D.int IntKind.i64 (1 : Int), D.str (Array.toList (ByteArray.data (ByteArray.mk #[]))), D.int IntKind.i64 (0 : Int), D.sl [],
    D.sl [], D.sl []]]]] fun (rs : List D) => ∃ (n : Int), rs = [D.int IntKind.i64 n] ∧ [D.bool (n == (0 : Int))] = [D.bool (bindB b)])
  · kernel_rfl
  have e1 : (Fm.mk 14 [] 0 [] [b] [one1]).d = .agg [.int .i64 14, .str [], .int .i64 0, .sl [], .sl [.agg [.str b.name, .int .i64 b.sort]], .sl [.agg [.int .i64 1, .str [], .int .i64 0, .sl [], .sl [], .sl []]]] := by
    rw [Fm.d_mk]; simp [Bd.d, one1, Fm.d_mk]
  rw [e1] at h25
  refine h25.use ⟨_, rfl, ?_⟩
  have e2 : (Fm.mk 14 [] 0 [] [b] [one1]).formB = bindB b := by simp [one1, formB_mk, nodeB, partsI, termsB, bindsB, atomB, quantB, countB, Fm.kind, Fm.ts, Fm.bs, Fm.l, Fm.n, Fm.name]
  unfold Fm.checkI
  rw [e2]
  cases bindB b with
  | false => rfl
  | true => simp [one1, Fm.rank, Fm.ranks, Fm.depth, Fm.depths]
theorem g30 (hM : M.Ok) (e : En) (hl : ewt e ≤ 1099511627776) : PFn Tryd.prog (GG M) 30 [.sl (e.map Bd.d)] (· = [.bool (envB e)]) := by
  refine PFn.walk (fn := Tryd.f30) (code := bodyOf Tryd.f30) mixed
    (LL [(2, loopW (α := Nat) Tryd.prog (GG M) L0 0 (loopN (bodyOf Tryd.f30) 0) [0, 5, 6] (fun i => i ≤ e.length ∧ envB (e.take i) = true) (fun i => e.length - i)
      (fun i => [(7, .d (.int .i64 i))]) (fun H _ => H))])
    Tryd.func30 (by kernel_rfl) ⟨_, rfl⟩ (LoopsOk.one (b1 := loopN (bodyOf Tryd.f30) 0) (by kernel_rfl) (by kernel_rfl) (loopW_sound mixed (ok0 (by kernel_rfl)))) ?_
  apply @of_vc _ (
    ∃ (x0 : Nat), (x0 ≤ List.length e ∧ envB (List.take x0 e) = true) ∧ ((List.map Bd.d e = List.map Bd.d e ∧ List.map Bd.d e = List.map Bd.d e ∧ (↑(List.length (List.map Bd.d e)) : Int) =
    (↑(List.length (List.map Bd.d e)) : Int) ∧ (0 : Int) = (↑x0 : Int) ∧ True) ∧ True) ∧ ∀ (x : Nat), x ≤ List.length e ∧ envB (List.take x e) = true → (decide ((↑x : Int) < (↑(List.length
    (List.map Bd.d e)) : Int)) = true → ((0 : Int) ≤ (↑x : Int) ∧ (List.map Bd.d e)[Int.toNat (↑x : Int)]? = some (aggAt [Sh.str, Sh.int IntKind.i64] (List.map Bd.d e) (Int.toNat (↑x :
    Int)))) ∧ PFn Tryd.prog (GG M) (39 : Nat) [aggAt [Sh.str, Sh.int IntKind.i64] (List.map Bd.d e) (Int.toNat (↑x : Int))] fun (rs : List D) => ∃ (b : Bool), rs = [D.bool b] ∧ PFn Tryd.prog
    (GG M) (53 : Nat) [D.sl (List.map Bd.d e), D.str (D.toStr (Option.getD (cellAt (List.map Bd.d e) (Int.toNat (↑x : Int)) (0 : Nat)) default))] fun (rs : List D) => ∃ (n : Int), rs =
    [D.int IntKind.i64 n] ∧ ((bif !b then true else n != (↑x : Int)) = true → [D.bool false] = [D.bool (envB e)]) ∧ ((bif !b then true else n != (↑x : Int)) = false → ∃ (y : Nat), (y ≤
    List.length e ∧ envB (List.take y e) = true) ∧ List.length e - y < List.length e - x ∧ (List.map Bd.d e = List.map Bd.d e ∧ List.map Bd.d e = List.map Bd.d e ∧ (↑(List.length (List.map
    Bd.d e)) : Int) = (↑(List.length (List.map Bd.d e)) : Int) ∧ IntKind.wrap IntKind.i64 ((↑x : Int) + (1 : Int)) = (↑y : Int) ∧ True) ∧ True)) ∧ (decide ((↑x : Int) < (↑(List.length
    (List.map Bd.d e)) : Int)) = false → [D.bool true] = [D.bool (envB e)]))
  · kernel_rfl
  unfold ewt at hl
  refine ⟨0, ⟨by omega, rfl⟩, by simp, fun i hi => ⟨fun hlt => ?_, fun hge => ?_⟩⟩
  · simp only [List.length_map, decide_eq_true_eq] at hlt
    obtain ⟨z, hz, hm⟩ := get_nat (l := e) (x := i) (by omega)
    have hzl := sumB_mem hm
    rw [Int.toNat_natCast, agg_bd hz, cell_bd0 hz]
    have e2 : D.toStr (Option.getD (some (D.str z.name)) default) = z.name := rfl
    rw [e2]
    refine ⟨⟨by omega, by simp [hz]⟩, ?_⟩
    refine (g39 hM z (by omega)).use ⟨_, rfl, ?_⟩
    refine (g53 e z.name (by omega)).use ⟨_, rfl, ?_⟩
    rw [findI_ne hz]
    have hs := envB_take_succ hz
    refine ⟨fun h => ?_, fun h => ⟨i + 1, ⟨by omega, ?_⟩, by omega, ?_⟩⟩
    · have : envB (e.take (i + 1)) = false := by
        rw [hs, hi.2]
        cases hb : bindB z with
        | false => rfl
        | true => rw [hb] at h; simp only [Bool.not_true, cond_false] at h; rw [h]; rfl
      cases he : envB e with
      | false => rfl
      | true => rw [envB_take he] at this; cases this
    · rw [hs, hi.2]
      cases hb : bindB z with
      | false => rw [hb] at h; cases h
      | true => rw [hb] at h; simp only [Bool.not_true, cond_false] at h; rw [h]; rfl
    · rw [wrap64 (by omega) (by omega)]; simp
  · simp only [List.length_map, decide_eq_false_iff_not] at hge
    have h2 := hi.2
    rw [List.take_of_length_le (by omega)] at h2
    rw [h2]
end
end Go.Fo
/- The reference's types. -/
namespace Go.Fo
open Go Go.Sx Go.Proofs
set_option maxRecDepth 100000
set_option maxHeartbeats 0

theorem hasE_take_succ {e : En} {i : Nat} {z : Bd} (h : e[i]? = some z) (nm : Nm) : hasE (e.take (i + 1)) nm = (hasE (e.take i) nm || z.name == nm) := by
  rw [List.take_add_one, h, hasE_app]
  simp [hasE]
theorem hasE_get {e : En} {z : Bd} (h : z ∈ e) {nm : Nm} (h2 : (z.name == nm) = true) : hasE e nm = true := List.any_eq_true.2 ⟨z, h, h2⟩
theorem sortE_hit {e : En} {i : Nat} {z : Bd} {nm : Nm} (h : e[i]? = some z) (h0 : hasE (e.take i) nm = false) (h1 : (z.name == nm) = true) : sortE e nm = z.sort := by
  have hlt : i < e.length := by
    rcases Nat.lt_or_ge i e.length with h' | h'
    · exact h'
    · rw [List.getElem?_eq_none h'] at h; cases h
  have e1 : e = e.take i ++ z :: e.drop (i + 1) := by
    rw [List.getElem?_eq_getElem hlt] at h
    cases h
    rw [← List.drop_eq_getElem_cons hlt, List.take_append_drop]
  have : sortE e nm = sortE (e.take i ++ z :: e.drop (i + 1)) nm := by rw [← e1]
  rw [this, sortE_app, h0]
  simp only [Bool.false_eq_true, if_false, sortE, h1, if_true]

theorem cells_bds (l : List Bd) : allSz (l.map Bd.d) 2 = true := by
  unfold allSz
  rw [List.all_eq_true]
  intro d hd
  obtain ⟨t, _, rfl⟩ := List.mem_map.1 hd
  rfl

section
variable {G : Nat → Option (List D)} {M : Maps}
theorem g41 (b : Bd) (hb : b.name.length < 4611686018427387904) : PFn Tryd.prog G 41 [b.d] (· = [.bool (bindB b)]) := by
  unfold Bd.d
  refine PFn.walk (fn := Tryd.f41) (code := bodyOf Tryd.f41) mixed L0 Tryd.func41 (by kernel_rfl) ⟨_, rfl⟩ (ok0 (by kernel_rfl)) ?_
  apply @of_vc _ (
    PFn Tryd.prog G (24 : Nat) [D.str (Bd.name b)] fun (rs : List D) => ∃ (b_1 : Bool), rs = [D.bool b_1] ∧ [D.bool (bif bif b_1 then decide (Bd.sort b ≥ (1 : Int)) else false then decide
    (Bd.sort b ≤ (7 : Int)) else false)] = [D.bool (bindB b)])
  · kernel_rfl
  refine (fn69 b.name hb).use ⟨_, rfl, ?_⟩
  simp only [bif_and, bindB, ge_iff_le]
theorem g42 (e : En) (nm : Nm) (hl : e.length < 4611686018427387904) : PFn Tryd.prog G 42 [.sl (e.map Bd.d), .str nm] (· = [.bool (hasE e nm)]) := by
  refine PFn.walk (fn := Tryd.f42) (code := bodyOf Tryd.f42) mixed
    (LL [(2, loopW (α := Nat) Tryd.prog G L0 0 (loopN (bodyOf Tryd.f42) 0) [0, 1] (fun i => i ≤ e.length ∧ hasE (e.take i) nm = false) (fun i => e.length - i)
      (fun i => [(5, .d (.int .i64 i))]) (fun H _ => H))])
    Tryd.func42 (by kernel_rfl) ⟨_, rfl⟩ (LoopsOk.one (b1 := loopN (bodyOf Tryd.f42) 0) (by kernel_rfl) (by kernel_rfl) (loopW_sound mixed (ok0 (by kernel_rfl)))) ?_
  apply @of_vc _ (
    ∃ (x0 : Nat), (x0 ≤ List.length e ∧ hasE (List.take x0 e) nm = false) ∧ ((List.map Bd.d e = List.map Bd.d e ∧ nm = nm ∧ (0 : Int) = (↑x0 : Int) ∧ True) ∧ True) ∧ ∀ (x : Nat), x ≤
    List.length e ∧ hasE (List.take x e) nm = false → (decide ((↑x : Int) < (↑(List.length (List.map Bd.d e)) : Int)) = true → ((0 : Int) ≤ (↑x : Int) ∧ (List.map Bd.d e)[Int.toNat (↑x :
    Int)]? = some (aggAt [Sh.str, Sh.int IntKind.i64] (List.map Bd.d e) (Int.toNat (↑x : Int)))) ∧ ((D.toStr (Option.getD (cellAt (List.map Bd.d e) (Int.toNat (↑x : Int)) (0 : Nat)) default)
    == nm) = true → [D.bool true] = [D.bool (hasE e nm)]) ∧ ((D.toStr (Option.getD (cellAt (List.map Bd.d e) (Int.toNat (↑x : Int)) (0 : Nat)) default) == nm) = false → ∃ (y : Nat), (y ≤
    List.length e ∧ hasE (List.take y e) nm = false) ∧ List.length e - y < List.length e - x ∧ (List.map Bd.d e = List.map Bd.d e ∧ nm = nm ∧ IntKind.wrap IntKind.i64 ((↑x : Int) + (1 :
    Int)) = (↑y : Int) ∧ True) ∧ True)) ∧ (decide ((↑x : Int) < (↑(List.length (List.map Bd.d e)) : Int)) = false → [D.bool false] = [D.bool (hasE e nm)]))
  · kernel_rfl
  refine ⟨0, ⟨by omega, rfl⟩, by simp, fun i hi => ⟨fun hlt => ?_, fun hge => ?_⟩⟩
  · simp only [List.length_map, decide_eq_true_eq] at hlt
    obtain ⟨z, hz, hm⟩ := get_nat (l := e) (x := i) (by omega)
    rw [Int.toNat_natCast, agg_bd hz, cell_bd0 hz]
    have e2 : D.toStr (Option.getD (some (D.str z.name)) default) = z.name := rfl
    rw [e2]
    refine ⟨⟨by omega, by simp [hz]⟩, fun h => by rw [hasE_get hm h], fun h => ⟨i + 1, ⟨by omega, by rw [hasE_take_succ hz, hi.2, h]; rfl⟩, by omega, ?_⟩⟩
    rw [wrap64 (by omega) (by omega)]; simp
  · simp only [List.length_map, decide_eq_false_iff_not] at hge
    have h2 := hi.2
    rw [List.take_of_length_le (by omega)] at h2
    rw [h2]
theorem g57 (e : En) (nm : Nm) (hl : e.length < 4611686018427387904) : PFn Tryd.prog G 57 [.sl (e.map Bd.d), .str nm] (· = [.int .i64 (sortE e nm)]) := by
  refine PFn.walk (fn := Tryd.f57) (code := bodyOf Tryd.f57) mixed
    (LL [(2, loopW (α := Nat) Tryd.prog G L0 0 (loopN (bodyOf Tryd.f57) 0) [0, 1] (fun i => i ≤ e.length ∧ hasE (e.take i) nm = false) (fun i => e.length - i)
      (fun i => [(5, .d (.int .i64 i))]) (fun H _ => H))])
    Tryd.func57 (by kernel_rfl) ⟨_, rfl⟩ (LoopsOk.one (b1 := loopN (bodyOf Tryd.f57) 0) (by kernel_rfl) (by kernel_rfl) (loopW_sound mixed (ok0 (by kernel_rfl)))) ?_
  apply @of_vc _ (
    ∃ (x0 : Nat), (x0 ≤ List.length e ∧ hasE (List.take x0 e) nm = false) ∧ ((List.map Bd.d e = List.map Bd.d e ∧ nm = nm ∧ (0 : Int) = (↑x0 : Int) ∧ True) ∧ True) ∧ ∀ (x : Nat), x ≤
    List.length e ∧ hasE (List.take x e) nm = false → (decide ((↑x : Int) < (↑(List.length (List.map Bd.d e)) : Int)) = true → ((0 : Int) ≤ (↑x : Int) ∧ (List.map Bd.d e)[Int.toNat (↑x :
    Int)]? = some (aggAt [Sh.str, Sh.int IntKind.i64] (List.map Bd.d e) (Int.toNat (↑x : Int)))) ∧ ((D.toStr (Option.getD (cellAt (List.map Bd.d e) (Int.toNat (↑x : Int)) (0 : Nat)) default)
    == nm) = true → ((0 : Int) ≤ (↑x : Int) ∧ (List.map Bd.d e)[Int.toNat (↑x : Int)]? = some (aggAt [Sh.str, Sh.int IntKind.i64] (List.map Bd.d e) (Int.toNat (↑x : Int)))) ∧ [D.int
    IntKind.i64 (D.toInt (Option.getD (cellAt (List.map Bd.d e) (Int.toNat (↑x : Int)) ((0 : Nat) + (1 : Nat))) default))] = [D.int IntKind.i64 (sortE e nm)]) ∧ ((D.toStr (Option.getD
    (cellAt (List.map Bd.d e) (Int.toNat (↑x : Int)) (0 : Nat)) default) == nm) = false → ∃ (y : Nat), (y ≤ List.length e ∧ hasE (List.take y e) nm = false) ∧ List.length e - y < List.length
    e - x ∧ (List.map Bd.d e = List.map Bd.d e ∧ nm = nm ∧ IntKind.wrap IntKind.i64 ((↑x : Int) + (1 : Int)) = (↑y : Int) ∧ True) ∧ True)) ∧ (decide ((↑x : Int) < (↑(List.length (List.map
    Bd.d e)) : Int)) = false → [D.int IntKind.i64 (0 : Int)] = [D.int IntKind.i64 (sortE e nm)]))
  · kernel_rfl
  refine ⟨0, ⟨by omega, rfl⟩, by simp, fun i hi => ⟨fun hlt => ?_, fun hge => ?_⟩⟩
  · simp only [List.length_map, decide_eq_true_eq] at hlt
    obtain ⟨z, hz, hm⟩ := get_nat (l := e) (x := i) (by omega)
    rw [Int.toNat_natCast, agg_bd hz, cell_bd0 hz, cell_bd1 hz]
    have e2 : D.toStr (Option.getD (some (D.str z.name)) default) = z.name := rfl
    have e3 : D.toInt (Option.getD (some (D.int .i64 z.sort)) default) = z.sort := rfl
    rw [e2, e3]
    refine ⟨⟨by omega, by simp [hz]⟩, fun h => ⟨⟨by omega, by simp [hz]⟩, by rw [sortE_hit hz hi.2 h]⟩, fun h => ⟨i + 1, ⟨by omega, by rw [hasE_take_succ hz, hi.2, h]; rfl⟩, by omega, ?_⟩⟩
    rw [wrap64 (by omega) (by omega)]; simp
  · simp only [List.length_map, decide_eq_false_iff_not] at hge
    have h2 := hi.2
    rw [List.take_of_length_le (by omega)] at h2
    rw [sortE_none h2]
theorem g33 (e : En) (hl : ewt e ≤ 1099511627776) : PFn Tryd.prog G 33 [.sl (e.map Bd.d)] (· = [.bool (envB e)]) := by
  unfold ewt at hl
  refine PFn.walk (fn := Tryd.f33) (code := bodyOf Tryd.f33) mixed
    (LL [(2, loopW (α := Nat) Tryd.prog G L0 0 (loopN (bodyOf Tryd.f33) 0) [0] (fun i => i ≤ e.length ∧ envB (e.take i) = true) (fun i => e.length - i)
      (fun i => [(3, .d (.int .i64 i))]) (fun H _ => H))])
    Tryd.func33 (by kernel_rfl) ⟨_, rfl⟩ (LoopsOk.one (b1 := loopN (bodyOf Tryd.f33) 0) (by kernel_rfl) (by kernel_rfl) (loopW_sound mixed (ok0 (by kernel_rfl)))) ?_
  apply @of_vc _ (
    ∃ (x0 : Nat), (x0 ≤ List.length e ∧ envB (List.take x0 e) = true) ∧ ((List.map Bd.d e = List.map Bd.d e ∧ (0 : Int) = (↑x0 : Int) ∧ True) ∧ True) ∧ ∀ (x : Nat), x ≤ List.length e ∧ envB
    (List.take x e) = true → (decide ((↑x : Int) < (↑(List.length (List.map Bd.d e)) : Int)) = true → ((0 : Int) ≤ (↑x : Int) ∧ (List.map Bd.d e)[Int.toNat (↑x : Int)]? = some (aggAt
    [Sh.str, Sh.int IntKind.i64] (List.map Bd.d e) (Int.toNat (↑x : Int)))) ∧ PFn Tryd.prog G (41 : Nat) [aggAt [Sh.str, Sh.int IntKind.i64] (List.map Bd.d e) (Int.toNat (↑x : Int))] fun (rs
    : List D) => ∃ (b : Bool), rs = [D.bool b] ∧ ((!b) = false → ((0 : Int) ≤ (↑x : Int) ∧ (↑x : Int) ≤ (↑(List.length (List.map Bd.d e)) : Int)) ∧ allSz (List.map Bd.d e) (2 : Nat) = true)
    ∧ ((!b) = false → (0 : Int) ≤ (↑x : Int) ∧ (List.map Bd.d e)[Int.toNat (↑x : Int)]? = some (aggAt [Sh.str, Sh.int IntKind.i64] (List.map Bd.d e) (Int.toNat (↑x : Int)))) ∧ PFn Tryd.prog
    G (42 : Nat) [D.sl (List.drop (Int.toNat (0 : Int)) (List.take (Int.toNat (↑x : Int)) (List.map Bd.d e))), D.str (D.toStr (Option.getD (cellAt (List.map Bd.d e) (Int.toNat (↑x : Int)) (0
    : Nat)) default))] fun (rs : List D) => ∃ (b_1 : Bool), rs = [D.bool b_1] ∧ ((bif !b then true else b_1) = true → [D.bool false] = [D.bool (envB e)]) ∧ ((bif !b then true else b_1) =
    false → ∃ (y : Nat), (y ≤ List.length e ∧ envB (List.take y e) = true) ∧ List.length e - y < List.length e - x ∧ (List.map Bd.d e = List.map Bd.d e ∧ IntKind.wrap IntKind.i64 ((↑x : Int)
    + (1 : Int)) = (↑y : Int) ∧ True) ∧ True)) ∧ (decide ((↑x : Int) < (↑(List.length (List.map Bd.d e)) : Int)) = false → [D.bool true] = [D.bool (envB e)]))
  · kernel_rfl
  refine ⟨0, ⟨by omega, rfl⟩, by simp, fun i hi => ⟨fun hlt => ?_, fun hge => ?_⟩⟩
  · simp only [List.length_map, decide_eq_true_eq] at hlt
    obtain ⟨z, hz, hm⟩ := get_nat (l := e) (x := i) (by omega)
    have hzl := sumB_mem hm
    rw [Int.toNat_natCast, agg_bd hz, cell_bd0 hz]
    have e2 : D.toStr (Option.getD (some (D.str z.name)) default) = z.name := rfl
    have e3 : List.drop (Int.toNat 0) (List.take i (List.map Bd.d e)) = (e.take i).map Bd.d := by rw [List.map_take]; rfl
    rw [e2, e3]
    have hget : (List.map Bd.d e)[i]? = some z.d := by simp [hz]
    refine ⟨⟨by omega, hget⟩, ?_⟩
    refine (g41 z (by omega)).use ⟨_, rfl, fun _ => ⟨⟨by omega, by rw [List.length_map]; omega⟩, cells_bds e⟩, fun _ => ⟨by omega, hget⟩, ?_⟩
    refine (g42 (e.take i) z.name (by rw [List.length_take]; omega)).use ⟨_, rfl, ?_⟩
    have hs := envB_take_succ hz
    refine ⟨fun h => ?_, fun h => ⟨i + 1, ⟨by omega, ?_⟩, by omega, ?_⟩⟩
    · have : envB (e.take (i + 1)) = false := by
        rw [hs, hi.2]
        cases hb : bindB z with
        | false => rfl
        | true => rw [hb] at h; simp only [Bool.not_true, cond_false] at h; rw [h]; rfl
      cases he : envB e with
      | false => rfl
      | true => rw [envB_take he] at this; cases this
    · rw [hs, hi.2]
      cases hb : bindB z with
      | false => rw [hb] at h; cases h
      | true => rw [hb] at h; simp only [Bool.not_true, cond_false] at h; rw [h]; rfl
    · rw [wrap64 (by omega) (by omega)]; simp
  · simp only [List.length_map, decide_eq_false_iff_not] at hge
    have h2 := hi.2
    rw [List.take_of_length_le (by omega)] at h2
    rw [h2]
theorem g34 (e : En) (t : Tm) (hl : e.length < 4611686018427387904) : PFn Tryd.prog G 34 [.sl (e.map Bd.d), t.d] (· = [.int .i64 (termS e t).1, .int .i64 (termS e t).2]) := by
  unfold Tm.d
  refine PFn.walk (fn := Tryd.f34) (code := bodyOf Tryd.f34) mixed L0 Tryd.func34 (by kernel_rfl) ⟨_, rfl⟩ (ok0 (by kernel_rfl)) ?_
  apply @of_vc _ (
    ((Tm.kind t == (1 : Int)) = true → [D.int IntKind.i64 (8 : Int), D.int IntKind.i64 (0 : Int)] = [D.int IntKind.i64 (Prod.fst (termS e t)), D.int IntKind.i64 (Prod.snd (termS e t))]) ∧
    ((Tm.kind t == (1 : Int)) = false → PFn Tryd.prog G (42 : Nat) [D.sl (List.map Bd.d e), D.str (Tm.name t)] fun (rs : List D) => ∃ (b : Bool), rs = [D.bool b] ∧ ((!b) = true → [D.int
    IntKind.i64 (0 : Int), D.int IntKind.i64 (81 : Int)] = [D.int IntKind.i64 (Prod.fst (termS e t)), D.int IntKind.i64 (Prod.snd (termS e t))]) ∧ ((!b) = false → PFn Tryd.prog G (57 : Nat)
    [D.sl (List.map Bd.d e), D.str (Tm.name t)] fun (rs : List D) => ∃ (n : Int), rs = [D.int IntKind.i64 n] ∧ ((Tm.kind t == (3 : Int)) = true → ((bif (2 : Int) != (0 : Int) then n != (2 :
    Int) else false) = true → [D.int IntKind.i64 (0 : Int), D.int IntKind.i64 (80 : Int)] = [D.int IntKind.i64 (Prod.fst (termS e t)), D.int IntKind.i64 (Prod.snd (termS e t))]) ∧ ((bif (2 :
    Int) != (0 : Int) then n != (2 : Int) else false) = false → [D.int IntKind.i64 (6 : Int), D.int IntKind.i64 (0 : Int)] = [D.int IntKind.i64 (Prod.fst (termS e t)), D.int IntKind.i64
    (Prod.snd (termS e t))])) ∧ ((Tm.kind t == (3 : Int)) = false → ((Tm.kind t == (4 : Int)) = true → ((bif (2 : Int) != (0 : Int) then n != (2 : Int) else false) = true → [D.int
    IntKind.i64 (0 : Int), D.int IntKind.i64 (80 : Int)] = [D.int IntKind.i64 (Prod.fst (termS e t)), D.int IntKind.i64 (Prod.snd (termS e t))]) ∧ ((bif (2 : Int) != (0 : Int) then n != (2 :
    Int) else false) = false → [D.int IntKind.i64 (8 : Int), D.int IntKind.i64 (0 : Int)] = [D.int IntKind.i64 (Prod.fst (termS e t)), D.int IntKind.i64 (Prod.snd (termS e t))])) ∧ ((Tm.kind
    t == (4 : Int)) = false → ((Tm.kind t == (5 : Int)) = true → ((bif (3 : Int) != (0 : Int) then n != (3 : Int) else false) = true → [D.int IntKind.i64 (0 : Int), D.int IntKind.i64 (80 :
    Int)] = [D.int IntKind.i64 (Prod.fst (termS e t)), D.int IntKind.i64 (Prod.snd (termS e t))]) ∧ ((bif (3 : Int) != (0 : Int) then n != (3 : Int) else false) = false → [D.int IntKind.i64
    (7 : Int), D.int IntKind.i64 (0 : Int)] = [D.int IntKind.i64 (Prod.fst (termS e t)), D.int IntKind.i64 (Prod.snd (termS e t))])) ∧ ((Tm.kind t == (5 : Int)) = false → ((Tm.kind t == (6 :
    Int)) = true → ((bif (3 : Int) != (0 : Int) then n != (3 : Int) else false) = true → [D.int IntKind.i64 (0 : Int), D.int IntKind.i64 (80 : Int)] = [D.int IntKind.i64 (Prod.fst (termS e
    t)), D.int IntKind.i64 (Prod.snd (termS e t))]) ∧ ((bif (3 : Int) != (0 : Int) then n != (3 : Int) else false) = false → [D.int IntKind.i64 (8 : Int), D.int IntKind.i64 (0 : Int)] =
    [D.int IntKind.i64 (Prod.fst (termS e t)), D.int IntKind.i64 (Prod.snd (termS e t))])) ∧ ((Tm.kind t == (6 : Int)) = false → ((Tm.kind t == (7 : Int)) = true → ((bif (1 : Int) != (0 :
    Int) then n != (1 : Int) else false) = true → [D.int IntKind.i64 (0 : Int), D.int IntKind.i64 (80 : Int)] = [D.int IntKind.i64 (Prod.fst (termS e t)), D.int IntKind.i64 (Prod.snd (termS
    e t))]) ∧ ((bif (1 : Int) != (0 : Int) then n != (1 : Int) else false) = false → [D.int IntKind.i64 (8 : Int), D.int IntKind.i64 (0 : Int)] = [D.int IntKind.i64 (Prod.fst (termS e t)),
    D.int IntKind.i64 (Prod.snd (termS e t))])) ∧ ((Tm.kind t == (7 : Int)) = false → ((bif (0 : Int) != (0 : Int) then n != (0 : Int) else false) = true → [D.int IntKind.i64 (0 : Int),
    D.int IntKind.i64 (80 : Int)] = [D.int IntKind.i64 (Prod.fst (termS e t)), D.int IntKind.i64 (Prod.snd (termS e t))]) ∧ ((bif (0 : Int) != (0 : Int) then n != (0 : Int) else false) =
    false → [D.int IntKind.i64 n, D.int IntKind.i64 (0 : Int)] = [D.int IntKind.i64 (Prod.fst (termS e t)), D.int IntKind.i64 (Prod.snd (termS e t))])))))))))
  · kernel_rfl
  unfold termS
  refine ⟨fun h => by rw [if_pos (by simpa using h)], fun h => ?_⟩
  have hk : ¬ t.kind = 1 := by simpa using h
  rw [if_neg hk]
  refine (g42 e t.name hl).use ⟨_, rfl, fun h => by rw [if_pos (by simpa using h)], fun h => ?_⟩
  have hh : hasE e t.name = true := by simpa using h
  rw [if_neg (by simp [hh])]
  refine (g57 e t.name hl).use ⟨_, rfl, ?_⟩
  have key : ∀ (a g : Int), askK t.kind = a → giveK t.kind (sortE e t.name) = g → a ≠ 0 → ((bif a != 0 then sortE e t.name != a else false) = true → [D.int .i64 0, D.int .i64 80] = [D.int .i64 (if askK t.kind ≠ 0 ∧ sortE e t.name ≠ askK t.kind then ((0 : Int), (80 : Int)) else (giveK t.kind (sortE e t.name), 0)).1, D.int .i64 (if askK t.kind ≠ 0 ∧ sortE e t.name ≠ askK t.kind then ((0 : Int), (80 : Int)) else (giveK t.kind (sortE e t.name), 0)).2]) ∧
      ((bif a != 0 then sortE e t.name != a else false) = false → [D.int .i64 g, D.int .i64 0] = [D.int .i64 (if askK t.kind ≠ 0 ∧ sortE e t.name ≠ askK t.kind then ((0 : Int), (80 : Int)) else (giveK t.kind (sortE e t.name), 0)).1, D.int .i64 (if askK t.kind ≠ 0 ∧ sortE e t.name ≠ askK t.kind then ((0 : Int), (80 : Int)) else (giveK t.kind (sortE e t.name), 0)).2]) := by
    intro a g ha hg h0
    rw [ha, hg]
    have e0 : (a != 0) = true := by simpa using h0
    rw [e0]
    simp only [cond_true]
    refine ⟨fun h => ?_, fun h => ?_⟩
    · rw [if_pos ⟨h0, by simpa using h⟩]
    · rw [if_neg (fun h2 => h2.2 (by simpa using h))]
  refine ⟨fun h => ?_, fun h => ⟨fun h => ?_, fun h => ⟨fun h => ?_, fun h => ⟨fun h => ?_, fun h => ⟨fun h => ?_, fun h => ?_⟩⟩⟩⟩⟩
  · have hk : t.kind = 3 := by simpa using h
    exact key 2 6 (by rw [hk]; rfl) (by rw [hk]; rfl) (by decide)
  · have hk : t.kind = 4 := by simpa using h
    exact key 2 8 (by rw [hk]; rfl) (by rw [hk]; rfl) (by decide)
  · have hk : t.kind = 5 := by simpa using h
    exact key 3 7 (by rw [hk]; rfl) (by rw [hk]; rfl) (by decide)
  · have hk : t.kind = 6 := by simpa using h
    exact key 3 8 (by rw [hk]; rfl) (by rw [hk]; rfl) (by decide)
  · have hk : t.kind = 7 := by simpa using h
    exact key 1 8 (by rw [hk]; rfl) (by rw [hk]; rfl) (by decide)
  · rename_i h3 h4 h5 h6
    simp only [beq_eq_false_iff_ne] at h h3 h4 h5 h6
    have ha : askK t.kind = 0 := by unfold askK; rw [if_neg (by omega), if_neg (by omega), if_neg (by omega)]
    have hg : giveK t.kind (sortE e t.name) = sortE e t.name := by unfold giveK; rw [if_neg (by omega), if_neg (by omega), if_neg (by omega)]
    rw [ha, hg]
    refine ⟨fun h => (by cases h), fun _ => ?_⟩
    rw [if_neg (by simp)]
theorem g63 (k : Int) : PFn Tryd.prog G 63 [.int .i64 k] (· = [.int .i64 (askA k).1, .int .i64 (askA k).2]) := by
  refine PFn.walk (fn := Tryd.f63) (code := bodyOf Tryd.f63) mixed L0 Tryd.func63 (by kernel_rfl) ⟨_, rfl⟩ (ok0 (by kernel_rfl)) ?_
  apply @of_vc _ (
    ((k == (3 : Int)) = true → [D.int IntKind.i64 (1 : Int), D.int IntKind.i64 (2 : Int)] = [D.int IntKind.i64 (Prod.fst (askA k)), D.int IntKind.i64 (Prod.snd (askA k))]) ∧ ((k == (3 :
    Int)) = false → ((k == (4 : Int)) = true → [D.int IntKind.i64 (1 : Int), D.int IntKind.i64 (3 : Int)] = [D.int IntKind.i64 (Prod.fst (askA k)), D.int IntKind.i64 (Prod.snd (askA k))]) ∧
    ((k == (4 : Int)) = false → ((k == (5 : Int)) = true → [D.int IntKind.i64 (4 : Int), D.int IntKind.i64 (1 : Int)] = [D.int IntKind.i64 (Prod.fst (askA k)), D.int IntKind.i64 (Prod.snd
    (askA k))]) ∧ ((k == (5 : Int)) = false → ((k == (6 : Int)) = true → [D.int IntKind.i64 (5 : Int), D.int IntKind.i64 (1 : Int)] = [D.int IntKind.i64 (Prod.fst (askA k)), D.int
    IntKind.i64 (Prod.snd (askA k))]) ∧ ((k == (6 : Int)) = false → ((k == (7 : Int)) = true → [D.int IntKind.i64 (4 : Int), D.int IntKind.i64 (2 : Int)] = [D.int IntKind.i64 (Prod.fst (askA
    k)), D.int IntKind.i64 (Prod.snd (askA k))]) ∧ ((k == (7 : Int)) = false → [D.int IntKind.i64 (3 : Int), D.int IntKind.i64 (2 : Int)] = [D.int IntKind.i64 (Prod.fst (askA k)), D.int
    IntKind.i64 (Prod.snd (askA k))]))))))
  · kernel_rfl
  unfold askA
  refine ⟨fun h => by rw [if_pos (by simpa using h)], fun h => ?_⟩
  rw [if_neg (by simpa using h)]
  refine ⟨fun h => by rw [if_pos (by simpa using h)], fun h => ?_⟩
  rw [if_neg (by simpa using h)]
  refine ⟨fun h => by rw [if_pos (by simpa using h)], fun h => ?_⟩
  rw [if_neg (by simpa using h)]
  refine ⟨fun h => by rw [if_pos (by simpa using h)], fun h => ?_⟩
  rw [if_neg (by simpa using h)]
  refine ⟨fun h => by rw [if_pos (by simpa using h)], fun h => ?_⟩
  rw [if_neg (by simpa using h)]
end
end Go.Fo
/- The program's types. -/
namespace Go.Fo
open Go Go.Sx Go.Proofs
set_option maxRecDepth 100000
set_option maxHeartbeats 0

def sortsN (e : En) : List Tm → List Int → List Int × Int
  | [], out => (out, 0)
  | t :: r, out => if (termS e t).2 ≠ 0 then ([], (termS e t).2) else sortsN e r (out ++ [(termS e t).1])
def sortsW (e : En) : List Tm → List Int → Int
  | t :: r, w :: ws => if ofS e t w ≠ 0 then ofS e t w else sortsW e r ws
  | _, _ => 0
theorem drop_at {α : Type} {l : List α} {i : Nat} {z : α} (h : l[i]? = some z) : l.drop i = z :: l.drop (i + 1) := by
  have hlt : i < l.length := by
    rcases Nat.lt_or_ge i l.length with h' | h'
    · exact h'
    · rw [List.getElem?_eq_none h'] at h; cases h
  rw [List.getElem?_eq_getElem hlt] at h
  cases h
  exact List.drop_eq_getElem_cons hlt
def intD (n : Int) : D := .int .i64 n
theorem cells_intD (l : List Int) : ((l.map intD).all fun d => d.cells.length == 1) = true := by
  rw [List.all_eq_true]
  intro d hd
  obtain ⟨t, _, rfl⟩ := List.mem_map.1 hd
  rfl
theorem FA_int (l : List Int) (n : Int) (h : l.length < 1000000) : FA (l.map intD) [D.int .i64 n] 1 8 := by
  have := cells_intD l
  refine ⟨by rw [List.all_append, this]; rfl, ?_⟩
  simp; omega
theorem cell_two {wa wb w : Int} {i : Nat} (h : [wa, wb][i]? = some w) : cellAt [D.int .i64 wa, D.int .i64 wb] i 0 = some (.int .i64 w) := by
  match i, h with
  | 0, h => simp at h; subst h; rfl
  | 1, h => simp at h; subst h; rfl
theorem get_two {wa wb w : Int} {i : Nat} (h : [wa, wb][i]? = some w) : [D.int .i64 wa, D.int .i64 wb][i]? = some (.int .i64 w) := by
  match i, h with
  | 0, h => simp at h; subst h; rfl
  | 1, h => simp at h; subst h; rfl
theorem cell_int {l : List Int} {i : Nat} {z : Int} (h : l[i]? = some z) : cellAt (l.map intD) i 0 = some (.int .i64 z) := by simp [cellAt, h, intD, D.cells]
theorem atom_terms {f : Fm} (hf : f.formB = true) (hk0 : atomB f.kind = true) : f.ts.all termB = true := by
  have h2 := atom_ts hf hk0
  have hs := formB_shape hf
  cases hs with
  | atom k a b hk ha hb => simp [Fm.ts, ha, hb]
  | cmp s a b hs ha hb => simp [Fm.ts, ha, hb]
  | const k hk => simp [Fm.ts] at h2
  | not x hx => simp [Fm.ts] at h2
  | two k x y hk hx hy => simp [Fm.ts] at h2
  | quant k bs x hk hb h1 h6 hx => simp [Fm.ts] at h2
  | count k n bs x hk h0 hn hb h1 h6 hx => simp [Fm.ts] at h2
theorem term_kind {t : Tm} (h : termB t = true) (h1 : ¬ t.kind = 1) (h2 : ¬ t.kind = 2) : t.kind = 3 ∨ t.kind = 4 ∨ t.kind = 5 ∨ t.kind = 6 ∨ t.kind = 7 := by
  unfold termB at h
  rw [if_neg h1] at h
  simp only [Bool.and_eq_true, decide_eq_true_eq] at h
  omega

section
variable {G : Nat → Option (List D)} {M : Maps}
theorem g31 (e : En) (t : Tm) (ht : termB t = true) (hl : e.length < 4611686018427387904) : PFn Tryd.prog (GG M) 31 [.sl (e.map Bd.d), t.d] (· = [.int .i64 (termS e t).1, .int .i64 (termS e t).2]) := by
  unfold Tm.d
  refine PFn.walk (fn := Tryd.f31) (code := bodyOf Tryd.f31) mixed L0 Tryd.func31 (by kernel_rfl) ⟨_, rfl⟩ (ok0 (by kernel_rfl)) ?_
  apply @of_vc _ (
    ((Tm.kind t == (1 : Int)) = true → [D.int IntKind.i64 (8 : Int), D.int IntKind.i64 (0 : Int)] = [D.int IntKind.i64 (Prod.fst (termS e t)), D.int IntKind.i64 (Prod.snd (termS e t))]) ∧
    ((Tm.kind t == (1 : Int)) = false → PFn Tryd.prog (GG M) (53 : Nat) [D.sl (List.map Bd.d e), D.str (Tm.name t)] fun (rs : List D) => ∃ (n : Int), rs = [D.int IntKind.i64 n] ∧ (decide (n
    < (0 : Int)) = true → [D.int IntKind.i64 (0 : Int), D.int IntKind.i64 (81 : Int)] = [D.int IntKind.i64 (Prod.fst (termS e t)), D.int IntKind.i64 (Prod.snd (termS e t))]) ∧ (decide (n <
    (0 : Int)) = false → ((Tm.kind t == (2 : Int)) = true → ((0 : Int) ≤ n ∧ (List.map Bd.d e)[Int.toNat n]? = some (aggAt [Sh.str, Sh.int IntKind.i64] (List.map Bd.d e) (Int.toNat n))) ∧
    [D.int IntKind.i64 (D.toInt (Option.getD (cellAt (List.map Bd.d e) (Int.toNat n) ((0 : Nat) + (1 : Nat))) default)), D.int IntKind.i64 (0 : Int)] = [D.int IntKind.i64 (Prod.fst (termS e
    t)), D.int IntKind.i64 (Prod.snd (termS e t))]) ∧ ((Tm.kind t == (2 : Int)) = false → (((0 : Int) ≤ Tm.kind t ∧ Tm.kind t < (↑(8 : Nat) : Int)) ∧ List.take (2 : Nat) (List.drop
    (Int.toNat (Tm.kind t) * (2 : Nat)) (pairs takL)) = [D.int IntKind.i64 (D.toInt (Option.getD (pairs takL)[Int.toNat (Tm.kind t) * (2 : Nat)]? default)), D.int IntKind.i64 (D.toInt
    (Option.getD (pairs takL)[Int.toNat (Tm.kind t) * (2 : Nat) + (1 : Nat)]? default))]) ∧ (((0 : Int) ≤ (0 : Int) ∧ (0 : Int) < (↑(2 : Nat) : Int)) ∧ [D.int IntKind.i64 (D.toInt
    (Option.getD (pairs takL)[Int.toNat (Tm.kind t) * (2 : Nat)]? default))] = [D.int IntKind.i64 (D.toInt (Option.getD (rowFrom ((fun (s : List Sh) => List.flatten (List.replicate (2 : Nat)
    s)) [Sh.int IntKind.i64]) (pairs takL) (Int.toNat (Tm.kind t) * (2 : Nat)))[(0 : Nat)]? default))]) ∧ ((0 : Int) ≤ n ∧ (List.map Bd.d e)[Int.toNat n]? = some (aggAt [Sh.str, Sh.int
    IntKind.i64] (List.map Bd.d e) (Int.toNat n))) ∧ ((D.toInt (Option.getD (rowFrom ((fun (s : List Sh) => List.flatten (List.replicate (2 : Nat) s)) [Sh.int IntKind.i64]) (pairs takL)
    (Int.toNat (Tm.kind t) * (2 : Nat)))[(0 : Nat)]? default) != D.toInt (Option.getD (cellAt (List.map Bd.d e) (Int.toNat n) (1 : Nat)) default)) = true → [D.int IntKind.i64 (0 : Int),
    D.int IntKind.i64 (80 : Int)] = [D.int IntKind.i64 (Prod.fst (termS e t)), D.int IntKind.i64 (Prod.snd (termS e t))]) ∧ ((D.toInt (Option.getD (rowFrom ((fun (s : List Sh) =>
    List.flatten (List.replicate (2 : Nat) s)) [Sh.int IntKind.i64]) (pairs takL) (Int.toNat (Tm.kind t) * (2 : Nat)))[(0 : Nat)]? default) != D.toInt (Option.getD (cellAt (List.map Bd.d e)
    (Int.toNat n) (1 : Nat)) default)) = false → (((0 : Int) ≤ Tm.kind t ∧ Tm.kind t < (↑(8 : Nat) : Int)) ∧ List.take (2 : Nat) (List.drop (Int.toNat (Tm.kind t) * (2 : Nat)) (pairs takL))
    = [D.int IntKind.i64 (D.toInt (Option.getD (pairs takL)[Int.toNat (Tm.kind t) * (2 : Nat)]? default)), D.int IntKind.i64 (D.toInt (Option.getD (pairs takL)[Int.toNat (Tm.kind t) * (2 :
    Nat) + (1 : Nat)]? default))]) ∧ (((0 : Int) ≤ (1 : Int) ∧ (1 : Int) < (↑(2 : Nat) : Int)) ∧ [D.int IntKind.i64 (D.toInt (Option.getD (pairs takL)[Int.toNat (Tm.kind t) * (2 : Nat) + (1
    : Nat)]? default))] = [D.int IntKind.i64 (D.toInt (Option.getD (rowFrom ((fun (s : List Sh) => List.flatten (List.replicate (2 : Nat) s)) [Sh.int IntKind.i64]) (pairs takL) (Int.toNat
    (Tm.kind t) * (2 : Nat)))[(1 : Nat)]? default))]) ∧ [D.int IntKind.i64 (D.toInt (Option.getD (rowFrom ((fun (s : List Sh) => List.flatten (List.replicate (2 : Nat) s)) [Sh.int
    IntKind.i64]) (pairs takL) (Int.toNat (Tm.kind t) * (2 : Nat)))[(1 : Nat)]? default)), D.int IntKind.i64 (0 : Int)] = [D.int IntKind.i64 (Prod.fst (termS e t)), D.int IntKind.i64
    (Prod.snd (termS e t))])))))
  · kernel_rfl
  unfold termS
  refine ⟨fun h => by rw [if_pos (by simpa using h)], fun h => ?_⟩
  have hk1 : ¬ t.kind = 1 := by simpa using h
  rw [if_neg hk1]
  refine (g53 e t.name hl).use ⟨_, rfl, ?_⟩
  rw [findI_neg]
  refine ⟨fun h => by rw [if_pos (by simpa using h)], fun h => ?_⟩
  have hh : hasE e t.name = true := by simpa using h
  rw [if_neg (by simp [hh])]
  obtain ⟨i, z, h1, h2, h3⟩ := find_some hh
  have hfi : findI e t.name = i := by unfold findI; rw [h1]
  rw [hfi, Int.toNat_natCast, agg_bd h2, cell_bd1 h2, ← h3]
  have e3 : D.toInt (Option.getD (some (D.int .i64 z.sort)) default) = z.sort := rfl
  rw [e3]
  have hget : (List.map Bd.d e)[i]? = some z.d := by simp [h2]
  have key : ∀ (a g : Int), askK t.kind = a → giveK t.kind z.sort = g → a ≠ 0 → ((a != z.sort) = true → [D.int .i64 0, D.int .i64 80] = [D.int .i64 (if askK t.kind ≠ 0 ∧ z.sort ≠ askK t.kind then ((0 : Int), (80 : Int)) else (giveK t.kind z.sort, 0)).1, D.int .i64 (if askK t.kind ≠ 0 ∧ z.sort ≠ askK t.kind then ((0 : Int), (80 : Int)) else (giveK t.kind z.sort, 0)).2]) ∧
      ((a != z.sort) = false → [D.int .i64 g, D.int .i64 0] = [D.int .i64 (if askK t.kind ≠ 0 ∧ z.sort ≠ askK t.kind then ((0 : Int), (80 : Int)) else (giveK t.kind z.sort, 0)).1, D.int .i64 (if askK t.kind ≠ 0 ∧ z.sort ≠ askK t.kind then ((0 : Int), (80 : Int)) else (giveK t.kind z.sort, 0)).2]) := by
    intro a g ha hg h0
    rw [ha, hg]
    refine ⟨fun h => ?_, fun h => ?_⟩
    · have h' : a ≠ z.sort := by simpa using h
      rw [if_pos ⟨h0, fun e => h' e.symm⟩]
    · have h' : a = z.sort := by simpa using h
      rw [if_neg (fun h2 => h2.2 h'.symm)]
  refine ⟨fun hk2 => ⟨⟨by omega, hget⟩, ?_⟩, fun hk2 => ?_⟩
  · have hk : t.kind = 2 := by simpa using hk2
    rw [hk]
    have ha : askK 2 = 0 := rfl
    rw [ha, if_neg (by simp)]; rfl
  · rcases term_kind ht hk1 (by simpa using hk2) with hk | hk | hk | hk | hk
    · have k1 := key 2 6 (by rw [hk]; rfl) (by rw [hk]; rfl) (by decide)
      rw [hk] at k1 ⊢
      exact ⟨⟨⟨by decide, by decide⟩, rfl⟩, ⟨⟨by decide, by decide⟩, rfl⟩, ⟨by omega, hget⟩, fun h => k1.1 h, fun h => ⟨⟨⟨by decide, by decide⟩, rfl⟩, ⟨⟨by decide, by decide⟩, rfl⟩, k1.2 h⟩⟩
    · have k1 := key 2 8 (by rw [hk]; rfl) (by rw [hk]; rfl) (by decide)
      rw [hk] at k1 ⊢
      exact ⟨⟨⟨by decide, by decide⟩, rfl⟩, ⟨⟨by decide, by decide⟩, rfl⟩, ⟨by omega, hget⟩, fun h => k1.1 h, fun h => ⟨⟨⟨by decide, by decide⟩, rfl⟩, ⟨⟨by decide, by decide⟩, rfl⟩, k1.2 h⟩⟩
    · have k1 := key 3 7 (by rw [hk]; rfl) (by rw [hk]; rfl) (by decide)
      rw [hk] at k1 ⊢
      exact ⟨⟨⟨by decide, by decide⟩, rfl⟩, ⟨⟨by decide, by decide⟩, rfl⟩, ⟨by omega, hget⟩, fun h => k1.1 h, fun h => ⟨⟨⟨by decide, by decide⟩, rfl⟩, ⟨⟨by decide, by decide⟩, rfl⟩, k1.2 h⟩⟩
    · have k1 := key 3 8 (by rw [hk]; rfl) (by rw [hk]; rfl) (by decide)
      rw [hk] at k1 ⊢
      exact ⟨⟨⟨by decide, by decide⟩, rfl⟩, ⟨⟨by decide, by decide⟩, rfl⟩, ⟨by omega, hget⟩, fun h => k1.1 h, fun h => ⟨⟨⟨by decide, by decide⟩, rfl⟩, ⟨⟨by decide, by decide⟩, rfl⟩, k1.2 h⟩⟩
    · have k1 := key 1 8 (by rw [hk]; rfl) (by rw [hk]; rfl) (by decide)
      rw [hk] at k1 ⊢
      exact ⟨⟨⟨by decide, by decide⟩, rfl⟩, ⟨⟨by decide, by decide⟩, rfl⟩, ⟨by omega, hget⟩, fun h => k1.1 h, fun h => ⟨⟨⟨by decide, by decide⟩, rfl⟩, ⟨⟨by decide, by decide⟩, rfl⟩, k1.2 h⟩⟩
theorem g58n (e : En) (ts : List Tm) (ht : ts.all termB = true) (hl : e.length < 4611686018427387904) (hts : ts.length < 1000) : PCall Tryd.prog (GG M) 58 [.d (.sl (ts.map Tm.d)), .clo 31 [.d (.sl (e.map Bd.d))] [], .nils] [] (fun rs H' => rs = [.sl ((sortsN e ts []).1.map intD), .int .i64 (sortsN e ts []).2] ∧ H' = []) := by
  refine PCall.walk (fn := Tryd.f58) (code := bodyOf Tryd.f58) mixed
    (LL [(2, loopW (α := Nat) Tryd.prog (GG M) L0 0 (loopN (bodyOf Tryd.f58) 0) [0, 1, 2, 7, 12, 13] (fun i => i ≤ ts.length ∧ sortsN e (ts.drop i) ((ts.take i).map fun t => (termS e t).1) = sortsN e ts []) (fun i => ts.length - i)
      (fun i => [(14, .d (.int .i64 i)), (6, .vec 0 (((ts.take i).map fun t => (termS e t).1).map intD))]) (fun _ i => [.vec i 1]))])
    Tryd.func58 (by kernel_rfl) rfl ⟨_, _, rfl, rfl⟩ (LoopsOk.one (b1 := loopN (bodyOf Tryd.f58) 0) (by kernel_rfl) (by kernel_rfl) (loopW_sound mixed (ok0 (by kernel_rfl)))) ?_
  apply @of_vc _ (
    ∃ (x0 : Nat), (x0 ≤ List.length ts ∧ sortsN e (List.drop x0 ts) (List.map (fun (t : Tm) => Prod.fst (termS e t)) (List.take x0 ts)) = sortsN e ts []) ∧ ((List.map Tm.d ts = List.map Tm.d
    ts ∧ AV.clo (31 : Nat) [AV.d (D.sl (List.map Bd.d e))] [] = AV.clo (31 : Nat) [AV.d (D.sl (List.map Bd.d e))] [] ∧ AV.nils = AV.nils ∧ ([] = List.map intD (List.map (fun (t : Tm) =>
    Prod.fst (termS e t)) (List.take x0 ts)) ∧ List.length ([] : List D) ≤ x0) ∧ (0 : Int) = (0 : Int) ∧ List.map Tm.d ts = List.map Tm.d ts ∧ (↑(List.length (List.map Tm.d ts)) : Int) =
    (↑(List.length (List.map Tm.d ts)) : Int) ∧ (0 : Int) = (↑x0 : Int) ∧ True) ∧ True) ∧ ∀ (x : Nat), x ≤ List.length ts ∧ sortsN e (List.drop x ts) (List.map (fun (t : Tm) => Prod.fst
    (termS e t)) (List.take x ts)) = sortsN e ts [] → (decide ((↑x : Int) < (↑(List.length (List.map Tm.d ts)) : Int)) = true → ((0 : Int) ≤ (↑x : Int) ∧ (List.map Tm.d ts)[Int.toNat (↑x :
    Int)]? = some (aggAt [Sh.int IntKind.i64, Sh.str, Sh.int IntKind.i64] (List.map Tm.d ts) (Int.toNat (↑x : Int)))) ∧ PFn Tryd.prog (GG M) (31 : Nat) [D.sl (List.map Bd.d e), aggAt [Sh.int
    IntKind.i64, Sh.str, Sh.int IntKind.i64] (List.map Tm.d ts) (Int.toNat (↑x : Int))] fun (rs : List D) => ∃ (n : Int), ∃ (n_1 : Int), rs = [D.int IntKind.i64 n, D.int IntKind.i64 n_1] ∧
    ((bif n_1 == (0 : Int) then !true else false) = true → (0 : Int) ≤ (↑x : Int) ∧ none = some (D.int IntKind.i64 (Int.ofNat (nat_lit 0)))) ∧ ((bif bif n_1 == (0 : Int) then !true else
    false then D.toInt (Option.getD (cellAt [] (Int.toNat (↑x : Int)) (0 : Nat)) default) != n else false) = true → (((80 : Int) != (0 : Int)) = true → [D.sl [], D.int IntKind.i64 (80 :
    Int)] = [D.sl (List.map intD (Prod.fst (sortsN e ts []))), D.int IntKind.i64 (Prod.snd (sortsN e ts []))] ∧ ([] : List Box) = []) ∧ (((80 : Int) != (0 : Int)) = false → (x = List.length
    (List.map intD (List.map (fun (t : Tm) => Prod.fst (termS e t)) (List.take x ts))) ∧ (1 : Nat) = (1 : Nat) ∧ FA (List.map intD (List.map (fun (t : Tm) => Prod.fst (termS e t)) (List.take
    x ts))) [D.int IntKind.i64 n] (nat_lit 1) (nat_lit 8)) ∧ ∃ (y : Nat), (y ≤ List.length ts ∧ sortsN e (List.drop y ts) (List.map (fun (t : Tm) => Prod.fst (termS e t)) (List.take y ts)) =
    sortsN e ts []) ∧ List.length ts - y < List.length ts - x ∧ (List.map Tm.d ts = List.map Tm.d ts ∧ AV.clo (31 : Nat) [AV.d (D.sl (List.map Bd.d e))] [] = AV.clo (31 : Nat) [AV.d (D.sl
    (List.map Bd.d e))] [] ∧ AV.nils = AV.nils ∧ List.map intD (List.map (fun (t : Tm) => Prod.fst (termS e t)) (List.take x ts)) ++ List.reverse [mkD false [D.int IntKind.i64 n]] = List.map
    intD (List.map (fun (t : Tm) => Prod.fst (termS e t)) (List.take y ts)) ∧ (0 : Int) = (0 : Int) ∧ List.map Tm.d ts = List.map Tm.d ts ∧ (↑(List.length (List.map Tm.d ts)) : Int) =
    (↑(List.length (List.map Tm.d ts)) : Int) ∧ IntKind.wrap IntKind.i64 ((↑x : Int) + (1 : Int)) = (↑y : Int) ∧ True) ∧ List.length (List.map intD (List.map (fun (t : Tm) => Prod.fst (termS
    e t)) (List.take x ts))) + List.length (List.reverse [mkD false [D.int IntKind.i64 n]]) = y ∧ True)) ∧ ((bif bif n_1 == (0 : Int) then !true else false then D.toInt (Option.getD (cellAt
    [] (Int.toNat (↑x : Int)) (0 : Nat)) default) != n else false) = false → ((n_1 != (0 : Int)) = true → [D.sl [], D.int IntKind.i64 n_1] = [D.sl (List.map intD (Prod.fst (sortsN e ts
    []))), D.int IntKind.i64 (Prod.snd (sortsN e ts []))] ∧ ([] : List Box) = []) ∧ ((n_1 != (0 : Int)) = false → (x = List.length (List.map intD (List.map (fun (t : Tm) => Prod.fst (termS e
    t)) (List.take x ts))) ∧ (1 : Nat) = (1 : Nat) ∧ FA (List.map intD (List.map (fun (t : Tm) => Prod.fst (termS e t)) (List.take x ts))) [D.int IntKind.i64 n] (nat_lit 1) (nat_lit 8)) ∧ ∃
    (y : Nat), (y ≤ List.length ts ∧ sortsN e (List.drop y ts) (List.map (fun (t : Tm) => Prod.fst (termS e t)) (List.take y ts)) = sortsN e ts []) ∧ List.length ts - y < List.length ts - x
    ∧ (List.map Tm.d ts = List.map Tm.d ts ∧ AV.clo (31 : Nat) [AV.d (D.sl (List.map Bd.d e))] [] = AV.clo (31 : Nat) [AV.d (D.sl (List.map Bd.d e))] [] ∧ AV.nils = AV.nils ∧ List.map intD
    (List.map (fun (t : Tm) => Prod.fst (termS e t)) (List.take x ts)) ++ List.reverse [mkD false [D.int IntKind.i64 n]] = List.map intD (List.map (fun (t : Tm) => Prod.fst (termS e t))
    (List.take y ts)) ∧ (0 : Int) = (0 : Int) ∧ List.map Tm.d ts = List.map Tm.d ts ∧ (↑(List.length (List.map Tm.d ts)) : Int) = (↑(List.length (List.map Tm.d ts)) : Int) ∧ IntKind.wrap
    IntKind.i64 ((↑x : Int) + (1 : Int)) = (↑y : Int) ∧ True) ∧ List.length (List.map intD (List.map (fun (t : Tm) => Prod.fst (termS e t)) (List.take x ts))) + List.length (List.reverse
    [mkD false [D.int IntKind.i64 n]]) = y ∧ True))) ∧ (decide ((↑x : Int) < (↑(List.length (List.map Tm.d ts)) : Int)) = false → [D.sl (List.map intD (List.map (fun (t : Tm) => Prod.fst
    (termS e t)) (List.take x ts))), D.int IntKind.i64 (0 : Int)] = [D.sl (List.map intD (Prod.fst (sortsN e ts []))), D.int IntKind.i64 (Prod.snd (sortsN e ts []))] ∧ ([] : List Box) = []))
  · kernel_rfl
  refine ⟨0, ⟨by omega, rfl⟩, ⟨⟨rfl, rfl, rfl, ⟨rfl, by simp⟩, rfl, rfl, rfl, rfl, trivial⟩, trivial⟩, fun i hi => ⟨fun hlt => ?_, fun hge => ?_⟩⟩
  · simp only [List.length_map, decide_eq_true_eq] at hlt
    obtain ⟨z, hz, hm⟩ := get_nat (l := ts) (x := i) (by omega)
    rw [Int.toNat_natCast, agg_tm hz]
    have hi2 := hi.2
    rw [drop_at hz, sortsN] at hi2
    have hno : ∀ b : Bool, (bif b then !true else false) = false := by intro b; cases b <;> rfl
    refine ⟨⟨by omega, by simp [hz]⟩, ?_⟩
    refine (g31 e z (List.all_eq_true.1 ht z hm) hl).use ⟨_, _, rfl, fun h => ?_, fun h => ?_, fun _ => ⟨fun h => ?_, fun h => ?_⟩⟩
    · rw [hno] at h; cases h
    · rw [hno] at h; cases h
    · rw [if_pos (by simpa using h)] at hi2
      rw [← hi2]; exact ⟨rfl, rfl⟩
    · rw [if_neg (by simpa using h)] at hi2
      have hlen : (List.map (fun t => (termS e t).1) (List.take i ts)).length = i := by simp; omega
      have hnx : (List.take (i + 1) ts).map (fun t => (termS e t).1) = (List.take i ts).map (fun t => (termS e t).1) ++ [(termS e z).1] := by rw [List.take_add_one, hz]; simp
      refine ⟨⟨by rw [List.length_map, hlen], rfl, FA_int _ _ (by rw [hlen]; omega)⟩, i + 1, ⟨by omega, by rw [hnx]; exact hi2⟩, by omega, ⟨rfl, rfl, rfl, ?_, rfl, rfl, rfl, ?_, trivial⟩, ?_, trivial⟩
      · rw [hnx, List.map_append]; rfl
      · rw [wrap64 (by omega) (by omega)]; simp
      · rw [List.length_map, hlen]; rfl
  · simp only [List.length_map, decide_eq_false_iff_not] at hge
    have hi2 := hi.2
    rw [List.drop_eq_nil_of_le (by omega), sortsN] at hi2
    rw [← hi2]
    exact ⟨rfl, rfl⟩
theorem g58w (e : En) (ts : List Tm) (wa wb : Int) (ht : ts.all termB = true) (hl : e.length < 4611686018427387904) (hts : ts.length = 2) : PCall Tryd.prog (GG M) 58 [.d (.sl (ts.map Tm.d)), .clo 31 [.d (.sl (e.map Bd.d))] [], .d (.sl [.int .i64 wa, .int .i64 wb])] [] (fun rs H' => (∃ l : List Int, rs = [.sl (l.map intD), .int .i64 (sortsW e ts [wa, wb])]) ∧ H' = []) := by
  refine PCall.walk (fn := Tryd.f58) (code := bodyOf Tryd.f58) mixed
    (LL [(2, loopW (α := Nat × List Int) Tryd.prog (GG M) L0 0 (loopN (bodyOf Tryd.f58) 0) [0, 1, 2, 7, 12, 13] (fun i => i.1 ≤ ts.length ∧ i.2.length = i.1 ∧ sortsW e (ts.drop i.1) ([wa, wb].drop i.1) = sortsW e ts [wa, wb]) (fun i => ts.length - i.1)
      (fun i => [(14, .d (.int .i64 i.1)), (6, .vec 0 (i.2.map intD))]) (fun _ i => [.vec i.1 1]))])
    Tryd.func58 (by kernel_rfl) rfl ⟨_, _, ⟨[], rfl⟩, rfl⟩ (LoopsOk.one (b1 := loopN (bodyOf Tryd.f58) 0) (by kernel_rfl) (by kernel_rfl) (loopW_sound mixed (ok0 (by kernel_rfl)))) ?_
  apply @of_vc _ (
    ∃ (x0 : Nat × List Int), (Prod.fst x0 ≤ List.length ts ∧ List.length (Prod.snd x0) = Prod.fst x0 ∧ sortsW e (List.drop (Prod.fst x0) ts) (List.drop (Prod.fst x0) [wa, wb]) = sortsW e ts
    [wa, wb]) ∧ ((List.map Tm.d ts = List.map Tm.d ts ∧ AV.clo (31 : Nat) [AV.d (D.sl (List.map Bd.d e))] [] = AV.clo (31 : Nat) [AV.d (D.sl (List.map Bd.d e))] [] ∧ [D.int IntKind.i64 wa,
    D.int IntKind.i64 wb] = [D.int IntKind.i64 wa, D.int IntKind.i64 wb] ∧ ([] = List.map intD (Prod.snd x0) ∧ List.length ([] : List D) ≤ Prod.fst x0) ∧ (0 : Int) = (0 : Int) ∧ List.map
    Tm.d ts = List.map Tm.d ts ∧ (↑(List.length (List.map Tm.d ts)) : Int) = (↑(List.length (List.map Tm.d ts)) : Int) ∧ (0 : Int) = (↑(Prod.fst x0) : Int) ∧ True) ∧ True) ∧ ∀ (x : Nat ×
    List Int), Prod.fst x ≤ List.length ts ∧ List.length (Prod.snd x) = Prod.fst x ∧ sortsW e (List.drop (Prod.fst x) ts) (List.drop (Prod.fst x) [wa, wb]) = sortsW e ts [wa, wb] → (decide
    ((↑(Prod.fst x) : Int) < (↑(List.length (List.map Tm.d ts)) : Int)) = true → ((0 : Int) ≤ (↑(Prod.fst x) : Int) ∧ (List.map Tm.d ts)[Int.toNat (↑(Prod.fst x) : Int)]? = some (aggAt
    [Sh.int IntKind.i64, Sh.str, Sh.int IntKind.i64] (List.map Tm.d ts) (Int.toNat (↑(Prod.fst x) : Int)))) ∧ PFn Tryd.prog (GG M) (31 : Nat) [D.sl (List.map Bd.d e), aggAt [Sh.int
    IntKind.i64, Sh.str, Sh.int IntKind.i64] (List.map Tm.d ts) (Int.toNat (↑(Prod.fst x) : Int))] fun (rs : List D) => ∃ (n : Int), ∃ (n_1 : Int), rs = [D.int IntKind.i64 n, D.int
    IntKind.i64 n_1] ∧ ((bif n_1 == (0 : Int) then !false else false) = true → (0 : Int) ≤ (↑(Prod.fst x) : Int) ∧ [D.int IntKind.i64 wa, D.int IntKind.i64 wb][Int.toNat (↑(Prod.fst x) :
    Int)]? = some (D.int IntKind.i64 (D.toInt (Option.getD (cellAt [D.int IntKind.i64 wa, D.int IntKind.i64 wb] (Int.toNat (↑(Prod.fst x) : Int)) (0 : Nat)) default)))) ∧ ((bif bif n_1 == (0
    : Int) then !false else false then D.toInt (Option.getD (cellAt [D.int IntKind.i64 wa, D.int IntKind.i64 wb] (Int.toNat (↑(Prod.fst x) : Int)) (0 : Nat)) default) != n else false) = true
    → (((80 : Int) != (0 : Int)) = true → (∃ (l : List Int), [D.sl [], D.int IntKind.i64 (80 : Int)] = [D.sl (List.map intD l), D.int IntKind.i64 (sortsW e ts [wa, wb])]) ∧ ([] : List Box) =
    []) ∧ (((80 : Int) != (0 : Int)) = false → (Prod.fst x = List.length (List.map intD (Prod.snd x)) ∧ (1 : Nat) = (1 : Nat) ∧ FA (List.map intD (Prod.snd x)) [D.int IntKind.i64 n] (nat_lit
    1) (nat_lit 8)) ∧ ∃ (y : Nat × List Int), (Prod.fst y ≤ List.length ts ∧ List.length (Prod.snd y) = Prod.fst y ∧ sortsW e (List.drop (Prod.fst y) ts) (List.drop (Prod.fst y) [wa, wb]) =
    sortsW e ts [wa, wb]) ∧ List.length ts - Prod.fst y < List.length ts - Prod.fst x ∧ (List.map Tm.d ts = List.map Tm.d ts ∧ AV.clo (31 : Nat) [AV.d (D.sl (List.map Bd.d e))] [] = AV.clo
    (31 : Nat) [AV.d (D.sl (List.map Bd.d e))] [] ∧ [D.int IntKind.i64 wa, D.int IntKind.i64 wb] = [D.int IntKind.i64 wa, D.int IntKind.i64 wb] ∧ List.map intD (Prod.snd x) ++ List.reverse
    [mkD false [D.int IntKind.i64 n]] = List.map intD (Prod.snd y) ∧ (0 : Int) = (0 : Int) ∧ List.map Tm.d ts = List.map Tm.d ts ∧ (↑(List.length (List.map Tm.d ts)) : Int) = (↑(List.length
    (List.map Tm.d ts)) : Int) ∧ IntKind.wrap IntKind.i64 ((↑(Prod.fst x) : Int) + (1 : Int)) = (↑(Prod.fst y) : Int) ∧ True) ∧ List.length (List.map intD (Prod.snd x)) + List.length
    (List.reverse [mkD false [D.int IntKind.i64 n]]) = Prod.fst y ∧ True)) ∧ ((bif bif n_1 == (0 : Int) then !false else false then D.toInt (Option.getD (cellAt [D.int IntKind.i64 wa, D.int
    IntKind.i64 wb] (Int.toNat (↑(Prod.fst x) : Int)) (0 : Nat)) default) != n else false) = false → ((n_1 != (0 : Int)) = true → (∃ (l : List Int), [D.sl [], D.int IntKind.i64 n_1] = [D.sl
    (List.map intD l), D.int IntKind.i64 (sortsW e ts [wa, wb])]) ∧ ([] : List Box) = []) ∧ ((n_1 != (0 : Int)) = false → (Prod.fst x = List.length (List.map intD (Prod.snd x)) ∧ (1 : Nat) =
    (1 : Nat) ∧ FA (List.map intD (Prod.snd x)) [D.int IntKind.i64 n] (nat_lit 1) (nat_lit 8)) ∧ ∃ (y : Nat × List Int), (Prod.fst y ≤ List.length ts ∧ List.length (Prod.snd y) = Prod.fst y
    ∧ sortsW e (List.drop (Prod.fst y) ts) (List.drop (Prod.fst y) [wa, wb]) = sortsW e ts [wa, wb]) ∧ List.length ts - Prod.fst y < List.length ts - Prod.fst x ∧ (List.map Tm.d ts =
    List.map Tm.d ts ∧ AV.clo (31 : Nat) [AV.d (D.sl (List.map Bd.d e))] [] = AV.clo (31 : Nat) [AV.d (D.sl (List.map Bd.d e))] [] ∧ [D.int IntKind.i64 wa, D.int IntKind.i64 wb] = [D.int
    IntKind.i64 wa, D.int IntKind.i64 wb] ∧ List.map intD (Prod.snd x) ++ List.reverse [mkD false [D.int IntKind.i64 n]] = List.map intD (Prod.snd y) ∧ (0 : Int) = (0 : Int) ∧ List.map Tm.d
    ts = List.map Tm.d ts ∧ (↑(List.length (List.map Tm.d ts)) : Int) = (↑(List.length (List.map Tm.d ts)) : Int) ∧ IntKind.wrap IntKind.i64 ((↑(Prod.fst x) : Int) + (1 : Int)) = (↑(Prod.fst
    y) : Int) ∧ True) ∧ List.length (List.map intD (Prod.snd x)) + List.length (List.reverse [mkD false [D.int IntKind.i64 n]]) = Prod.fst y ∧ True))) ∧ (decide ((↑(Prod.fst x) : Int) <
    (↑(List.length (List.map Tm.d ts)) : Int)) = false → (∃ (l : List Int), [D.sl (List.map intD (Prod.snd x)), D.int IntKind.i64 (0 : Int)] = [D.sl (List.map intD l), D.int IntKind.i64
    (sortsW e ts [wa, wb])]) ∧ ([] : List Box) = []))
  · kernel_rfl
  refine ⟨(0, []), ⟨by simp, rfl, rfl⟩, ⟨⟨rfl, rfl, rfl, ⟨rfl, by simp⟩, rfl, rfl, rfl, rfl, trivial⟩, trivial⟩, ?_⟩
  rintro ⟨i, out⟩ ⟨hi, ho, hi2⟩
  dsimp only at hi ho hi2 ⊢
  refine ⟨fun hlt => ?_, fun hge => ?_⟩
  · simp only [List.length_map, decide_eq_true_eq] at hlt
    obtain ⟨z, hz, hm⟩ := get_nat (l := ts) (x := i) (by omega)
    obtain ⟨w, hw, _⟩ := get_nat (l := [wa, wb]) (x := i) (by simp; omega)
    rw [Int.toNat_natCast, agg_tm hz, cell_two hw]
    have e3 : D.toInt (Option.getD (some (D.int .i64 w)) default) = w := rfl
    rw [e3]
    rw [drop_at hz, drop_at hw, sortsW] at hi2
    refine ⟨⟨by omega, by simp [hz]⟩, ?_⟩
    have goOn : ofS e z w = 0 → (i = (List.map intD out).length ∧ 1 = 1 ∧ FA (List.map intD out) [D.int .i64 (termS e z).1] 1 8) ∧ ∃ y : Nat × List Int, (y.1 ≤ ts.length ∧ y.2.length = y.1 ∧ sortsW e (List.drop y.1 ts) (List.drop y.1 [wa, wb]) = sortsW e ts [wa, wb]) ∧ ts.length - y.1 < ts.length - i ∧
        (List.map Tm.d ts = List.map Tm.d ts ∧ AV.clo 31 [AV.d (D.sl (List.map Bd.d e))] [] = AV.clo 31 [AV.d (D.sl (List.map Bd.d e))] [] ∧ [D.int .i64 wa, D.int .i64 wb] = [D.int .i64 wa, D.int .i64 wb] ∧ List.map intD out ++ [mkD false [D.int .i64 (termS e z).1]].reverse = List.map intD y.2 ∧ (0 : Int) = 0 ∧ List.map Tm.d ts = List.map Tm.d ts ∧ ((List.map Tm.d ts).length : Int) = ((List.map Tm.d ts).length : Int) ∧ IntKind.i64.wrap ((i : Int) + 1) = (y.1 : Int) ∧ True) ∧ (List.map intD out).length + [mkD false [D.int .i64 (termS e z).1]].reverse.length = y.1 ∧ True := by
      intro h0
      rw [if_neg (by simp [h0])] at hi2
      refine ⟨⟨by rw [List.length_map, ho], rfl, FA_int _ _ (by omega)⟩, (i + 1, out ++ [(termS e z).1]), ⟨by simp only; omega, by simp [ho], hi2⟩, by simp only; omega, ⟨rfl, rfl, rfl, ?_, rfl, rfl, rfl, ?_, trivial⟩, ?_, trivial⟩
      · rw [List.map_append]; rfl
      · rw [wrap64 (by omega) (by omega)]; simp
      · rw [List.length_map, ho]; rfl
    refine (g31 e z (List.all_eq_true.1 ht z hm) hl).use ⟨_, _, rfl, fun _ => ⟨by omega, get_two hw⟩, fun h => ⟨fun _ => ?_, fun h => (by cases h)⟩, fun h => ⟨fun h2 => ?_, fun h2 => ?_⟩⟩
    · have h0 : ofS e z w = 80 := by
        unfold ofS
        rw [if_pos]
        cases hb : (termS e z).2 == 0 with
        | false => rw [hb] at h; cases h
        | true =>
          rw [hb] at h
          have h5 : ¬ w = (termS e z).1 := by simpa using h
          exact ⟨by simpa using hb, fun h6 => h5 h6.symm⟩
      rw [if_pos (by rw [h0]; decide), h0] at hi2
      exact ⟨⟨[], by rw [← hi2]; rfl⟩, rfl⟩
    · have hne : ¬ (termS e z).2 = 0 := by simpa using h2
      have h0 : ofS e z w = (termS e z).2 := by unfold ofS; rw [if_neg (fun h3 => hne h3.1)]
      rw [if_pos (by rw [h0]; exact hne), h0] at hi2
      exact ⟨⟨[], by rw [← hi2]; rfl⟩, rfl⟩
    · have he0 : (termS e z).2 = 0 := by simpa using h2
      refine goOn ?_
      unfold ofS
      rw [he0] at h ⊢
      rw [if_neg]
      rintro ⟨_, h4⟩
      have : (bif bif (0 : Int) == 0 then !false else false then w != (termS e z).1 else false) = (w != (termS e z).1) := rfl
      rw [this] at h
      exact h4 (by simpa using h : w = (termS e z).1).symm
  · simp only [List.length_map, decide_eq_false_iff_not] at hge
    have h2 : sortsW e ts [wa, wb] = 0 := by
      rw [List.drop_eq_nil_of_le (by omega)] at hi2
      rw [← hi2]; rfl
    exact ⟨⟨out, by rw [h2]⟩, rfl⟩
theorem g86 (l : List Int) (n : Int) (hl : l.length < 4611686018427387904) : PFn Tryd.prog G 86 [.sl (l.map intD), .int .i64 n] (fun rs => ∃ r : Int, rs = [.int .i64 r] ∧ decide (r ≥ 0) = l.contains n) := by
  refine PFn.walk (fn := Tryd.f86) (code := bodyOf Tryd.f86) mixed
    (LL [(2, loopW (α := Nat) Tryd.prog G L0 0 (loopN (bodyOf Tryd.f86) 0) [0, 1, 7] (fun i => i ≤ l.length ∧ (l.take i).contains n = false) (fun i => l.length - i)
      (fun i => [(8, .d (.int .i64 i))]) (fun H _ => H))])
    Tryd.func86 (by kernel_rfl) ⟨_, if l.contains n then 0 else -1, rfl, by cases l.contains n <;> rfl⟩ (LoopsOk.one (b1 := loopN (bodyOf Tryd.f86) 0) (by kernel_rfl) (by kernel_rfl) (loopW_sound mixed (ok0 (by kernel_rfl)))) ?_
  apply @of_vc _ (
    ∃ (x0 : Nat), (x0 ≤ List.length l ∧ List.contains (List.take x0 l) n = false) ∧ ((List.map intD l = List.map intD l ∧ n = n ∧ (↑(List.length (List.map intD l)) : Int) = (↑(List.length
    (List.map intD l)) : Int) ∧ (0 : Int) = (↑x0 : Int) ∧ True) ∧ True) ∧ ∀ (x : Nat), x ≤ List.length l ∧ List.contains (List.take x l) n = false → (decide ((↑x : Int) < (↑(List.length
    (List.map intD l)) : Int)) = true → ((0 : Int) ≤ (↑x : Int) ∧ (List.map intD l)[Int.toNat (↑x : Int)]? = some (D.int IntKind.i64 (D.toInt (Option.getD (cellAt (List.map intD l)
    (Int.toNat (↑x : Int)) (0 : Nat)) default)))) ∧ ((n == D.toInt (Option.getD (cellAt (List.map intD l) (Int.toNat (↑x : Int)) (0 : Nat)) default)) = true → ∃ (r : Int), [D.int IntKind.i64
    (↑x : Int)] = [D.int IntKind.i64 r] ∧ decide (r ≥ (0 : Int)) = List.contains l n) ∧ ((n == D.toInt (Option.getD (cellAt (List.map intD l) (Int.toNat (↑x : Int)) (0 : Nat)) default)) =
    false → ∃ (y : Nat), (y ≤ List.length l ∧ List.contains (List.take y l) n = false) ∧ List.length l - y < List.length l - x ∧ (List.map intD l = List.map intD l ∧ n = n ∧ (↑(List.length
    (List.map intD l)) : Int) = (↑(List.length (List.map intD l)) : Int) ∧ IntKind.wrap IntKind.i64 ((↑x : Int) + (1 : Int)) = (↑y : Int) ∧ True) ∧ True)) ∧ (decide ((↑x : Int) <
    (↑(List.length (List.map intD l)) : Int)) = false → ∃ (r : Int), [D.int IntKind.i64 (-1 : Int)] = [D.int IntKind.i64 r] ∧ decide (r ≥ (0 : Int)) = List.contains l n))
  · kernel_rfl
  refine ⟨0, ⟨by omega, rfl⟩, by simp, fun i hi => ⟨fun hlt => ?_, fun hge => ?_⟩⟩
  · simp only [List.length_map, decide_eq_true_eq] at hlt
    obtain ⟨z, hz, hm⟩ := get_nat (l := l) (x := i) (by omega)
    rw [Int.toNat_natCast, cell_int hz]
    have e3 : D.toInt (Option.getD (some (D.int .i64 z)) default) = z := rfl
    rw [e3]
    refine ⟨⟨by omega, by simp [hz, intD]⟩, fun h => ⟨_, rfl, ?_⟩, fun h => ⟨i + 1, ⟨by omega, ?_⟩, by omega, ?_⟩⟩
    · have hn : n = z := by simpa using h
      have : l.contains n = true := by rw [hn]; simpa using hm
      rw [this]; simp
    · have hn : ¬ n = z := by simpa using h
      have h2 := hi.2
      rw [List.take_add_one, hz]
      simp only [Option.toList_some, List.contains_eq_mem, List.mem_append, List.mem_singleton, decide_eq_false_iff_not] at h2 ⊢
      rintro (h3 | h3)
      · exact h2 h3
      · exact hn h3
    · rw [wrap64 (by omega) (by omega)]; simp
  · simp only [List.length_map, decide_eq_false_iff_not] at hge
    have h2 := hi.2
    rw [List.take_of_length_le (by omega)] at h2
    exact ⟨_, rfl, by rw [h2]; rfl⟩
theorem g59 (l : List Int) (n : Int) (hl : l.length < 4611686018427387904) : PFn Tryd.prog G 59 [.sl (l.map intD), .int .i64 n] (· = [.bool (l.contains n)]) := by
  refine PFn.walk (fn := Tryd.f59) (code := bodyOf Tryd.f59) mixed L0 Tryd.func59 (by kernel_rfl) ⟨_, rfl⟩ (ok0 (by kernel_rfl)) ?_
  apply @of_vc _ (
    PFn Tryd.prog G (86 : Nat) [D.sl (List.map intD l), D.int IntKind.i64 n] fun (rs : List D) => ∃ (n_1 : Int), rs = [D.int IntKind.i64 n_1] ∧ [D.bool (decide (n_1 ≥ (0 : Int)))] = [D.bool
    (List.contains l n)])
  · kernel_rfl
  refine (g86 l n hl).mono ?_
  rintro rs ⟨r, rfl, hr⟩
  exact ⟨r, rfl, by rw [hr]⟩
theorem g36 (f : Fm) (hf : f.formB = true) (e : En) (hw : e.length + f.wt < 1099511627776) : PFn Tryd.prog (GG M) 36 [.sl (e.map Bd.d), f.d] (· = [.int .i64 (f.ty e)]) := by
  induction f using Fm.induct generalizing e with
  | h f ih =>
  rw [d_cells f]
  refine PFn.walk (fn := Tryd.f36) (code := bodyOf Tryd.f36) mixed
    (LL [(14, loopW (α := Nat) Tryd.prog (GG M) L0 0 (loopN (bodyOf Tryd.f36) 0) [0, 3, 78, 79] (fun i => i ≤ f.bs.length ∧ addE e f.bs = addE (e ++ f.bs.take i) (f.bs.drop i)) (fun i => f.bs.length - i)
      (fun i => [(80, .d (.int .i64 i)), (10, .vec 1 ((e ++ f.bs.take i).map Bd.d))]) (fun H i => [H.getD 0 .dead, .vec (e.length + i) 2])),
     (21, loopW (α := Nat) Tryd.prog (GG M) L0 0 (loopN (bodyOf Tryd.f36) 1) [0, 3, 10, 95, 96] (fun i => i ≤ f.l.length ∧ Fm.tys (f.l.drop i) (e ++ f.bs) = Fm.tys f.l (e ++ f.bs)) (fun i => f.l.length - i)
      (fun i => [(97, .d (.int .i64 i))]) (fun H i => [H.getD 0 .dead, H.getD 1 .dead]))])
    Tryd.func36 (by kernel_rfl) ⟨_, rfl⟩ (LoopsOk.two (b1 := loopN (bodyOf Tryd.f36) 0) (b2 := loopN (bodyOf Tryd.f36) 1) (by kernel_rfl) (by kernel_rfl) (by kernel_rfl) (loopW_sound mixed (ok0 (by kernel_rfl))) (loopW_sound mixed (ok0 (by kernel_rfl)))) ?_
  have hty := f.ty_eq e
  have hwt := f.wt_eq
  have hwl := wts_len f.l
  have hall : ∀ x ∈ f.l, x.formB = true := by
    rw [f.formB_eq, formsB_all, Bool.and_eq_true] at hf; exact List.all_eq_true.1 hf.2
  apply @of_vc _ (
    ((Fm.kind f == (9 : Int)) = true → PCall Tryd.prog (GG M) (58 : Nat) [AV.d (D.sl (List.map Tm.d (Fm.ts f))), AV.clo (31 : Nat) [AV.d (D.sl (List.map Bd.d e))] [], AV.nils] [] fun (rs : List D) (H' : List Box) => ∃ (l : List D), ∃ (n : Int), rs = [D.sl l, D.int IntKind.i64 n] ∧ H' = [] ∧ ((n != (0 : Int)) = true → [D.int IntKind.i64 n] = [D.int IntKind.i64 (Fm.ty f e)]) ∧ ((n != (0 : Int)) = false → ((0 : Int) ≤ (0 : Int) ∧ l[Int.toNat (0 : Int)]? = some (D.int IntKind.i64 (D.toInt (Option.getD (cellAt l (Int.toNat (0 : Int)) (0 : Nat)) default)))) ∧ PFn Tryd.prog (GG M) (59 : Nat) [D.sl [D.int IntKind.i64 (8 : Int), D.int IntKind.i64 (2 : Int), D.int IntKind.i64 (6 : Int)], D.int IntKind.i64 (D.toInt (Option.getD (cellAt l (Int.toNat (0 : Int)) (0 : Nat)) default))] fun (rs : List D) => ∃ (b : Bool), rs = [D.bool b] ∧ ((0 : Int) ≤ (0 : Int) ∧ l[Int.toNat (0 : Int)]? = some (D.int IntKind.i64 (D.toInt (Option.getD (cellAt l (Int.toNat (0 : Int)) (0 : Nat)) default)))) ∧ ((0 : Int) ≤ (1 : Int) ∧ l[Int.toNat (1 : Int)]? = some (D.int IntKind.i64 (D.toInt (Option.getD (cellAt l (Int.toNat (1 : Int)) (0 : Nat)) default)))) ∧ ((bif D.toInt (Option.getD (cellAt l (Int.toNat (0 : Int)) (0 : Nat)) default) != D.toInt (Option.getD (cellAt l (Int.toNat (1 : Int)) (0 : Nat)) default) then true else !bif bif b then true else Fm.name f == Array.toList (ByteArray.data (ByteArray.mk #[(61 : UInt8)])) then true else Fm.name f == Array.toList (ByteArray.data (ByteArray.mk #[(33 : UInt8), (61 : UInt8)]))) = true → [D.int IntKind.i64 (80 : Int)] = [D.int IntKind.i64 (Fm.ty f e)]) ∧ ((bif D.toInt (Option.getD (cellAt l (Int.toNat (0 : Int)) (0 : Nat)) default) != D.toInt (Option.getD (cellAt l (Int.toNat (1 : Int)) (0 : Nat)) default) then true else !bif bif b then true else Fm.name f == Array.toList (ByteArray.data (ByteArray.mk #[(61 : UInt8)])) then true else Fm.name f == Array.toList (ByteArray.data (ByteArray.mk #[(33 : UInt8), (61 : UInt8)]))) = false → [D.int IntKind.i64 (0 : Int)] = [D.int IntKind.i64 (Fm.ty f e)]))) ∧ ((Fm.kind f == (9 : Int)) = false → (decide ((↑(List.length (List.map Tm.d (Fm.ts f))) : Int) > (0 : Int)) = true → (((0 : Int) ≤ Fm.kind f ∧ Fm.kind f < (↑(9 : Nat) : Int)) ∧ List.take (2 : Nat) (List.drop (Int.toNat (Fm.kind f) * (2 : Nat)) (pairs askL)) = [D.int IntKind.i64 (D.toInt (Option.getD (pairs askL)[Int.toNat (Fm.kind f) * (2 : Nat)]? default)), D.int IntKind.i64 (D.toInt (Option.getD (pairs askL)[Int.toNat (Fm.kind f) * (2 : Nat) + (1 : Nat)]? default))]) ∧ True ∧ PCall Tryd.prog (GG M) (58 : Nat) [AV.d (D.sl (List.map Tm.d (Fm.ts f))), AV.clo (31 : Nat) [AV.d (D.sl (List.map Bd.d e))] [], AV.d (D.sl [D.int IntKind.i64 (D.toInt (Option.getD (pairs askL)[Int.toNat (Fm.kind f) * (2 : Nat)]? default)), D.int IntKind.i64 (D.toInt (Option.getD (pairs askL)[Int.toNat (Fm.kind f) * (2 : Nat) + (1 : Nat)]? default))])] [] fun (rs : List D) (H' : List Box) => H' = [] ∧ ∃ (l : List D), ∃ (n : Int), rs = [D.sl l, D.int IntKind.i64 n] ∧ [D.int IntKind.i64 n] = [D.int IntKind.i64 (Fm.ty f e)]) ∧ (decide ((↑(List.length (List.map Tm.d (Fm.ts f))) : Int) > (0 : Int)) = false → PFnF Tryd.prog (GG M) (60 : Nat) [D.sl (List.map Bd.d e)] fun (l : List D) => ∃ (x0 : Nat), (x0 ≤ List.length (Fm.bs f) ∧ addE e (Fm.bs f) = addE (e ++ List.take x0 (Fm.bs f)) (List.drop x0 (Fm.bs f))) ∧ ((List.map Bd.d e = List.map Bd.d e ∧ AV.ptr (0 : Nat) (0 : Nat) = AV.ptr (0 : Nat) (0 : Nat) ∧ (l = List.map Bd.d (e ++ List.take x0 (Fm.bs f)) ∧ List.length l ≤ List.length e + x0) ∧ List.map Bd.d (Fm.bs f) = List.map Bd.d (Fm.bs f) ∧ (↑(List.length (List.map Bd.d (Fm.bs f))) : Int) = (↑(List.length (List.map Bd.d (Fm.bs f))) : Int) ∧ (0 : Int) = (↑x0 : Int) ∧ True) ∧ (Fm.kind f = Fm.kind f ∧ Fm.name f = Fm.name f ∧ Fm.n f = Fm.n f ∧ List.map Tm.d (Fm.ts f) = List.map Tm.d (Fm.ts f) ∧ List.map Bd.d (Fm.bs f) = List.map Bd.d (Fm.bs f) ∧ List.map Fm.d (Fm.l f) = List.map Fm.d (Fm.l f) ∧ True) ∧ True) ∧ ∀ (x : Nat), x ≤ List.length (Fm.bs f) ∧ addE e (Fm.bs f) = addE (e ++ List.take x (Fm.bs f)) (List.drop x (Fm.bs f)) → (decide ((↑x : Int) < (↑(List.length (List.map Bd.d (Fm.bs f))) : Int)) = true → ((0 : Int) ≤ (↑x : Int) ∧ (List.map Bd.d (Fm.bs f))[Int.toNat (↑x : Int)]? = some (aggAt [Sh.str, Sh.int IntKind.i64] (List.map Bd.d (Fm.bs f)) (Int.toNat (↑x : Int)))) ∧ PFn Tryd.prog (GG M) (53 : Nat) [D.sl (List.map Bd.d (e ++ List.take x (Fm.bs f))), D.str (D.toStr (Option.getD (cellAt (List.map Bd.d (Fm.bs f)) (Int.toNat (↑x : Int)) (0 : Nat)) default))] fun (rs : List D) => ∃ (n : Int), rs = [D.int IntKind.i64 n] ∧ (decide (n ≥ (0 : Int)) = true → [D.int IntKind.i64 (82 : Int)] = [D.int IntKind.i64 (Fm.ty f e)]) ∧ (decide (n ≥ (0 : Int)) = false → (List.length e + x = List.length (List.map Bd.d (e ++ List.take x (Fm.bs f))) ∧ (2 : Nat) = (2 : Nat) ∧ FA (List.map Bd.d (e ++ List.take x (Fm.bs f))) [aggAt [Sh.str, Sh.int IntKind.i64] (List.map Bd.d (Fm.bs f)) (Int.toNat (↑x : Int))] (nat_lit 2) (nat_lit 24)) ∧ ∃ (y : Nat), (y ≤ List.length (Fm.bs f) ∧ addE e (Fm.bs f) = addE (e ++ List.take y (Fm.bs f)) (List.drop y (Fm.bs f))) ∧ List.length (Fm.bs f) - y < List.length (Fm.bs f) - x ∧ (List.map Bd.d e = List.map Bd.d e ∧ AV.ptr (0 : Nat) (0 : Nat) = AV.ptr (0 : Nat) (0 : Nat) ∧ List.map Bd.d (e ++ List.take x (Fm.bs f)) ++ List.reverse [D.agg (List.reverse [(fun (x_1 : Sh × Nat) => match x_1 with | (sh, j) => Sh.norm sh (Option.getD (cellAt (List.map Bd.d (Fm.bs f)) (Int.toNat (↑x : Int)) j) default)) (Sh.int IntKind.i64, (0 : Nat) + (1 : Nat)), (fun (x_1 : Sh × Nat) => match x_1 with | (sh, j) => Sh.norm sh (Option.getD (cellAt (List.map Bd.d (Fm.bs f)) (Int.toNat (↑x : Int)) j) default)) (Sh.str, (0 : Nat))])] = List.map Bd.d (e ++ List.take y (Fm.bs f)) ∧ List.map Bd.d (Fm.bs f) = List.map Bd.d (Fm.bs f) ∧ (↑(List.length (List.map Bd.d (Fm.bs f))) : Int) = (↑(List.length (List.map Bd.d (Fm.bs f))) : Int) ∧ IntKind.wrap IntKind.i64 ((↑x : Int) + (1 : Int)) = (↑y : Int) ∧ True) ∧ (Fm.kind f = Fm.kind f ∧ Fm.name f = Fm.name f ∧ Fm.n f = Fm.n f ∧ List.map Tm.d (Fm.ts f) = List.map Tm.d (Fm.ts f) ∧ List.map Bd.d (Fm.bs f) = List.map Bd.d (Fm.bs f) ∧ List.map Fm.d (Fm.l f) = List.map Fm.d (Fm.l f) ∧ True) ∧ List.length (List.map Bd.d (e ++ List.take x (Fm.bs f))) + List.length (List.reverse [D.agg (List.reverse [(fun (x_1 : Sh × Nat) => match x_1 with | (sh, j) => Sh.norm sh (Option.getD (cellAt (List.map Bd.d (Fm.bs f)) (Int.toNat (↑x : Int)) j) default)) (Sh.int IntKind.i64, (0 : Nat) + (1 : Nat)), (fun (x_1 : Sh × Nat) => match x_1 with | (sh, j) => Sh.norm sh (Option.getD (cellAt (List.map Bd.d (Fm.bs f)) (Int.toNat (↑x : Int)) j) default)) (Sh.str, (0 : Nat))])]) = List.length e + y ∧ True)) ∧ (decide ((↑x : Int) < (↑(List.length (List.map Bd.d (Fm.bs f))) : Int)) = false → ∃ (x0 : Nat), (x0 ≤ List.length (Fm.l f) ∧ Fm.tys (List.drop x0 (Fm.l f)) (e ++ Fm.bs f) = Fm.tys (Fm.l f) (e ++ Fm.bs f)) ∧ ((List.map Bd.d e = List.map Bd.d e ∧ AV.ptr (0 : Nat) (0 : Nat) = AV.ptr (0 : Nat) (0 : Nat) ∧ List.map Bd.d (e ++ List.take x (Fm.bs f)) = List.map Bd.d (e ++ List.take x (Fm.bs f)) ∧ List.map Fm.d (Fm.l f) = List.map Fm.d (Fm.l f) ∧ (↑(List.length (List.map Fm.d (Fm.l f))) : Int) = (↑(List.length (List.map Fm.d (Fm.l f))) : Int) ∧ (0 : Int) = (↑x0 : Int) ∧ True) ∧ (Fm.kind f = Fm.kind f ∧ Fm.name f = Fm.name f ∧ Fm.n f = Fm.n f ∧ List.map Tm.d (Fm.ts f) = List.map Tm.d (Fm.ts f) ∧ List.map Bd.d (Fm.bs f) = List.map Bd.d (Fm.bs f) ∧ List.map Fm.d (Fm.l f) = List.map Fm.d (Fm.l f) ∧ True) ∧ List.length e + x = List.length e + x ∧ True) ∧ ∀ (x_1 : Nat), x_1 ≤ List.length (Fm.l f) ∧ Fm.tys (List.drop x_1 (Fm.l f)) (e ++ Fm.bs f) = Fm.tys (Fm.l f) (e ++ Fm.bs f) → (decide ((↑x_1 : Int) < (↑(List.length (List.map Fm.d (Fm.l f))) : Int)) = true → ((0 : Int) ≤ (↑x_1 : Int) ∧ (List.map Fm.d (Fm.l f))[Int.toNat (↑x_1 : Int)]? = some (aggAt [Sh.int IntKind.i64, Sh.str, Sh.int IntKind.i64, Sh.sl, Sh.sl, Sh.sl] (List.map Fm.d (Fm.l f)) (Int.toNat (↑x_1 : Int)))) ∧ PFn Tryd.prog (GG M) (36 : Nat) [D.sl (List.map Bd.d (e ++ List.take x (Fm.bs f))), aggAt [Sh.int IntKind.i64, Sh.str, Sh.int IntKind.i64, Sh.sl, Sh.sl, Sh.sl] (List.map Fm.d (Fm.l f)) (Int.toNat (↑x_1 : Int))] fun (rs : List D) => ∃ (n : Int), rs = [D.int IntKind.i64 n] ∧ ((n != (0 : Int)) = true → [D.int IntKind.i64 n] = [D.int IntKind.i64 (Fm.ty f e)]) ∧ ((n != (0 : Int)) = false → ∃ (y : Nat), (y ≤ List.length (Fm.l f) ∧ Fm.tys (List.drop y (Fm.l f)) (e ++ Fm.bs f) = Fm.tys (Fm.l f) (e ++ Fm.bs f)) ∧ List.length (Fm.l f) - y < List.length (Fm.l f) - x_1 ∧ (List.map Bd.d e = List.map Bd.d e ∧ AV.ptr (0 : Nat) (0 : Nat) = AV.ptr (0 : Nat) (0 : Nat) ∧ List.map Bd.d (e ++ List.take x (Fm.bs f)) = List.map Bd.d (e ++ List.take x (Fm.bs f)) ∧ List.map Fm.d (Fm.l f) = List.map Fm.d (Fm.l f) ∧ (↑(List.length (List.map Fm.d (Fm.l f))) : Int) = (↑(List.length (List.map Fm.d (Fm.l f))) : Int) ∧ IntKind.wrap IntKind.i64 ((↑x_1 : Int) + (1 : Int)) = (↑y : Int) ∧ True) ∧ (Fm.kind f = Fm.kind f ∧ Fm.name f = Fm.name f ∧ Fm.n f = Fm.n f ∧ List.map Tm.d (Fm.ts f) = List.map Tm.d (Fm.ts f) ∧ List.map Bd.d (Fm.bs f) = List.map Bd.d (Fm.bs f) ∧ List.map Fm.d (Fm.l f) = List.map Fm.d (Fm.l f) ∧ True) ∧ List.length e + x = List.length e + x ∧ True)) ∧ (decide ((↑x_1 : Int) < (↑(List.length (List.map Fm.d (Fm.l f))) : Int)) = false → [D.int IntKind.i64 (0 : Int)] = [D.int IntKind.i64 (Fm.ty f e)])))))
  · kernel_rfl
  refine ⟨fun h9 => ?_, fun h9 => ⟨fun hts => ?_, fun hts => ?_⟩⟩
  · have h9' : f.kind = 9 := by simpa using h9
    have ha : atomB f.kind = true := by rw [h9']; rfl
    obtain ⟨_, _, a, b, hab⟩ := atom_pair hf ha
    have htt := atom_terms hf ha
    rw [if_pos h9', hab] at hty
    have e0 : tmAt [a, b] 0 = a := rfl
    have e1 : tmAt [a, b] 1 = b := rfl
    rw [e0, e1] at hty
    unfold cmpS at hty
    refine (g58n e f.ts htt (by omega) (by rw [hab]; simp)).mono ?_
    rintro rs H' ⟨rfl, rfl⟩
    rw [hab]
    by_cases ha0 : (termS e a).2 = 0
    · rw [if_neg (by simp [ha0])] at hty
      by_cases hb0 : (termS e b).2 = 0
      · rw [if_neg (by simp [hb0])] at hty
        have hS : sortsN e [a, b] [] = ([(termS e a).1, (termS e b).1], 0) := by simp [sortsN, ha0, hb0]
        rw [hS]
        refine ⟨_, _, rfl, rfl, fun h => (by cases h), fun _ => ⟨⟨by omega, rfl⟩, ?_⟩⟩
        refine (g59 [8, 2, 6] (termS e a).1 (by decide)).use ⟨_, rfl, ⟨by omega, rfl⟩, ⟨by omega, rfl⟩, fun h => ?_, fun h => ?_⟩
        · replace h : (bif (termS e a).1 != (termS e b).1 then true else !bif bif [8, 2, 6].contains (termS e a).1 then true else f.name == [61] then true else f.name == [33, 61]) = true := h
          rw [hty, if_pos]
          simp only [bif_or, Bool.or_eq_true, bne_iff_ne, ne_eq, Bool.not_eq_true', Bool.or_eq_false_iff, List.contains_eq_mem, List.mem_cons, List.not_mem_nil, or_false, decide_eq_false_iff_not, not_or, beq_eq_false_iff_ne] at h
          rcases h with h | ⟨⟨⟨h1, h2, h3⟩, h4⟩, h5⟩
          · exact .inl h
          · exact .inr ⟨fun h6 => h6.elim h4 h5, h1, h2, h3⟩
        · replace h : (bif (termS e a).1 != (termS e b).1 then true else !bif bif [8, 2, 6].contains (termS e a).1 then true else f.name == [61] then true else f.name == [33, 61]) = false := h
          rw [hty, if_neg]
          simp only [bif_or, Bool.or_eq_false_iff, bne_eq_false_iff_eq, Bool.not_eq_false', Bool.or_eq_true, List.contains_eq_mem, List.mem_cons, List.not_mem_nil, or_false, decide_eq_true_eq, beq_iff_eq] at h
          obtain ⟨h1, h2⟩ := h
          rintro (h3 | ⟨h4, h5, h6, h7⟩)
          · exact h3 h1
          · rcases h2 with (h2 | h2) | h2
            · rcases h2 with h2 | h2 | h2
              · exact h5 h2
              · exact h6 h2
              · exact h7 h2
            · exact h4 (.inl h2)
            · exact h4 (.inr h2)
      · rw [if_pos hb0] at hty
        have hS : sortsN e [a, b] [] = ([], (termS e b).2) := by simp [sortsN, ha0, hb0]
        rw [hS]
        exact ⟨_, _, rfl, rfl, fun _ => by rw [hty], fun h => absurd (by simpa using h) hb0⟩
    · rw [if_pos ha0] at hty
      have hS : sortsN e [a, b] [] = ([], (termS e a).2) := by simp [sortsN, ha0]
      rw [hS]
      exact ⟨_, _, rfl, rfl, fun _ => by rw [hty], fun h => absurd (by simpa using h) ha0⟩
  · have h9' : ¬ f.kind = 9 := by simpa using h9
    have ha : atomB f.kind = true := by
      rcases Classical.em (atomB f.kind = true) with h | h
      · exact h
      · rw [noatom_ts hf h] at hts; simp at hts
    obtain ⟨_, _, a, b, hab⟩ := atom_pair hf ha
    have htt := atom_terms hf ha
    rw [if_neg h9', if_pos ha, hab] at hty
    have e0 : tmAt [a, b] 0 = a := rfl
    have e1 : tmAt [a, b] 1 = b := rfl
    rw [e0, e1] at hty
    have fin : ∀ wa wb : Int, askA f.kind = (wa, wb) → sortsW e f.ts [wa, wb] = f.ty e := by
      intro wa wb hk
      rw [hty, hab]
      by_cases h1 : ofS e a wa = 0 <;> by_cases h2 : ofS e b wb = 0 <;> simp [sortsW, atomS, h1, h2, hk]
    have hk : f.kind = 3 ∨ f.kind = 4 ∨ f.kind = 5 ∨ f.kind = 6 ∨ f.kind = 7 ∨ f.kind = 8 := by
      simp only [atomB, Bool.and_eq_true, decide_eq_true_eq] at ha; omega
    have hlen : f.ts.length = 2 := atom_ts hf ha
    rcases hk with hk | hk | hk | hk | hk | hk
    · have := fin 1 2 (by rw [hk]; rfl)
      rw [hk]
      refine ⟨⟨⟨by decide, by decide⟩, rfl⟩, trivial, (g58w e f.ts 1 2 htt (by omega) hlen).mono ?_⟩
      rintro rs H' ⟨⟨l, rfl⟩, rfl⟩
      exact ⟨rfl, _, _, rfl, by rw [this]⟩
    · have := fin 1 3 (by rw [hk]; rfl)
      rw [hk]
      refine ⟨⟨⟨by decide, by decide⟩, rfl⟩, trivial, (g58w e f.ts 1 3 htt (by omega) hlen).mono ?_⟩
      rintro rs H' ⟨⟨l, rfl⟩, rfl⟩
      exact ⟨rfl, _, _, rfl, by rw [this]⟩
    · have := fin 4 1 (by rw [hk]; rfl)
      rw [hk]
      refine ⟨⟨⟨by decide, by decide⟩, rfl⟩, trivial, (g58w e f.ts 4 1 htt (by omega) hlen).mono ?_⟩
      rintro rs H' ⟨⟨l, rfl⟩, rfl⟩
      exact ⟨rfl, _, _, rfl, by rw [this]⟩
    · have := fin 5 1 (by rw [hk]; rfl)
      rw [hk]
      refine ⟨⟨⟨by decide, by decide⟩, rfl⟩, trivial, (g58w e f.ts 5 1 htt (by omega) hlen).mono ?_⟩
      rintro rs H' ⟨⟨l, rfl⟩, rfl⟩
      exact ⟨rfl, _, _, rfl, by rw [this]⟩
    · have := fin 4 2 (by rw [hk]; rfl)
      rw [hk]
      refine ⟨⟨⟨by decide, by decide⟩, rfl⟩, trivial, (g58w e f.ts 4 2 htt (by omega) hlen).mono ?_⟩
      rintro rs H' ⟨⟨l, rfl⟩, rfl⟩
      exact ⟨rfl, _, _, rfl, by rw [this]⟩
    · have := fin 3 2 (by rw [hk]; rfl)
      rw [hk]
      refine ⟨⟨⟨by decide, by decide⟩, rfl⟩, trivial, (g58w e f.ts 3 2 htt (by omega) hlen).mono ?_⟩
      rintro rs H' ⟨⟨l, rfl⟩, rfl⟩
      exact ⟨rfl, _, _, rfl, by rw [this]⟩
  · have h9' : ¬ f.kind = 9 := by simpa using h9
    have ha : ¬ atomB f.kind = true := by
      intro h
      have := atom_ts hf h
      simp [this] at hts
    rw [if_neg h9', if_neg ha] at hty
    refine (g60 e).mono ?_
    rintro l rfl
    refine ⟨0, ⟨by omega, by simp⟩, ⟨⟨rfl, rfl, ⟨by simp, by simp⟩, rfl, rfl, rfl, trivial⟩, ⟨rfl, rfl, rfl, rfl, rfl, rfl, trivial⟩, trivial⟩, fun i hi => ⟨fun hlt => ?_, fun hge => ?_⟩⟩
    · simp only [List.length_map, decide_eq_true_eq] at hlt
      obtain ⟨z, hz, hm⟩ := get_nat (l := f.bs) (x := i) (by omega)
      have hd := drop_at hz
      have hi2 := hi.2
      rw [hd, addE] at hi2
      have hli : (e ++ f.bs.take i).length = e.length + i := by simp; omega
      rw [Int.toNat_natCast, agg_bd hz, cell_bd0 hz]
      have e2 : D.toStr (Option.getD (some (D.str z.name)) default) = z.name := rfl
      rw [e2]
      refine ⟨⟨by omega, by simp [hz]⟩, ?_⟩
      refine (g53 (e ++ f.bs.take i) z.name (by rw [hli]; omega)).use ⟨_, rfl, ?_⟩
      rw [findI_ge]
      refine ⟨fun h => ?_, fun h => ?_⟩
      · rw [if_pos h] at hi2
        rw [hty, hi2]
      · rw [if_neg (by simp [h])] at hi2
        have hcell : List.reverse [D.agg (List.reverse [D.int .i64 z.sort, D.str z.name])] = [z.d] := rfl
        have hnx : e ++ f.bs.take (i + 1) = e ++ f.bs.take i ++ [z] := by rw [List.take_add_one, hz]; simp
        have hF : FA (List.map Bd.d (e ++ f.bs.take i)) [z.d] 2 24 := by
          refine ⟨?_, ?_⟩
          · have := cells_bds (e ++ f.bs.take i ++ [z])
            unfold allSz at this
            simpa using this
          · rw [List.length_map, hli]; simp; omega
        refine ⟨⟨by rw [List.length_map, hli], rfl, hF⟩, i + 1, ⟨by omega, by rw [hnx]; exact hi2⟩, by omega, ⟨rfl, rfl, ?_, rfl, rfl, ?_, trivial⟩, ⟨rfl, rfl, rfl, rfl, rfl, rfl, trivial⟩, ?_, trivial⟩
        · rw [hnx, List.map_append (l₂ := [z])]
          simp only [cell_bd0 hz, cell_bd1 hz]
          rfl
        · rw [wrap64 (by omega) (by omega)]; simp
        · rw [List.length_map, hli]
          simp only [List.length_reverse, List.length_cons, List.length_nil]
          omega
    · simp only [List.length_map, decide_eq_false_iff_not] at hge
      have hi2 := hi.2
      rw [List.drop_eq_nil_of_le (by omega), List.take_of_length_le (by omega : f.bs.length ≤ i), addE] at hi2
      rw [List.take_of_length_le (by omega : f.bs.length ≤ i)]
      rw [hi2] at hty
      simp only at hty
      refine ⟨0, ⟨by omega, rfl⟩, ⟨⟨rfl, rfl, rfl, rfl, rfl, rfl, trivial⟩, ⟨rfl, rfl, rfl, rfl, rfl, rfl, trivial⟩, rfl, trivial⟩, fun j hj => ⟨fun hlt => ?_, fun hge2 => ?_⟩⟩
      · simp only [List.length_map, decide_eq_true_eq] at hlt
        obtain ⟨z, hz, hm⟩ := get_nat (l := f.l) (x := j) (by omega)
        have hj2 := hj.2
        rw [drop_at hz, Fm.tys] at hj2
        have hzw := Fm.wt_lt hm
        rw [Int.toNat_natCast, agg_fm hz]
        refine ⟨⟨by omega, by simp [hz]⟩, ?_⟩
        have hzw2 := wts_mem hm
        refine (ih z hm (hall z hm) (e ++ f.bs) (by rw [List.length_append]; omega)).use ⟨_, rfl, fun h => ?_, fun h => ?_⟩
        · rw [if_pos (by simpa using h)] at hj2
          rw [hty, hj2]
        · rw [if_neg (by simpa using h)] at hj2
          refine ⟨j + 1, ⟨by omega, hj2⟩, by omega, ⟨rfl, rfl, rfl, rfl, rfl, ?_, trivial⟩, ⟨rfl, rfl, rfl, rfl, rfl, rfl, trivial⟩, rfl, trivial⟩
          rw [wrap64 (by omega) (by omega)]; simp
      · simp only [List.length_map, decide_eq_false_iff_not] at hge2
        have hj2 := hj.2
        rw [List.drop_eq_nil_of_le (by omega), Fm.tys] at hj2
        rw [hty, ← hj2]
end
end Go.Fo
/- The reference's walk. -/
namespace Go.Fo
open Go Go.Sx Go.Proofs
set_option maxRecDepth 100000
set_option maxHeartbeats 0

theorem drop_pair {ts : List Tm} (h : ts.length = 2) : ∃ a b, ts = [a, b] := len2 h
section
variable {G : Nat → Option (List D)} {M : Maps}
theorem g64 (e : En) (t : Tm) (s : Int) (hl : e.length < 4611686018427387904) : PFn Tryd.prog G 64 [.sl (e.map Bd.d), t.d, .int .i64 s] (· = [.int .i64 (ofS e t s)]) := by
  refine PFn.walk (fn := Tryd.f64) (code := bodyOf Tryd.f64) mixed L0 Tryd.func64 (by kernel_rfl) ⟨_, rfl⟩ (ok0 (by kernel_rfl)) ?_
  apply @of_vc _ (
    PFn Tryd.prog G (34 : Nat) [D.sl (List.map Bd.d e), D.agg [D.int IntKind.i64 (Tm.kind t), D.str (Tm.name t), D.int IntKind.i64 (Tm.n t)]] fun (rs : List D) => ∃ (n : Int), ∃ (n_1 : Int),
    rs = [D.int IntKind.i64 n, D.int IntKind.i64 n_1] ∧ ((bif n_1 == (0 : Int) then n != s else false) = true → [D.int IntKind.i64 (80 : Int)] = [D.int IntKind.i64 (ofS e t s)]) ∧ ((bif n_1
    == (0 : Int) then n != s else false) = false → [D.int IntKind.i64 n_1] = [D.int IntKind.i64 (ofS e t s)]))
  · kernel_rfl
  refine (g34 e t hl).use ⟨_, _, rfl, ?_⟩
  unfold ofS
  refine ⟨fun h => ?_, fun h => ?_⟩
  · have h' : (termS e t).2 = 0 ∧ (termS e t).1 ≠ s := by
      rw [bif_and, Bool.and_eq_true] at h
      exact ⟨by simpa using h.1, by simpa using h.2⟩
    rw [if_pos h']
  · rw [if_neg]
    rintro ⟨h1, h2⟩
    rw [bif_and, Bool.and_eq_false_iff] at h
    rcases h with h | h
    · exact absurd h1 (by simpa using h)
    · exact h2 (by simpa using h)
theorem g61 (e : En) (f : Fm) (a b : Tm) (hab : f.ts = [a, b]) (hl : e.length < 4611686018427387904) : PFn Tryd.prog G 61 [.sl (e.map Bd.d), f.d] (· = [.int .i64 (cmpS e f.name a b)]) := by
  rw [d_cells f]
  refine PFn.walk (fn := Tryd.f61) (code := bodyOf Tryd.f61) mixed L0 Tryd.func61 (by kernel_rfl) ⟨_, rfl⟩ (ok0 (by kernel_rfl)) ?_
  apply @of_vc _ (
    ((0 : Int) ≤ (0 : Int) ∧ (List.map Tm.d (Fm.ts f))[Int.toNat (0 : Int)]? = some (aggAt [Sh.int IntKind.i64, Sh.str, Sh.int IntKind.i64] (List.map Tm.d (Fm.ts f)) (Int.toNat (0 : Int))))
    ∧ PFn Tryd.prog G (34 : Nat) [D.sl (List.map Bd.d e), aggAt [Sh.int IntKind.i64, Sh.str, Sh.int IntKind.i64] (List.map Tm.d (Fm.ts f)) (Int.toNat (0 : Int))] fun (rs : List D) => ∃ (n :
    Int), ∃ (n_1 : Int), rs = [D.int IntKind.i64 n, D.int IntKind.i64 n_1] ∧ ((n_1 != (0 : Int)) = true → [D.int IntKind.i64 n_1] = [D.int IntKind.i64 (cmpS e (Fm.name f) a b)]) ∧ ((n_1 !=
    (0 : Int)) = false → ((0 : Int) ≤ (1 : Int) ∧ (List.map Tm.d (Fm.ts f))[Int.toNat (1 : Int)]? = some (aggAt [Sh.int IntKind.i64, Sh.str, Sh.int IntKind.i64] (List.map Tm.d (Fm.ts f))
    (Int.toNat (1 : Int)))) ∧ PFn Tryd.prog G (34 : Nat) [D.sl (List.map Bd.d e), aggAt [Sh.int IntKind.i64, Sh.str, Sh.int IntKind.i64] (List.map Tm.d (Fm.ts f)) (Int.toNat (1 : Int))] fun
    (rs : List D) => ∃ (n_2 : Int), ∃ (n_3 : Int), rs = [D.int IntKind.i64 n_2, D.int IntKind.i64 n_3] ∧ ((n_3 != (0 : Int)) = true → [D.int IntKind.i64 n_3] = [D.int IntKind.i64 (cmpS e
    (Fm.name f) a b)]) ∧ ((n_3 != (0 : Int)) = false → ((bif n != n_2 then true else bif bif bif !bif Fm.name f == Array.toList (ByteArray.data (ByteArray.mk #[(61 : UInt8)])) then true else
    Fm.name f == Array.toList (ByteArray.data (ByteArray.mk #[(33 : UInt8), (61 : UInt8)])) then n != (8 : Int) else false then n != (2 : Int) else false then n != (6 : Int) else false) =
    true → [D.int IntKind.i64 (80 : Int)] = [D.int IntKind.i64 (cmpS e (Fm.name f) a b)]) ∧ ((bif n != n_2 then true else bif bif bif !bif Fm.name f == Array.toList (ByteArray.data
    (ByteArray.mk #[(61 : UInt8)])) then true else Fm.name f == Array.toList (ByteArray.data (ByteArray.mk #[(33 : UInt8), (61 : UInt8)])) then n != (8 : Int) else false then n != (2 : Int)
    else false then n != (6 : Int) else false) = false → [D.int IntKind.i64 (0 : Int)] = [D.int IntKind.i64 (cmpS e (Fm.name f) a b)]))))
  · kernel_rfl
  have e0 : Int.toNat 0 = 0 := rfl
  have e1 : Int.toNat 1 = 1 := rfl
  have h0 : f.ts[0]? = some a := by rw [hab]; rfl
  have h1 : f.ts[1]? = some b := by rw [hab]; rfl
  rw [e0, e1, agg_tm h0, agg_tm h1]
  unfold cmpS
  refine ⟨⟨by omega, by simp [h0]⟩, ?_⟩
  refine (g34 e a hl).use ⟨_, _, rfl, fun h => by rw [if_pos (by simpa using h)], fun ha => ⟨⟨by omega, by simp [h1]⟩, ?_⟩⟩
  rw [if_neg (by simpa using ha)]
  refine (g34 e b hl).use ⟨_, _, rfl, fun h => by rw [if_pos (by simpa using h)], fun hb => ?_⟩
  rw [if_neg (by simpa using hb)]
  have q : (bif (termS e a).1 != (termS e b).1 then true else bif bif bif !bif f.name == [61] then true else f.name == [33, 61] then (termS e a).1 != 8 else false then (termS e a).1 != 2 else false then (termS e a).1 != 6 else false) = decide ((termS e a).1 ≠ (termS e b).1 ∨ ¬ (f.name = [61] ∨ f.name = [33, 61]) ∧ (termS e a).1 ≠ 8 ∧ (termS e a).1 ≠ 2 ∧ (termS e a).1 ≠ 6) := by
    rw [Bool.eq_iff_iff]
    simp [bif_or, bif_and, and_assoc]
  refine ⟨fun h => ?_, fun h => ?_⟩
  · have h' := q.symm.trans h
    rw [if_pos (of_decide_eq_true h')]
  · have h' := q.symm.trans h
    rw [if_neg (of_decide_eq_false h')]
theorem g37 (f : Fm) (hf : f.formB = true) (e : En) (hw : e.length + f.wt < 1099511627776) : PFn Tryd.prog G 37 [.sl (e.map Bd.d), f.d] (· = [.int .i64 (f.ty e)]) := by
  induction f using Fm.induct generalizing e with
  | h f ih =>
  rw [d_cells f]
  refine PFn.walk (fn := Tryd.f37) (code := bodyOf Tryd.f37) mixed
    (LL [(11, loopW (α := Nat) Tryd.prog G L0 0 (loopN (bodyOf Tryd.f37) 0) [3] (fun i => i ≤ f.bs.length ∧ addE e f.bs = addE (e ++ f.bs.take i) (f.bs.drop i)) (fun i => f.bs.length - i)
      (fun i => [(9, .d (.int .i64 i)), (8, .vec 1 ((e ++ f.bs.take i).map Bd.d))]) (fun H i => [H.getD 0 .dead, .vec (e.length + i) 2])),
     (17, loopW (α := Nat) Tryd.prog G L0 0 (loopN (bodyOf Tryd.f37) 1) [3, 8] (fun i => i ≤ f.l.length ∧ Fm.tys (f.l.drop i) (e ++ f.bs) = Fm.tys f.l (e ++ f.bs)) (fun i => f.l.length - i)
      (fun i => [(10, .d (.int .i64 i))]) (fun H i => [H.getD 0 .dead, H.getD 1 .dead]))])
    Tryd.func37 (by kernel_rfl) ⟨_, rfl⟩ (LoopsOk.two (b1 := loopN (bodyOf Tryd.f37) 0) (b2 := loopN (bodyOf Tryd.f37) 1) (by kernel_rfl) (by kernel_rfl) (by kernel_rfl) (loopW_sound mixed (ok0 (by kernel_rfl))) (loopW_sound mixed (ok0 (by kernel_rfl)))) ?_
  have hty := f.ty_eq e
  have hwt := f.wt_eq
  have hwl := wts_len f.l
  have hall : ∀ x ∈ f.l, x.formB = true := by
    rw [f.formB_eq, formsB_all, Bool.and_eq_true] at hf; exact List.all_eq_true.1 hf.2
  apply @of_vc _ (
    ((Fm.kind f == (9 : Int)) = true → PFn Tryd.prog G (61 : Nat) [D.sl (List.map Bd.d e), D.agg [D.int IntKind.i64 (Fm.kind f), D.str (Fm.name f), D.int IntKind.i64 (Fm.n f), D.sl (List.map Tm.d (Fm.ts f)), D.sl (List.map Bd.d (Fm.bs f)), D.sl (List.map Fm.d (Fm.l f))]] fun (rs : List D) => ∃ (n : Int), rs = [D.int IntKind.i64 n] ∧ [D.int IntKind.i64 n] = [D.int IntKind.i64 (Fm.ty f e)]) ∧ ((Fm.kind f == (9 : Int)) = false → PFn Tryd.prog G (62 : Nat) [D.int IntKind.i64 (Fm.kind f)] fun (rs : List D) => ∃ (b : Bool), rs = [D.bool b] ∧ (b = true → PFn Tryd.prog G (63 : Nat) [D.int IntKind.i64 (Fm.kind f)] fun (rs : List D) => ∃ (n : Int), ∃ (n_1 : Int), rs = [D.int IntKind.i64 n, D.int IntKind.i64 n_1] ∧ ((0 : Int) ≤ (0 : Int) ∧ (List.map Tm.d (Fm.ts f))[Int.toNat (0 : Int)]? = some (aggAt [Sh.int IntKind.i64, Sh.str, Sh.int IntKind.i64] (List.map Tm.d (Fm.ts f)) (Int.toNat (0 : Int)))) ∧ PFn Tryd.prog G (64 : Nat) [D.sl (List.map Bd.d e), aggAt [Sh.int IntKind.i64, Sh.str, Sh.int IntKind.i64] (List.map Tm.d (Fm.ts f)) (Int.toNat (0 : Int)), D.int IntKind.i64 n] fun (rs : List D) => ∃ (n : Int), rs = [D.int IntKind.i64 n] ∧ ((n != (0 : Int)) = true → [D.int IntKind.i64 n] = [D.int IntKind.i64 (Fm.ty f e)]) ∧ ((n != (0 : Int)) = false → ((0 : Int) ≤ (1 : Int) ∧ (List.map Tm.d (Fm.ts f))[Int.toNat (1 : Int)]? = some (aggAt [Sh.int IntKind.i64, Sh.str, Sh.int IntKind.i64] (List.map Tm.d (Fm.ts f)) (Int.toNat (1 : Int)))) ∧ PFn Tryd.prog G (64 : Nat) [D.sl (List.map Bd.d e), aggAt [Sh.int IntKind.i64, Sh.str, Sh.int IntKind.i64] (List.map Tm.d (Fm.ts f)) (Int.toNat (1 : Int)), D.int IntKind.i64 n_1] fun (rs : List D) => ∃ (n : Int), rs = [D.int IntKind.i64 n] ∧ [D.int IntKind.i64 n] = [D.int IntKind.i64 (Fm.ty f e)])) ∧ (b = false → FA [] (List.map Bd.d e) (nat_lit 2) (nat_lit 24) ∧ ∃ (x0 : Nat), (x0 ≤ List.length (Fm.bs f) ∧ addE e (Fm.bs f) = addE (e ++ List.take x0 (Fm.bs f)) (List.drop x0 (Fm.bs f))) ∧ ((AV.ptr (0 : Nat) (0 : Nat) = AV.ptr (0 : Nat) (0 : Nat) ∧ List.reverse ([] : List D) ++ List.map Bd.d e = List.map Bd.d (e ++ List.take x0 (Fm.bs f)) ∧ (0 : Int) = (↑x0 : Int) ∧ True) ∧ (Fm.kind f = Fm.kind f ∧ Fm.name f = Fm.name f ∧ Fm.n f = Fm.n f ∧ List.map Tm.d (Fm.ts f) = List.map Tm.d (Fm.ts f) ∧ List.map Bd.d (Fm.bs f) = List.map Bd.d (Fm.bs f) ∧ List.map Fm.d (Fm.l f) = List.map Fm.d (Fm.l f) ∧ True) ∧ List.length (List.reverse ([] : List D)) + List.length (List.map Bd.d e) = List.length e + x0 ∧ True) ∧ ∀ (x : Nat), x ≤ List.length (Fm.bs f) ∧ addE e (Fm.bs f) = addE (e ++ List.take x (Fm.bs f)) (List.drop x (Fm.bs f)) → (decide ((↑x : Int) < (↑(List.length (List.map Bd.d (Fm.bs f))) : Int)) = true → ((0 : Int) ≤ (↑x : Int) ∧ (List.map Bd.d (Fm.bs f))[Int.toNat (↑x : Int)]? = some (aggAt [Sh.str, Sh.int IntKind.i64] (List.map Bd.d (Fm.bs f)) (Int.toNat (↑x : Int)))) ∧ PFn Tryd.prog G (42 : Nat) [D.sl (List.map Bd.d (e ++ List.take x (Fm.bs f))), D.str (D.toStr (Option.getD (cellAt (List.map Bd.d (Fm.bs f)) (Int.toNat (↑x : Int)) (0 : Nat)) default))] fun (rs : List D) => ∃ (b : Bool), rs = [D.bool b] ∧ (b = true → [D.int IntKind.i64 (82 : Int)] = [D.int IntKind.i64 (Fm.ty f e)]) ∧ (b = false → ((0 : Int) ≤ (↑x : Int) ∧ (List.map Bd.d (Fm.bs f))[Int.toNat (↑x : Int)]? = some (aggAt [Sh.str, Sh.int IntKind.i64] (List.map Bd.d (Fm.bs f)) (Int.toNat (↑x : Int)))) ∧ (List.length e + x = List.length (List.map Bd.d (e ++ List.take x (Fm.bs f))) ∧ (2 : Nat) = (2 : Nat) ∧ FA (List.map Bd.d (e ++ List.take x (Fm.bs f))) [aggAt [Sh.str, Sh.int IntKind.i64] (List.map Bd.d (Fm.bs f)) (Int.toNat (↑x : Int))] (nat_lit 2) (nat_lit 24)) ∧ ∃ (y : Nat), (y ≤ List.length (Fm.bs f) ∧ addE e (Fm.bs f) = addE (e ++ List.take y (Fm.bs f)) (List.drop y (Fm.bs f))) ∧ List.length (Fm.bs f) - y < List.length (Fm.bs f) - x ∧ (AV.ptr (0 : Nat) (0 : Nat) = AV.ptr (0 : Nat) (0 : Nat) ∧ List.map Bd.d (e ++ List.take x (Fm.bs f)) ++ List.reverse [D.agg (List.reverse [(fun (x_1 : Sh × Nat) => match x_1 with | (sh, j) => Sh.norm sh (Option.getD (cellAt (List.map Bd.d (Fm.bs f)) (Int.toNat (↑x : Int)) j) default)) (Sh.int IntKind.i64, (0 : Nat) + (1 : Nat)), (fun (x_1 : Sh × Nat) => match x_1 with | (sh, j) => Sh.norm sh (Option.getD (cellAt (List.map Bd.d (Fm.bs f)) (Int.toNat (↑x : Int)) j) default)) (Sh.str, (0 : Nat))])] = List.map Bd.d (e ++ List.take y (Fm.bs f)) ∧ IntKind.wrap IntKind.i64 ((↑x : Int) + (1 : Int)) = (↑y : Int) ∧ True) ∧ (Fm.kind f = Fm.kind f ∧ Fm.name f = Fm.name f ∧ Fm.n f = Fm.n f ∧ List.map Tm.d (Fm.ts f) = List.map Tm.d (Fm.ts f) ∧ List.map Bd.d (Fm.bs f) = List.map Bd.d (Fm.bs f) ∧ List.map Fm.d (Fm.l f) = List.map Fm.d (Fm.l f) ∧ True) ∧ List.length (List.map Bd.d (e ++ List.take x (Fm.bs f))) + List.length (List.reverse [D.agg (List.reverse [(fun (x_1 : Sh × Nat) => match x_1 with | (sh, j) => Sh.norm sh (Option.getD (cellAt (List.map Bd.d (Fm.bs f)) (Int.toNat (↑x : Int)) j) default)) (Sh.int IntKind.i64, (0 : Nat) + (1 : Nat)), (fun (x_1 : Sh × Nat) => match x_1 with | (sh, j) => Sh.norm sh (Option.getD (cellAt (List.map Bd.d (Fm.bs f)) (Int.toNat (↑x : Int)) j) default)) (Sh.str, (0 : Nat))])]) = List.length e + y ∧ True)) ∧ (decide ((↑x : Int) < (↑(List.length (List.map Bd.d (Fm.bs f))) : Int)) = false → ∃ (x0 : Nat), (x0 ≤ List.length (Fm.l f) ∧ Fm.tys (List.drop x0 (Fm.l f)) (e ++ Fm.bs f) = Fm.tys (Fm.l f) (e ++ Fm.bs f)) ∧ ((AV.ptr (0 : Nat) (0 : Nat) = AV.ptr (0 : Nat) (0 : Nat) ∧ List.map Bd.d (e ++ List.take x (Fm.bs f)) = List.map Bd.d (e ++ List.take x (Fm.bs f)) ∧ (0 : Int) = (↑x0 : Int) ∧ True) ∧ (Fm.kind f = Fm.kind f ∧ Fm.name f = Fm.name f ∧ Fm.n f = Fm.n f ∧ List.map Tm.d (Fm.ts f) = List.map Tm.d (Fm.ts f) ∧ List.map Bd.d (Fm.bs f) = List.map Bd.d (Fm.bs f) ∧ List.map Fm.d (Fm.l f) = List.map Fm.d (Fm.l f) ∧ True) ∧ List.length e + x = List.length e + x ∧ True) ∧ ∀ (x_1 : Nat), x_1 ≤ List.length (Fm.l f) ∧ Fm.tys (List.drop x_1 (Fm.l f)) (e ++ Fm.bs f) = Fm.tys (Fm.l f) (e ++ Fm.bs f) → (decide ((↑x_1 : Int) < (↑(List.length (List.map Fm.d (Fm.l f))) : Int)) = true → ((0 : Int) ≤ (↑x_1 : Int) ∧ (List.map Fm.d (Fm.l f))[Int.toNat (↑x_1 : Int)]? = some (aggAt [Sh.int IntKind.i64, Sh.str, Sh.int IntKind.i64, Sh.sl, Sh.sl, Sh.sl] (List.map Fm.d (Fm.l f)) (Int.toNat (↑x_1 : Int)))) ∧ PFn Tryd.prog G (37 : Nat) [D.sl (List.map Bd.d (e ++ List.take x (Fm.bs f))), aggAt [Sh.int IntKind.i64, Sh.str, Sh.int IntKind.i64, Sh.sl, Sh.sl, Sh.sl] (List.map Fm.d (Fm.l f)) (Int.toNat (↑x_1 : Int))] fun (rs : List D) => ∃ (n : Int), rs = [D.int IntKind.i64 n] ∧ ((n != (0 : Int)) = true → [D.int IntKind.i64 n] = [D.int IntKind.i64 (Fm.ty f e)]) ∧ ((n != (0 : Int)) = false → ∃ (y : Nat), (y ≤ List.length (Fm.l f) ∧ Fm.tys (List.drop y (Fm.l f)) (e ++ Fm.bs f) = Fm.tys (Fm.l f) (e ++ Fm.bs f)) ∧ List.length (Fm.l f) - y < List.length (Fm.l f) - x_1 ∧ (AV.ptr (0 : Nat) (0 : Nat) = AV.ptr (0 : Nat) (0 : Nat) ∧ List.map Bd.d (e ++ List.take x (Fm.bs f)) = List.map Bd.d (e ++ List.take x (Fm.bs f)) ∧ IntKind.wrap IntKind.i64 ((↑x_1 : Int) + (1 : Int)) = (↑y : Int) ∧ True) ∧ (Fm.kind f = Fm.kind f ∧ Fm.name f = Fm.name f ∧ Fm.n f = Fm.n f ∧ List.map Tm.d (Fm.ts f) = List.map Tm.d (Fm.ts f) ∧ List.map Bd.d (Fm.bs f) = List.map Bd.d (Fm.bs f) ∧ List.map Fm.d (Fm.l f) = List.map Fm.d (Fm.l f) ∧ True) ∧ List.length e + x = List.length e + x ∧ True)) ∧ (decide ((↑x_1 : Int) < (↑(List.length (List.map Fm.d (Fm.l f))) : Int)) = false → [D.int IntKind.i64 (0 : Int)] = [D.int IntKind.i64 (Fm.ty f e)])))))
  · kernel_rfl
  refine ⟨fun h9 => ?_, fun h9 => ?_⟩
  · have h9' : f.kind = 9 := by simpa using h9
    obtain ⟨_, _, a, b, hab⟩ := atom_pair hf (by rw [h9']; rfl)
    rw [if_pos h9', hab] at hty
    have := g61 (G := G) e f a b hab (by omega)
    rw [d_cells f] at this
    refine this.use ⟨_, rfl, ?_⟩
    rw [hty]; rfl
  · have h9' : ¬ f.kind = 9 := by simpa using h9
    rw [if_neg h9'] at hty
    refine (fn59 f.kind).use ⟨_, rfl, fun ha => ?_, fun ha => ?_⟩
    · obtain ⟨_, _, a, b, hab⟩ := atom_pair hf ha
      have h0 : f.ts[0]? = some a := by rw [hab]; rfl
      have h1 : f.ts[1]? = some b := by rw [hab]; rfl
      rw [if_pos ha, hab] at hty
      have e0 : Int.toNat 0 = 0 := rfl
      have e1 : Int.toNat 1 = 1 := rfl
      rw [e0, e1, agg_tm h0, agg_tm h1]
      have hty2 : f.ty e = if ofS e a (askA f.kind).1 ≠ 0 then ofS e a (askA f.kind).1 else ofS e b (askA f.kind).2 := hty
      refine (g63 f.kind).use ⟨_, _, rfl, ⟨by omega, by simp [h0]⟩, ?_⟩
      refine (g64 e a _ (by omega)).use ⟨_, rfl, fun h => ?_, fun h => ⟨⟨by omega, by simp [h1]⟩, ?_⟩⟩
      · rw [hty2, if_pos (by simpa using h)]
      · refine (g64 e b _ (by omega)).use ⟨_, rfl, ?_⟩
        rw [hty2, if_neg (by simpa using h)]
    · rw [if_neg (by simp [ha])] at hty
      have hFe : FA [] (List.map Bd.d e) 2 24 := by
        refine ⟨?_, ?_⟩
        · have := cells_bds e
          unfold allSz at this
          simpa using this
        · simp; omega
      refine ⟨hFe, 0, ⟨by omega, by simp⟩, ⟨⟨rfl, by simp, rfl, trivial⟩, ⟨rfl, rfl, rfl, rfl, rfl, rfl, trivial⟩, by simp, trivial⟩, fun i hi => ⟨fun hlt => ?_, fun hge => ?_⟩⟩
      · simp only [List.length_map, decide_eq_true_eq] at hlt
        obtain ⟨z, hz, hm⟩ := get_nat (l := f.bs) (x := i) (by omega)
        have hd := drop_at hz
        have hi2 := hi.2
        rw [hd, addE] at hi2
        have hli : (e ++ f.bs.take i).length = e.length + i := by simp; omega
        rw [Int.toNat_natCast, agg_bd hz, cell_bd0 hz]
        have e2 : D.toStr (Option.getD (some (D.str z.name)) default) = z.name := rfl
        rw [e2]
        refine ⟨⟨by omega, by simp [hz]⟩, ?_⟩
        refine (g42 (e ++ f.bs.take i) z.name (by rw [hli]; omega)).use ⟨_, rfl, ?_⟩
        refine ⟨fun h => ?_, fun h => ?_⟩
        · rw [if_pos h] at hi2
          rw [hty, hi2]
        · rw [if_neg (by simp [h])] at hi2
          have hnx : e ++ f.bs.take (i + 1) = e ++ f.bs.take i ++ [z] := by rw [List.take_add_one, hz]; simp
          have hF : FA (List.map Bd.d (e ++ f.bs.take i)) [z.d] 2 24 := by
            refine ⟨?_, ?_⟩
            · have := cells_bds (e ++ f.bs.take i ++ [z])
              unfold allSz at this
              simpa using this
            · rw [List.length_map, hli]; simp; omega
          refine ⟨⟨by omega, by simp [hz]⟩, ⟨by rw [List.length_map, hli], rfl, hF⟩, i + 1, ⟨by omega, by rw [hnx]; exact hi2⟩, by omega, ⟨rfl, ?_, ?_, trivial⟩, ⟨rfl, rfl, rfl, rfl, rfl, rfl, trivial⟩, ?_, trivial⟩
          · rw [hnx, List.map_append (l₂ := [z])]
            simp only [cell_bd0 hz, cell_bd1 hz]
            rfl
          · rw [wrap64 (by omega) (by omega)]; simp
          · rw [List.length_map, hli]
            simp only [List.length_reverse, List.length_cons, List.length_nil]
            omega
      · simp only [List.length_map, decide_eq_false_iff_not] at hge
        have hi2 := hi.2
        rw [List.drop_eq_nil_of_le (by omega), List.take_of_length_le (by omega : f.bs.length ≤ i), addE] at hi2
        rw [List.take_of_length_le (by omega : f.bs.length ≤ i)]
        rw [hi2] at hty
        simp only at hty
        refine ⟨0, ⟨by omega, rfl⟩, ⟨⟨rfl, rfl, rfl, trivial⟩, ⟨rfl, rfl, rfl, rfl, rfl, rfl, trivial⟩, rfl, trivial⟩, fun j hj => ⟨fun hlt => ?_, fun hge2 => ?_⟩⟩
        · simp only [List.length_map, decide_eq_true_eq] at hlt
          obtain ⟨z, hz, hm⟩ := get_nat (l := f.l) (x := j) (by omega)
          have hj2 := hj.2
          rw [drop_at hz, Fm.tys] at hj2
          have hzw := Fm.wt_lt hm
          rw [Int.toNat_natCast, agg_fm hz]
          refine ⟨⟨by omega, by simp [hz]⟩, ?_⟩
          have hzw2 := wts_mem hm
          refine (ih z hm (hall z hm) (e ++ f.bs) (by rw [List.length_append]; omega)).use ⟨_, rfl, fun h => ?_, fun h => ?_⟩
          · rw [if_pos (by simpa using h)] at hj2
            rw [hty, hj2]
          · rw [if_neg (by simpa using h)] at hj2
            refine ⟨j + 1, ⟨by omega, hj2⟩, by omega, ⟨rfl, rfl, ?_, trivial⟩, ⟨rfl, rfl, rfl, rfl, rfl, rfl, trivial⟩, rfl, trivial⟩
            rw [wrap64 (by omega) (by omega)]; simp
        · simp only [List.length_map, decide_eq_false_iff_not] at hge2
          have hj2 := hj.2
          rw [List.drop_eq_nil_of_le (by omega), Fm.tys] at hj2
          rw [hty, ← hj2]
end
end Go.Fo
/- Terms, formulas, rules. -/
namespace Go.Fo
open Go Go.Sx Go.Proofs
set_option maxRecDepth 100000
set_option maxHeartbeats 0

def twoT (t : Tm) : Fm := .mk 9 [61] 0 [t, t] [] []
def termI (e : En) (t : Tm) : Int × Int := if envB e = true ∧ termB t = true then termS e t else (0, 1)
theorem twoT_form (t : Tm) : (twoT t).formB = termB t := by
  simp [twoT, formB_mk, nodeB, partsI, termsB, bindsB, atomB, quantB, signB, tmAt, Fm.kind, Fm.ts, Fm.bs, Fm.l, Fm.n, Fm.name]
theorem twoT_check (t : Tm) : (twoT t).checkI = if termB t then 0 else 1 := by
  unfold Fm.checkI
  rw [twoT_form]
  cases termB t with
  | false => rfl
  | true => simp [twoT, Fm.rank, Fm.ranks, Fm.depth, Fm.depths]
theorem twoT_wt (t : Tm) : (twoT t).wt = 4 + 2 * t.name.length + 2 * 0 := by
  simp [twoT, Fm.wt, Fm.wts, sumT, sumB]; omega
theorem twoT_d (t : Tm) : (twoT t).d = .agg [.int .i64 9, .str [61], .int .i64 0, .sl [.agg [.int .i64 t.kind, .str t.name, .int .i64 t.n], .agg [.int .i64 t.kind, .str t.name, .int .i64 t.n]], .sl [], .sl []] := by
  unfold twoT; rw [Fm.d_mk]; simp [Tm.d]
section
variable {G : Nat → Option (List D)} {M : Maps}
theorem g13 (hM : M.Ok) (e : En) (t : Tm) (hl : ewt e ≤ 1099511627776) (ht : t.name.length ≤ 1099511627776) : PFn Tryd.prog (GG M) 13 [.sl (e.map Bd.d), t.d] (· = [.int .i64 (termI e t).1, .int .i64 (termI e t).2]) := by
  have h25 := fn13 hM (twoT t) (by rw [twoT_wt]; omega)
  rw [twoT_d] at h25
  have h31 := g31 (M := M) e t
  unfold Tm.d at h31 ⊢
  refine PFn.walk (fn := Tryd.f13) (code := bodyOf Tryd.f13) mixed L0 Tryd.func13 (by kernel_rfl) ⟨_, rfl⟩ (ok0 (by kernel_rfl)) ?_
  apply @of_vc _ (
    PFn Tryd.prog (GG M) (30 : Nat) [D.sl (List.map Bd.d e)] fun (rs : List D) => ∃ (b : Bool), rs = [D.bool b] ∧ PFn Tryd.prog (GG M) (25 : Nat) [D.agg [D.int IntKind.i64 (9 : Int), D.str
    (Array.toList (ByteArray.data (ByteArray.mk #[(61 : UInt8)]))), D.int IntKind.i64 (0 : Int), D.sl [D.agg [D.int IntKind.i64 (Tm.kind t), D.str (Tm.name t), D.int IntKind.i64 (Tm.n t)],
    D.agg [D.int IntKind.i64 (Tm.kind t), D.str (Tm.name t), D.int IntKind.i64 (Tm.n t)]], D.sl [], D.sl []]] fun (rs : List D) => ∃ (n : Int), rs = [D.int IntKind.i64 n] ∧ ((bif !b then
    true else n != (0 : Int)) = true → [D.int IntKind.i64 (0 : Int), D.int IntKind.i64 (1 : Int)] = [D.int IntKind.i64 (Prod.fst (termI e t)), D.int IntKind.i64 (Prod.snd (termI e t))]) ∧
    ((bif !b then true else n != (0 : Int)) = false → PFn Tryd.prog (GG M) (31 : Nat) [D.sl (List.map Bd.d e), D.agg [D.int IntKind.i64 (Tm.kind t), D.str (Tm.name t), D.int IntKind.i64
    (Tm.n t)]] fun (rs : List D) => ∃ (n : Int), ∃ (n_1 : Int), rs = [D.int IntKind.i64 n, D.int IntKind.i64 n_1] ∧ [D.int IntKind.i64 n, D.int IntKind.i64 n_1] = [D.int IntKind.i64
    (Prod.fst (termI e t)), D.int IntKind.i64 (Prod.snd (termI e t))]))
  · kernel_rfl
  unfold termI
  rw [twoT_check] at h25
  unfold ewt at hl
  refine (g30 hM e (by unfold ewt; omega)).use ⟨_, rfl, ?_⟩
  refine h25.use ⟨_, rfl, ?_⟩
  cases he : envB e with
  | false => exact ⟨fun _ => rfl, fun h => (by cases h)⟩
  | true =>
    cases hb : termB t with
    | false => exact ⟨fun _ => rfl, fun h => (by cases h)⟩
    | true =>
      refine ⟨fun h => (by cases h), fun _ => ?_⟩
      exact (h31 hb (by omega)).use ⟨_, _, rfl, rfl⟩
theorem g14 (e : En) (t : Tm) (hl : ewt e ≤ 1099511627776) (ht : t.name.length ≤ 1099511627776) : PFn Tryd.prog G 14 [.sl (e.map Bd.d), t.d] (· = [.int .i64 (termI e t).1, .int .i64 (termI e t).2]) := by
  have h25 := fn14 (G := G) (twoT t) (by rw [twoT_wt]; omega)
  rw [twoT_d] at h25
  have h31 := g34 (G := G) e t
  unfold Tm.d at h31 ⊢
  refine PFn.walk (fn := Tryd.f14) (code := bodyOf Tryd.f14) mixed L0 Tryd.func14 (by kernel_rfl) ⟨_, rfl⟩ (ok0 (by kernel_rfl)) ?_
  apply @of_vc _ (
    PFn Tryd.prog G (32 : Nat) [D.agg [D.int IntKind.i64 (9 : Int), D.str (Array.toList (ByteArray.data (ByteArray.mk #[(61 : UInt8)]))), D.int IntKind.i64 (0 : Int), D.sl [D.agg [D.int
    IntKind.i64 (Tm.kind t), D.str (Tm.name t), D.int IntKind.i64 (Tm.n t)], D.agg [D.int IntKind.i64 (Tm.kind t), D.str (Tm.name t), D.int IntKind.i64 (Tm.n t)]], D.sl [], D.sl []]] fun (rs
    : List D) => ∃ (n : Int), rs = [D.int IntKind.i64 n] ∧ PFn Tryd.prog G (33 : Nat) [D.sl (List.map Bd.d e)] fun (rs : List D) => ∃ (b : Bool), rs = [D.bool b] ∧ ((bif !b then true else n
    != (0 : Int)) = true → [D.int IntKind.i64 (0 : Int), D.int IntKind.i64 (1 : Int)] = [D.int IntKind.i64 (Prod.fst (termI e t)), D.int IntKind.i64 (Prod.snd (termI e t))]) ∧ ((bif !b then
    true else n != (0 : Int)) = false → PFn Tryd.prog G (34 : Nat) [D.sl (List.map Bd.d e), D.agg [D.int IntKind.i64 (Tm.kind t), D.str (Tm.name t), D.int IntKind.i64 (Tm.n t)]] fun (rs :
    List D) => ∃ (n : Int), ∃ (n_1 : Int), rs = [D.int IntKind.i64 n, D.int IntKind.i64 n_1] ∧ [D.int IntKind.i64 n, D.int IntKind.i64 n_1] = [D.int IntKind.i64 (Prod.fst (termI e t)), D.int
    IntKind.i64 (Prod.snd (termI e t))]))
  · kernel_rfl
  unfold termI
  rw [twoT_check] at h25
  unfold ewt at hl
  refine h25.use ⟨_, rfl, ?_⟩
  refine (g33 e (by unfold ewt; omega)).use ⟨_, rfl, ?_⟩
  cases he : envB e with
  | false => exact ⟨fun _ => rfl, fun h => (by cases h)⟩
  | true =>
    cases hb : termB t with
    | false => exact ⟨fun _ => rfl, fun h => (by cases h)⟩
    | true =>
      refine ⟨fun h => (by cases h), fun _ => ?_⟩
      exact (h31 (by omega)).use ⟨_, _, rfl, rfl⟩
theorem g16 (hM : M.Ok) (e : En) (f : Fm) (hl : ewt e + f.wt < 1099511627776) : PFn Tryd.prog (GG M) 16 [.sl (e.map Bd.d), f.d] (· = [.int .i64 (f.tyI e)]) := by
  have h25 := fn13 hM f (by omega)
  have h36 := fun h => g36 (M := M) f h e (by unfold ewt at hl; omega)
  rw [d_cells f] at *
  refine PFn.walk (fn := Tryd.f16) (code := bodyOf Tryd.f16) mixed L0 Tryd.func16 (by kernel_rfl) ⟨_, rfl⟩ (ok0 (by kernel_rfl)) ?_
  apply @of_vc _ (
    PFn Tryd.prog (GG M) (30 : Nat) [D.sl (List.map Bd.d e)] fun (rs : List D) => ∃ (b : Bool), rs = [D.bool b] ∧ ((!b) = true → [D.int IntKind.i64 (1 : Int)] = [D.int IntKind.i64 (Fm.tyI f
    e)]) ∧ ((!b) = false → PFn Tryd.prog (GG M) (25 : Nat) [D.agg [D.int IntKind.i64 (Fm.kind f), D.str (Fm.name f), D.int IntKind.i64 (Fm.n f), D.sl (List.map Tm.d (Fm.ts f)), D.sl
    (List.map Bd.d (Fm.bs f)), D.sl (List.map Fm.d (Fm.l f))]] fun (rs : List D) => ∃ (n : Int), rs = [D.int IntKind.i64 n] ∧ ((n != (0 : Int)) = true → [D.int IntKind.i64 n] = [D.int
    IntKind.i64 (Fm.tyI f e)]) ∧ ((n != (0 : Int)) = false → PFn Tryd.prog (GG M) (36 : Nat) [D.sl (List.map Bd.d e), D.agg [D.int IntKind.i64 (Fm.kind f), D.str (Fm.name f), D.int
    IntKind.i64 (Fm.n f), D.sl (List.map Tm.d (Fm.ts f)), D.sl (List.map Bd.d (Fm.bs f)), D.sl (List.map Fm.d (Fm.l f))]] fun (rs : List D) => ∃ (n : Int), rs = [D.int IntKind.i64 n] ∧
    [D.int IntKind.i64 n] = [D.int IntKind.i64 (Fm.tyI f e)])))
  · kernel_rfl
  unfold Fm.tyI
  refine (g30 hM e (by omega)).use ⟨_, rfl, fun h => by rw [if_pos (by simpa using h)], fun h => ?_⟩
  rw [if_neg (by simpa using h)]
  refine h25.use ⟨_, rfl, fun h => by rw [if_pos (by simpa using h)], fun h => ?_⟩
  have hc : f.checkI = 0 := by simpa using h
  rw [if_neg (by simpa using h)]
  exact (h36 (checkI_form hc)).use ⟨_, rfl, rfl⟩
theorem g17 (e : En) (f : Fm) (hl : ewt e + f.wt < 1099511627776) : PFn Tryd.prog G 17 [.sl (e.map Bd.d), f.d] (· = [.int .i64 (f.tyI e)]) := by
  have h25 := fn14 (G := G) f (by omega)
  have h36 := fun h => g37 (G := G) f h e (by unfold ewt at hl; omega)
  rw [d_cells f] at *
  refine PFn.walk (fn := Tryd.f17) (code := bodyOf Tryd.f17) mixed L0 Tryd.func17 (by kernel_rfl) ⟨_, rfl⟩ (ok0 (by kernel_rfl)) ?_
  apply @of_vc _ (
    PFn Tryd.prog G (33 : Nat) [D.sl (List.map Bd.d e)] fun (rs : List D) => ∃ (b : Bool), rs = [D.bool b] ∧ ((!b) = true → [D.int IntKind.i64 (1 : Int)] = [D.int IntKind.i64 (Fm.tyI f e)])
    ∧ ((!b) = false → PFn Tryd.prog G (32 : Nat) [D.agg [D.int IntKind.i64 (Fm.kind f), D.str (Fm.name f), D.int IntKind.i64 (Fm.n f), D.sl (List.map Tm.d (Fm.ts f)), D.sl (List.map Bd.d
    (Fm.bs f)), D.sl (List.map Fm.d (Fm.l f))]] fun (rs : List D) => ∃ (n : Int), rs = [D.int IntKind.i64 n] ∧ ((n != (0 : Int)) = true → [D.int IntKind.i64 n] = [D.int IntKind.i64 (Fm.tyI f
    e)]) ∧ ((n != (0 : Int)) = false → PFn Tryd.prog G (37 : Nat) [D.sl (List.map Bd.d e), D.agg [D.int IntKind.i64 (Fm.kind f), D.str (Fm.name f), D.int IntKind.i64 (Fm.n f), D.sl (List.map
    Tm.d (Fm.ts f)), D.sl (List.map Bd.d (Fm.bs f)), D.sl (List.map Fm.d (Fm.l f))]] fun (rs : List D) => ∃ (n : Int), rs = [D.int IntKind.i64 n] ∧ [D.int IntKind.i64 n] = [D.int IntKind.i64
    (Fm.tyI f e)])))
  · kernel_rfl
  unfold Fm.tyI
  refine (g33 e (by omega)).use ⟨_, rfl, fun h => by rw [if_pos (by simpa using h)], fun h => ?_⟩
  rw [if_neg (by simpa using h)]
  refine h25.use ⟨_, rfl, fun h => by rw [if_pos (by simpa using h)], fun h => ?_⟩
  have hc : f.checkI = 0 := by simpa using h
  rw [if_neg (by simpa using h)]
  exact (h36 (checkI_form hc)).use ⟨_, rfl, rfl⟩
theorem g38 (hM : M.Ok) (b : Bd) (hb : b.name.length ≤ 1099511627776) : PFn Tryd.prog (GG M) 38 [b.d] (· = [.bool (!bindB b)]) := by
  have h := g39 hM b hb
  unfold Bd.d at h ⊢
  refine PFn.walk (fn := Tryd.f38) (code := bodyOf Tryd.f38) mixed L0 Tryd.func38 (by kernel_rfl) ⟨_, rfl⟩ (ok0 (by kernel_rfl)) ?_
  apply @of_vc _ (
    PFn Tryd.prog (GG M) (39 : Nat) [D.agg [D.str (Bd.name b), D.int IntKind.i64 (Bd.sort b)]] fun (rs : List D) => ∃ (b_1 : Bool), rs = [D.bool b_1] ∧ [D.bool !b_1] = [D.bool !bindB b])
  · kernel_rfl
  exact h.use ⟨_, rfl, rfl⟩
theorem g65 (hM : M.Ok) (e : En) (hl : ewt e ≤ 1099511627776) : PFn Tryd.prog (GG M) 65 [.sl (e.map Bd.d), .fn 38] (fun rs => ∃ r : Int, rs = [.int .i64 r] ∧ decide (r ≥ 0) = !e.all bindB) := by
  refine PFn.walk (fn := Tryd.f65) (code := bodyOf Tryd.f65) mixed
    (LL [(2, loopW (α := Nat) Tryd.prog (GG M) L0 0 (loopN (bodyOf Tryd.f65) 0) [0, 1, 7] (fun i => i ≤ e.length ∧ (e.take i).all bindB = true) (fun i => e.length - i)
      (fun i => [(8, .d (.int .i64 i))]) (fun H _ => H))])
    Tryd.func65 (by kernel_rfl) ⟨_, ⟨if e.all bindB then -1 else 0, rfl, by cases e.all bindB <;> rfl⟩⟩ (LoopsOk.one (b1 := loopN (bodyOf Tryd.f65) 0) (by kernel_rfl) (by kernel_rfl) (loopW_sound mixed (ok0 (by kernel_rfl)))) ?_
  apply @of_vc _ (
    ∃ (x0 : Nat), (x0 ≤ List.length e ∧ List.all (List.take x0 e) bindB = true) ∧ ((List.map Bd.d e = List.map Bd.d e ∧ AV.d (D.fn (38 : Nat)) = AV.d (D.fn (38 : Nat)) ∧ (↑(List.length
    (List.map Bd.d e)) : Int) = (↑(List.length (List.map Bd.d e)) : Int) ∧ (0 : Int) = (↑x0 : Int) ∧ True) ∧ True) ∧ ∀ (x : Nat), x ≤ List.length e ∧ List.all (List.take x e) bindB = true →
    (decide ((↑x : Int) < (↑(List.length (List.map Bd.d e)) : Int)) = true → ((0 : Int) ≤ (↑x : Int) ∧ (List.map Bd.d e)[Int.toNat (↑x : Int)]? = some (aggAt [Sh.str, Sh.int IntKind.i64]
    (List.map Bd.d e) (Int.toNat (↑x : Int)))) ∧ PFn Tryd.prog (GG M) (38 : Nat) [aggAt [Sh.str, Sh.int IntKind.i64] (List.map Bd.d e) (Int.toNat (↑x : Int))] fun (rs : List D) => ∃ (b :
    Bool), rs = [D.bool b] ∧ (b = true → ∃ (r : Int), [D.int IntKind.i64 (↑x : Int)] = [D.int IntKind.i64 r] ∧ decide (r ≥ (0 : Int)) = !List.all e bindB) ∧ (b = false → ∃ (y : Nat), (y ≤
    List.length e ∧ List.all (List.take y e) bindB = true) ∧ List.length e - y < List.length e - x ∧ (List.map Bd.d e = List.map Bd.d e ∧ AV.d (D.fn (38 : Nat)) = AV.d (D.fn (38 : Nat)) ∧
    (↑(List.length (List.map Bd.d e)) : Int) = (↑(List.length (List.map Bd.d e)) : Int) ∧ IntKind.wrap IntKind.i64 ((↑x : Int) + (1 : Int)) = (↑y : Int) ∧ True) ∧ True)) ∧ (decide ((↑x :
    Int) < (↑(List.length (List.map Bd.d e)) : Int)) = false → ∃ (r : Int), [D.int IntKind.i64 (-1 : Int)] = [D.int IntKind.i64 r] ∧ decide (r ≥ (0 : Int)) = !List.all e bindB))
  · kernel_rfl
  unfold ewt at hl
  refine ⟨0, ⟨by omega, rfl⟩, ?_, fun i hi => ⟨fun hlt => ?_, fun hge => ?_⟩⟩
  · simp
  · simp only [List.length_map, decide_eq_true_eq] at hlt
    obtain ⟨z, hz, hm⟩ := get_nat (l := e) (x := i) (by omega)
    have hzl := sumB_mem hm
    rw [Int.toNat_natCast, agg_bd hz]
    refine ⟨⟨by omega, by simp [hz]⟩, ?_⟩
    refine (g38 hM z (by omega)).use ⟨_, rfl, fun hb => ⟨_, rfl, ?_⟩, fun hb => ⟨i + 1, ⟨by omega, ?_⟩, by omega, ?_⟩⟩
    · have : e.all bindB = false := by
        rw [List.all_eq_false]
        exact ⟨z, hm, by simpa using hb⟩
      rw [this]; simp
    · rw [List.take_add_one, hz, List.all_append, hi.2]
      simpa using hb
    · rw [wrap64 (by omega) (by omega)]; simp
  · simp only [List.length_map, decide_eq_false_iff_not] at hge
    have h2 := hi.2
    rw [List.take_of_length_le (by omega)] at h2
    exact ⟨_, rfl, by rw [h2]; rfl⟩
theorem g40 (hM : M.Ok) (e : En) (hl : ewt e ≤ 1099511627776) : PFn Tryd.prog (GG M) 40 [.sl (e.map Bd.d), .fn 38] (· = [.bool (!e.all bindB)]) := by
  refine PFn.walk (fn := Tryd.f40) (code := bodyOf Tryd.f40) mixed L0 Tryd.func40 (by kernel_rfl) ⟨_, rfl⟩ (ok0 (by kernel_rfl)) ?_
  apply @of_vc _ (
    PFn Tryd.prog (GG M) (65 : Nat) [D.sl (List.map Bd.d e), D.fn (38 : Nat)] fun (rs : List D) => ∃ (n : Int), rs = [D.int IntKind.i64 n] ∧ [D.bool (decide (n ≥ (0 : Int)))] = [D.bool
    !List.all e bindB])
  · kernel_rfl
  refine (g65 hM e hl).mono ?_
  rintro rs ⟨r, rfl, hr⟩
  exact ⟨r, rfl, by rw [hr]⟩
end
end Go.Fo
/- Rules. -/
namespace Go.Fo
open Go Go.Sx Go.Proofs
set_option maxRecDepth 100000
set_option maxHeartbeats 0

def Ru.wt (r : Ru) : Nat := r.name.length + ewt r.each + r.body.wt
def Ru.headB (r : Ru) : Bool := nameB r.name && weighB r && decide (r.each.length ≤ 6) && r.each.all bindB
theorem Ru.tyI_bad {r : Ru} (h : r.headB = false) : r.tyI = 1 := by unfold Ru.tyI; unfold Ru.headB at h; rw [if_pos h]
theorem Ru.tyI_check {r : Ru} (h : r.headB = true) (hc : r.body.checkI ≠ 0) : r.tyI = r.body.checkI := by unfold Ru.tyI; unfold Ru.headB at h; rw [if_neg (by simp [h]), if_pos hc]
theorem Ru.tyI_env {r : Ru} (h : r.headB = true) (hc : r.body.checkI = 0) : r.tyI = if envB r.each then r.body.ty r.each else 82 := by
  unfold Ru.tyI
  unfold Ru.headB at h
  rw [if_neg (by simp [h]), if_neg (by simp [hc])]
  simp only [Bool.and_eq_true] at h
  unfold envB
  rw [h.2, Bool.true_and]
  by_cases hn : (r.each.map (·.name)).Nodup
  · simp [hn]
  · simp [hn]
theorem bind_name (nm : Nm) : bindB ⟨nm, 1⟩ = nameB nm := by simp [bindB]
theorem nodup_take {e : En} {i : Nat} {z : Bd} (h : e[i]? = some z) : ((e.take (i + 1)).map (·.name)).Nodup ↔ ((e.take i).map (·.name)).Nodup ∧ hasE (e.take i) z.name = false := by
  rw [List.take_add_one, h, List.map_append, List.nodup_append, hasE_false]
  simp only [Option.toList_some, List.map_cons, List.map_nil, List.mem_singleton]
  constructor
  · rintro ⟨h1, _, h3⟩
    exact ⟨h1, fun hm => h3 _ hm _ rfl rfl⟩
  · rintro ⟨h1, h2⟩
    refine ⟨h1, by simp, ?_⟩
    rintro a ha b rfl rfl
    exact h2 ha
section
variable {G : Nat → Option (List D)} {M : Maps}
theorem g20 (hM : M.Ok) (r : Ru) (hl : r.wt < 1099511627776) : PFn Tryd.prog (GG M) 20 [r.d] (· = [.int .i64 r.tyI]) := by
  unfold Ru.wt at hl
  have h25 := fn13 hM r.body (by omega)
  have h36 := fun h => g36 (M := M) r.body h r.each (by unfold ewt at hl; omega)
  have h39 := g39 hM ⟨r.name, 1⟩ (by simp only; omega)
  unfold Bd.d at h39
  rw [d_cells r.body] at h25 h36
  unfold Ru.d
  refine PFn.walk (fn := Tryd.f20) (code := bodyOf Tryd.f20) mixed L0 Tryd.func20 (by kernel_rfl) ⟨_, rfl⟩ (ok0 (by kernel_rfl)) ?_
  apply @of_vc _ (
    (Ru.hard r = true → PFn Tryd.prog (GG M) (39 : Nat) [D.agg [D.str (Ru.name r), D.int IntKind.i64 (1 : Int)]] fun (rs : List D) => ∃ (b : Bool), rs = [D.bool b] ∧ PFn Tryd.prog (GG M) (40
    : Nat) [D.sl (List.map Bd.d (Ru.each r)), D.fn (38 : Nat)] fun (rs : List D) => ∃ (b_1 : Bool), rs = [D.bool b_1] ∧ ((bif bif bif bif !b then true else decide (Ru.weight r < (0 : Int))
    then true else decide (Ru.weight r > (0 : Int)) then true else decide ((↑(List.length (List.map Bd.d (Ru.each r))) : Int) > (6 : Int)) then true else b_1) = true → [D.int IntKind.i64 (1
    : Int)] = [D.int IntKind.i64 (Ru.tyI r)]) ∧ ((bif bif bif bif !b then true else decide (Ru.weight r < (0 : Int)) then true else decide (Ru.weight r > (0 : Int)) then true else decide
    ((↑(List.length (List.map Bd.d (Ru.each r))) : Int) > (6 : Int)) then true else b_1) = false → PFn Tryd.prog (GG M) (25 : Nat) [D.agg [D.int IntKind.i64 (Fm.kind (Ru.body r)), D.str
    (Fm.name (Ru.body r)), D.int IntKind.i64 (Fm.n (Ru.body r)), D.sl (List.map Tm.d (Fm.ts (Ru.body r))), D.sl (List.map Bd.d (Fm.bs (Ru.body r))), D.sl (List.map Fm.d (Fm.l (Ru.body r)))]]
    fun (rs : List D) => ∃ (n : Int), rs = [D.int IntKind.i64 n] ∧ ((n != (0 : Int)) = true → [D.int IntKind.i64 n] = [D.int IntKind.i64 (Ru.tyI r)]) ∧ ((n != (0 : Int)) = false → PFn
    Tryd.prog (GG M) (30 : Nat) [D.sl (List.map Bd.d (Ru.each r))] fun (rs : List D) => ∃ (b : Bool), rs = [D.bool b] ∧ ((!b) = true → [D.int IntKind.i64 (82 : Int)] = [D.int IntKind.i64
    (Ru.tyI r)]) ∧ ((!b) = false → PFn Tryd.prog (GG M) (36 : Nat) [D.sl (List.map Bd.d (Ru.each r)), D.agg [D.int IntKind.i64 (Fm.kind (Ru.body r)), D.str (Fm.name (Ru.body r)), D.int
    IntKind.i64 (Fm.n (Ru.body r)), D.sl (List.map Tm.d (Fm.ts (Ru.body r))), D.sl (List.map Bd.d (Fm.bs (Ru.body r))), D.sl (List.map Fm.d (Fm.l (Ru.body r)))]] fun (rs : List D) => ∃ (n :
    Int), rs = [D.int IntKind.i64 n] ∧ [D.int IntKind.i64 n] = [D.int IntKind.i64 (Ru.tyI r)])))) ∧ (Ru.hard r = false → PFn Tryd.prog (GG M) (39 : Nat) [D.agg [D.str (Ru.name r), D.int
    IntKind.i64 (1 : Int)]] fun (rs : List D) => ∃ (b : Bool), rs = [D.bool b] ∧ PFn Tryd.prog (GG M) (40 : Nat) [D.sl (List.map Bd.d (Ru.each r)), D.fn (38 : Nat)] fun (rs : List D) => ∃
    (b_1 : Bool), rs = [D.bool b_1] ∧ ((bif bif bif bif !b then true else decide (Ru.weight r < (1 : Int)) then true else decide (Ru.weight r > (1000 : Int)) then true else decide
    ((↑(List.length (List.map Bd.d (Ru.each r))) : Int) > (6 : Int)) then true else b_1) = true → [D.int IntKind.i64 (1 : Int)] = [D.int IntKind.i64 (Ru.tyI r)]) ∧ ((bif bif bif bif !b then
    true else decide (Ru.weight r < (1 : Int)) then true else decide (Ru.weight r > (1000 : Int)) then true else decide ((↑(List.length (List.map Bd.d (Ru.each r))) : Int) > (6 : Int)) then
    true else b_1) = false → PFn Tryd.prog (GG M) (25 : Nat) [D.agg [D.int IntKind.i64 (Fm.kind (Ru.body r)), D.str (Fm.name (Ru.body r)), D.int IntKind.i64 (Fm.n (Ru.body r)), D.sl
    (List.map Tm.d (Fm.ts (Ru.body r))), D.sl (List.map Bd.d (Fm.bs (Ru.body r))), D.sl (List.map Fm.d (Fm.l (Ru.body r)))]] fun (rs : List D) => ∃ (n : Int), rs = [D.int IntKind.i64 n] ∧
    ((n != (0 : Int)) = true → [D.int IntKind.i64 n] = [D.int IntKind.i64 (Ru.tyI r)]) ∧ ((n != (0 : Int)) = false → PFn Tryd.prog (GG M) (30 : Nat) [D.sl (List.map Bd.d (Ru.each r))] fun
    (rs : List D) => ∃ (b : Bool), rs = [D.bool b] ∧ ((!b) = true → [D.int IntKind.i64 (82 : Int)] = [D.int IntKind.i64 (Ru.tyI r)]) ∧ ((!b) = false → PFn Tryd.prog (GG M) (36 : Nat) [D.sl
    (List.map Bd.d (Ru.each r)), D.agg [D.int IntKind.i64 (Fm.kind (Ru.body r)), D.str (Fm.name (Ru.body r)), D.int IntKind.i64 (Fm.n (Ru.body r)), D.sl (List.map Tm.d (Fm.ts (Ru.body r))),
    D.sl (List.map Bd.d (Fm.bs (Ru.body r))), D.sl (List.map Fm.d (Fm.l (Ru.body r)))]] fun (rs : List D) => ∃ (n : Int), rs = [D.int IntKind.i64 n] ∧ [D.int IntKind.i64 n] = [D.int
    IntKind.i64 (Ru.tyI r)])))))
  · kernel_rfl
  have hb1 : bindB { name := r.name, sort := 1 } = nameB r.name := bind_name r.name
  have goOn : r.headB = true → PFn Tryd.prog (GG M) 25 [D.agg (fmCells r.body)] fun rs => ∃ (n : Int), rs = [D.int IntKind.i64 n] ∧ ((n != 0) = true → [D.int IntKind.i64 n] = [D.int IntKind.i64 r.tyI]) ∧ ((n != 0) = false → PFn Tryd.prog (GG M) 30 [D.sl (List.map Bd.d r.each)] fun rs => ∃ b, rs = [D.bool b] ∧ ((!b) = true → [D.int IntKind.i64 82] = [D.int IntKind.i64 r.tyI]) ∧ ((!b) = false → PFn Tryd.prog (GG M) 36 [D.sl (List.map Bd.d r.each), D.agg (fmCells r.body)] fun rs => ∃ (n : Int), rs = [D.int IntKind.i64 n] ∧ [D.int IntKind.i64 n] = [D.int IntKind.i64 r.tyI])) := by
    intro hh
    refine h25.use ⟨_, rfl, fun h => ?_, fun h => ?_⟩
    · rw [Ru.tyI_check hh (by simpa using h)]
    · have hc : r.body.checkI = 0 := by simpa using h
      rw [Ru.tyI_env hh hc]
      refine (g30 hM r.each (by omega)).use ⟨_, rfl, fun h => ?_, fun h => ?_⟩
      · rw [if_neg (by simpa using h)]
      · rw [if_pos (by simpa using h)]
        exact (h36 (checkI_form hc)).use ⟨_, rfl, rfl⟩
  refine ⟨fun hd => ?_, fun hd => ?_⟩
  · refine h39.use ⟨_, rfl, (g40 hM r.each (by omega)).use ⟨_, rfl, ?_⟩⟩
    have q : (bif bif bif bif !bindB { name := r.name, sort := 1 } then true else decide (r.weight < 0) then true else decide (r.weight > 0) then true else decide ((↑(List.map Bd.d r.each).length : Int) > 6) then true else !r.each.all bindB) = !r.headB := by
      rw [hb1]
      unfold Ru.headB weighB
      rw [hd]
      rw [Bool.eq_iff_iff]
      cases nameB r.name <;> cases r.each.all bindB <;> simp <;> omega
    refine ⟨fun h => ?_, fun h => ?_⟩
    · have h' := q.symm.trans h
      rw [Ru.tyI_bad (by simpa using h')]
    · have h' := q.symm.trans h
      exact goOn (by simpa using h')
  · refine h39.use ⟨_, rfl, (g40 hM r.each (by omega)).use ⟨_, rfl, ?_⟩⟩
    have q : (bif bif bif bif !bindB { name := r.name, sort := 1 } then true else decide (r.weight < 1) then true else decide (r.weight > 1000) then true else decide ((↑(List.map Bd.d r.each).length : Int) > 6) then true else !r.each.all bindB) = !r.headB := by
      rw [hb1]
      unfold Ru.headB weighB
      rw [hd]
      rw [Bool.eq_iff_iff]
      cases nameB r.name <;> cases r.each.all bindB <;> simp <;> omega
    refine ⟨fun h => ?_, fun h => ?_⟩
    · have h' := q.symm.trans h
      rw [Ru.tyI_bad (by simpa using h')]
    · have h' := q.symm.trans h
      exact goOn (by simpa using h')
theorem g21 (r : Ru) (hl : r.wt < 1099511627776) : PFn Tryd.prog G 21 [r.d] (· = [.int .i64 r.tyI]) := by
  unfold Ru.wt at hl
  have h25 := fn14 (G := G) r.body (by omega)
  have h36 := fun h => g37 (G := G) r.body h r.each (by unfold ewt at hl; omega)
  rw [d_cells r.body] at h25 h36
  unfold Ru.d
  refine PFn.walk (fn := Tryd.f21) (code := bodyOf Tryd.f21) mixed
    (LL [(5, loopW (α := Nat) Tryd.prog G L0 0 (loopN (bodyOf Tryd.f21) 0) [1] (fun i => i ≤ r.each.length ∧ (r.each.take i).all bindB = true) (fun i => r.each.length - i)
      (fun i => [(4, .d (.int .i64 i))]) (fun H _ => H)),
     (13, loopW (α := Nat) Tryd.prog G L0 0 (loopN (bodyOf Tryd.f21) 1) [1] (fun i => i ≤ r.each.length ∧ ((r.each.take i).map (·.name)).Nodup) (fun i => r.each.length - i)
      (fun i => [(6, .d (.int .i64 i))]) (fun H _ => H))])
    Tryd.func21 (by kernel_rfl) ⟨_, rfl⟩ (LoopsOk.two (b1 := loopN (bodyOf Tryd.f21) 0) (b2 := loopN (bodyOf Tryd.f21) 1) (by kernel_rfl) (by kernel_rfl) (by kernel_rfl) (loopW_sound mixed (ok0 (by kernel_rfl))) (loopW_sound mixed (ok0 (by kernel_rfl)))) ?_
  apply @of_vc _ (
    PFn Tryd.prog G (24 : Nat) [D.str (Ru.name r)] fun (rs : List D) => ∃ (b : Bool), rs = [D.bool b] ∧ ((bif bif !b then true else !bif bif Ru.hard r then Ru.weight r == (0 : Int) else
    false then true else bif bif !Ru.hard r then decide (Ru.weight r ≥ (1 : Int)) else false then decide (Ru.weight r ≤ (1000 : Int)) else false then true else decide ((↑(List.length
    (List.map Bd.d (Ru.each r))) : Int) > (6 : Int))) = true → [D.int IntKind.i64 (1 : Int)] = [D.int IntKind.i64 (Ru.tyI r)]) ∧ ((bif bif !b then true else !bif bif Ru.hard r then Ru.weight
    r == (0 : Int) else false then true else bif bif !Ru.hard r then decide (Ru.weight r ≥ (1 : Int)) else false then decide (Ru.weight r ≤ (1000 : Int)) else false then true else decide
    ((↑(List.length (List.map Bd.d (Ru.each r))) : Int) > (6 : Int))) = false → ∃ (x0 : Nat), (x0 ≤ List.length (Ru.each r) ∧ List.all (List.take x0 (Ru.each r)) bindB = true) ∧ ((AV.ptr (0
    : Nat) (0 : Nat) = AV.ptr (0 : Nat) (0 : Nat) ∧ (0 : Int) = (↑x0 : Int) ∧ True) ∧ (Ru.name r = Ru.name r ∧ Ru.hard r = Ru.hard r ∧ Ru.weight r = Ru.weight r ∧ List.map Bd.d (Ru.each r) =
    List.map Bd.d (Ru.each r) ∧ Fm.kind (Ru.body r) = Fm.kind (Ru.body r) ∧ Fm.name (Ru.body r) = Fm.name (Ru.body r) ∧ Fm.n (Ru.body r) = Fm.n (Ru.body r) ∧ List.map Tm.d (Fm.ts (Ru.body
    r)) = List.map Tm.d (Fm.ts (Ru.body r)) ∧ List.map Bd.d (Fm.bs (Ru.body r)) = List.map Bd.d (Fm.bs (Ru.body r)) ∧ List.map Fm.d (Fm.l (Ru.body r)) = List.map Fm.d (Fm.l (Ru.body r)) ∧
    True) ∧ True) ∧ ∀ (x : Nat), x ≤ List.length (Ru.each r) ∧ List.all (List.take x (Ru.each r)) bindB = true → (decide ((↑x : Int) < (↑(List.length (List.map Bd.d (Ru.each r))) : Int)) =
    true → ((0 : Int) ≤ (↑x : Int) ∧ (List.map Bd.d (Ru.each r))[Int.toNat (↑x : Int)]? = some (aggAt [Sh.str, Sh.int IntKind.i64] (List.map Bd.d (Ru.each r)) (Int.toNat (↑x : Int)))) ∧ PFn
    Tryd.prog G (41 : Nat) [aggAt [Sh.str, Sh.int IntKind.i64] (List.map Bd.d (Ru.each r)) (Int.toNat (↑x : Int))] fun (rs : List D) => ∃ (b : Bool), rs = [D.bool b] ∧ ((!b) = true → [D.int
    IntKind.i64 (1 : Int)] = [D.int IntKind.i64 (Ru.tyI r)]) ∧ ((!b) = false → ∃ (y : Nat), (y ≤ List.length (Ru.each r) ∧ List.all (List.take y (Ru.each r)) bindB = true) ∧ List.length
    (Ru.each r) - y < List.length (Ru.each r) - x ∧ (AV.ptr (0 : Nat) (0 : Nat) = AV.ptr (0 : Nat) (0 : Nat) ∧ IntKind.wrap IntKind.i64 ((↑x : Int) + (1 : Int)) = (↑y : Int) ∧ True) ∧
    (Ru.name r = Ru.name r ∧ Ru.hard r = Ru.hard r ∧ Ru.weight r = Ru.weight r ∧ List.map Bd.d (Ru.each r) = List.map Bd.d (Ru.each r) ∧ Fm.kind (Ru.body r) = Fm.kind (Ru.body r) ∧ Fm.name
    (Ru.body r) = Fm.name (Ru.body r) ∧ Fm.n (Ru.body r) = Fm.n (Ru.body r) ∧ List.map Tm.d (Fm.ts (Ru.body r)) = List.map Tm.d (Fm.ts (Ru.body r)) ∧ List.map Bd.d (Fm.bs (Ru.body r)) =
    List.map Bd.d (Fm.bs (Ru.body r)) ∧ List.map Fm.d (Fm.l (Ru.body r)) = List.map Fm.d (Fm.l (Ru.body r)) ∧ True) ∧ True)) ∧ (decide ((↑x : Int) < (↑(List.length (List.map Bd.d (Ru.each
    r))) : Int)) = false → PFn Tryd.prog G (32 : Nat) [D.agg [D.int IntKind.i64 (Fm.kind (Ru.body r)), D.str (Fm.name (Ru.body r)), D.int IntKind.i64 (Fm.n (Ru.body r)), D.sl (List.map Tm.d
    (Fm.ts (Ru.body r))), D.sl (List.map Bd.d (Fm.bs (Ru.body r))), D.sl (List.map Fm.d (Fm.l (Ru.body r)))]] fun (rs : List D) => ∃ (n : Int), rs = [D.int IntKind.i64 n] ∧ ((n != (0 : Int))
    = true → [D.int IntKind.i64 n] = [D.int IntKind.i64 (Ru.tyI r)]) ∧ ((n != (0 : Int)) = false → ∃ (x0 : Nat), (x0 ≤ List.length (Ru.each r) ∧ List.Nodup (List.map (fun (x : Bd) => Bd.name
    x) (List.take x0 (Ru.each r)))) ∧ ((AV.ptr (0 : Nat) (0 : Nat) = AV.ptr (0 : Nat) (0 : Nat) ∧ (0 : Int) = (↑x0 : Int) ∧ True) ∧ (Ru.name r = Ru.name r ∧ Ru.hard r = Ru.hard r ∧ Ru.weight
    r = Ru.weight r ∧ List.map Bd.d (Ru.each r) = List.map Bd.d (Ru.each r) ∧ Fm.kind (Ru.body r) = Fm.kind (Ru.body r) ∧ Fm.name (Ru.body r) = Fm.name (Ru.body r) ∧ Fm.n (Ru.body r) = Fm.n
    (Ru.body r) ∧ List.map Tm.d (Fm.ts (Ru.body r)) = List.map Tm.d (Fm.ts (Ru.body r)) ∧ List.map Bd.d (Fm.bs (Ru.body r)) = List.map Bd.d (Fm.bs (Ru.body r)) ∧ List.map Fm.d (Fm.l (Ru.body
    r)) = List.map Fm.d (Fm.l (Ru.body r)) ∧ True) ∧ True) ∧ ∀ (x : Nat), x ≤ List.length (Ru.each r) ∧ List.Nodup (List.map (fun (x : Bd) => Bd.name x) (List.take x (Ru.each r))) → (decide
    ((↑x : Int) < (↑(List.length (List.map Bd.d (Ru.each r))) : Int)) = true → (((0 : Int) ≤ (↑x : Int) ∧ (↑x : Int) ≤ (↑(List.length (List.map Bd.d (Ru.each r))) : Int)) ∧ allSz (List.map
    Bd.d (Ru.each r)) (2 : Nat) = true) ∧ ((0 : Int) ≤ (↑x : Int) ∧ (List.map Bd.d (Ru.each r))[Int.toNat (↑x : Int)]? = some (aggAt [Sh.str, Sh.int IntKind.i64] (List.map Bd.d (Ru.each r))
    (Int.toNat (↑x : Int)))) ∧ PFn Tryd.prog G (42 : Nat) [D.sl (List.drop (Int.toNat (0 : Int)) (List.take (Int.toNat (↑x : Int)) (List.map Bd.d (Ru.each r)))), D.str (D.toStr (Option.getD
    (cellAt (List.map Bd.d (Ru.each r)) (Int.toNat (↑x : Int)) (0 : Nat)) default))] fun (rs : List D) => ∃ (b : Bool), rs = [D.bool b] ∧ (b = true → [D.int IntKind.i64 (82 : Int)] = [D.int
    IntKind.i64 (Ru.tyI r)]) ∧ (b = false → ∃ (y : Nat), (y ≤ List.length (Ru.each r) ∧ List.Nodup (List.map (fun (x : Bd) => Bd.name x) (List.take y (Ru.each r)))) ∧ List.length (Ru.each r)
    - y < List.length (Ru.each r) - x ∧ (AV.ptr (0 : Nat) (0 : Nat) = AV.ptr (0 : Nat) (0 : Nat) ∧ IntKind.wrap IntKind.i64 ((↑x : Int) + (1 : Int)) = (↑y : Int) ∧ True) ∧ (Ru.name r =
    Ru.name r ∧ Ru.hard r = Ru.hard r ∧ Ru.weight r = Ru.weight r ∧ List.map Bd.d (Ru.each r) = List.map Bd.d (Ru.each r) ∧ Fm.kind (Ru.body r) = Fm.kind (Ru.body r) ∧ Fm.name (Ru.body r) =
    Fm.name (Ru.body r) ∧ Fm.n (Ru.body r) = Fm.n (Ru.body r) ∧ List.map Tm.d (Fm.ts (Ru.body r)) = List.map Tm.d (Fm.ts (Ru.body r)) ∧ List.map Bd.d (Fm.bs (Ru.body r)) = List.map Bd.d
    (Fm.bs (Ru.body r)) ∧ List.map Fm.d (Fm.l (Ru.body r)) = List.map Fm.d (Fm.l (Ru.body r)) ∧ True) ∧ True)) ∧ (decide ((↑x : Int) < (↑(List.length (List.map Bd.d (Ru.each r))) : Int)) =
    false → PFn Tryd.prog G (37 : Nat) [D.sl (List.map Bd.d (Ru.each r)), D.agg [D.int IntKind.i64 (Fm.kind (Ru.body r)), D.str (Fm.name (Ru.body r)), D.int IntKind.i64 (Fm.n (Ru.body r)),
    D.sl (List.map Tm.d (Fm.ts (Ru.body r))), D.sl (List.map Bd.d (Fm.bs (Ru.body r))), D.sl (List.map Fm.d (Fm.l (Ru.body r)))]] fun (rs : List D) => ∃ (n : Int), rs = [D.int IntKind.i64 n]
    ∧ [D.int IntKind.i64 n] = [D.int IntKind.i64 (Ru.tyI r)])))))
  · kernel_rfl
  unfold ewt at hl
  refine (fn69 r.name (by omega)).use ⟨_, rfl, ?_⟩
  have q : (bif bif !nameB r.name then true else !bif bif r.hard then r.weight == 0 else false then true else bif bif !r.hard then decide (r.weight ≥ 1) else false then decide (r.weight ≤ 1000) else false then true else decide ((↑(List.map Bd.d r.each).length : Int) > 6)) = !(nameB r.name && weighB r && decide (r.each.length ≤ 6)) := by
    unfold weighB
    rw [List.length_map]
    have e1 : decide ((r.each.length : Int) > 6) = !decide (r.each.length ≤ 6) := by
      rw [Bool.eq_iff_iff]; simp; omega
    rw [e1]
    cases nameB r.name <;> cases r.hard <;> cases r.weight == 0 <;> cases decide (r.weight ≤ 1000) <;> cases decide (r.each.length ≤ 6) <;> simp
  refine ⟨fun h => ?_, fun h => ?_⟩
  · have h' := q.symm.trans h
    have : (nameB r.name && weighB r && decide (r.each.length ≤ 6)) = false := by rw [← Bool.not_eq_true']; exact h'
    rw [Ru.tyI_bad (by unfold Ru.headB; rw [this]; rfl)]
  · have h' := q.symm.trans h
    have hw : (nameB r.name && weighB r && decide (r.each.length ≤ 6)) = true := by simpa using h'
    refine ⟨0, ⟨by omega, by simp⟩, ⟨⟨rfl, rfl, trivial⟩, ⟨rfl, rfl, rfl, rfl, rfl, rfl, rfl, rfl, rfl, rfl, trivial⟩, trivial⟩, fun i hi => ⟨fun hlt => ?_, fun hge => ?_⟩⟩
    · simp only [List.length_map, decide_eq_true_eq] at hlt
      obtain ⟨z, hz, hm⟩ := get_nat (l := r.each) (x := i) (by omega)
      have hzl := sumB_mem hm
      rw [Int.toNat_natCast, agg_bd hz]
      refine ⟨⟨by omega, by simp [hz]⟩, (g41 z (by omega)).use ⟨_, rfl, fun h => ?_, fun h => ⟨i + 1, ⟨by omega, ?_⟩, by omega, ⟨rfl, ?_, trivial⟩, ⟨rfl, rfl, rfl, rfl, rfl, rfl, rfl, rfl, rfl, rfl, trivial⟩, trivial⟩⟩⟩
      · have : r.each.all bindB = false := by
          rw [List.all_eq_false]; exact ⟨z, hm, by simpa using h⟩
        rw [Ru.tyI_bad (by unfold Ru.headB; rw [this, Bool.and_false])]
      · rw [List.take_add_one, hz, List.all_append, hi.2]
        simpa using h
      · rw [wrap64 (by omega) (by omega)]; simp
    · simp only [List.length_map, decide_eq_false_iff_not] at hge
      have h2 := hi.2
      rw [List.take_of_length_le (by omega)] at h2
      have hh : r.headB = true := by unfold Ru.headB; rw [hw, h2]; rfl
      refine h25.use ⟨_, rfl, fun h => ?_, fun h => ?_⟩
      · rw [Ru.tyI_check hh (by simpa using h)]
      · have hc : r.body.checkI = 0 := by simpa using h
        rw [Ru.tyI_env hh hc]
        have he : envB r.each = decide ((r.each.map (·.name)).Nodup) := by unfold envB; rw [h2, Bool.true_and]
        rw [he]
        refine ⟨0, ⟨by omega, by simp⟩, ⟨⟨rfl, rfl, trivial⟩, ⟨rfl, rfl, rfl, rfl, rfl, rfl, rfl, rfl, rfl, rfl, trivial⟩, trivial⟩, fun j hj => ⟨fun hlt => ?_, fun hge2 => ?_⟩⟩
        · simp only [List.length_map, decide_eq_true_eq] at hlt
          obtain ⟨z, hz, hm⟩ := get_nat (l := r.each) (x := j) (by omega)
          rw [Int.toNat_natCast, agg_bd hz, cell_bd0 hz]
          have e2 : D.toStr (Option.getD (some (D.str z.name)) default) = z.name := rfl
          have e3 : List.drop (Int.toNat 0) (List.take j (List.map Bd.d r.each)) = (r.each.take j).map Bd.d := by rw [List.map_take]; rfl
          rw [e2, e3]
          have hnt := nodup_take hz
          refine ⟨⟨⟨by omega, by rw [List.length_map]; omega⟩, cells_bds r.each⟩, ⟨by omega, by simp [hz]⟩, (g42 (r.each.take j) z.name (by rw [List.length_take]; omega)).use ⟨_, rfl, fun h => ?_, fun h => ⟨j + 1, ⟨by omega, hnt.2 ⟨hj.2, h⟩⟩, by omega, ⟨rfl, ?_, trivial⟩, ⟨rfl, rfl, rfl, rfl, rfl, rfl, rfl, rfl, rfl, rfl, trivial⟩, trivial⟩⟩⟩
          · rw [if_neg]
            intro hn
            have hn' := of_decide_eq_true hn
            have h5 := (hnt.1 (hn'.sublist (List.Sublist.map _ (List.take_sublist _ _)))).2
            rw [h] at h5; cases h5
          · rw [wrap64 (by omega) (by omega)]; simp
        · simp only [List.length_map, decide_eq_false_iff_not] at hge2
          have h3 := hj.2
          rw [List.take_of_length_le (by omega)] at h3
          rw [if_pos (by simpa using h3)]
          exact (h36 (checkI_form hc)).use ⟨_, rfl, rfl⟩
end
end Go.Fo
/- Lists of rules. -/
namespace Go.Fo
open Go Go.Sx Go.Proofs
set_option maxRecDepth 100000
set_option maxHeartbeats 0

/-- A loop whose inner loops' conditions may speak of the outer loop's state. -/
def loopWD {α : Type} (P : Program) (G : Nat → Option (List D)) (L : α → Loops) (n : Nat) (body : Code) (keep : List Nat) (Inv : α → Prop) (m : α → Nat) (tmU : α → List (Nat × AV)) (hU : List Box → α → List Box) (tm : List AV) (H : List Box) (Q : Post) : Prop :=
  if isScope body then False else
  ∃ x0, Inv x0 ∧ Wk n tm H (stS keep (tmU x0) 0 tm) (hU H x0) ∧
    ∀ x, Inv x → pw P G (L x) body (stS keep (tmU x) 0 tm) (hU H x) (seqQ (fun tm' H' => ∃ y, Inv y ∧ m y < m x ∧ Wk n tm' H' (stS keep (tmU y) 0 tm) (hU H y)) Q)
theorem loopWD_sound {P : Program} {G : Nat → Option (List D)} {rd : Option Nat} {n : Nat} {α : Type} (hm : P.follows .mixedOrders = true) {L : α → Loops} {body : Code} {keep : List Nat} {Inv : α → Prop} {m : α → Nat} {tmU : α → List (Nat × AV)} {hU : List Box → α → List Box} (hL : ∀ x, LoopsOk P G rd n (L x) (loopsOf body)) (tm : List AV) (H : List Box) (Q : Post)
    (h : loopWD P G L n body keep Inv m tmU hU tm H Q) : PW P G rd n (mkLoop body) tm H Q := by
  unfold loopWD at h
  split at h
  · exact h.elim
  rename_i hsc
  have hl : mkLoop body = .loop body := by
    cases body <;> first | rfl | simp [isScope] at hsc
  rw [hl]
  obtain ⟨x0, hi, hw, hr⟩ := h
  refine PW.weaken hw (noOpt_stS _ _ _ _) ?_
  refine PW.loop (α := { x : α // Inv x }) (fun x => stS keep (tmU x.1) 0 tm) (fun x => hU H x.1) (fun x => m x.1) (fun x => noOpt_stS _ _ _ _) (fun x => ?_) ⟨x0, hi⟩
  refine (pw_sound hm body _ _ _ (hL x.1) (hr x.1 x.2)).mono fun e tm' H' hq => ?_
  cases e with
  | normal =>
    obtain ⟨y, h1, h2, h3⟩ := hq
    exact ⟨⟨y, h1⟩, h2, h3⟩
  | _ => exact hq
section
variable {l : List Ru} {r : Ru} {i : Nat}
theorem cell_ru0 (h : l[i]? = some r) : cellAt (l.map Ru.d) i 0 = some (.str r.name) := by simp [cellAt, h, Ru.d, D.cells]
theorem cell_ru1 (h : l[i]? = some r) : cellAt (l.map Ru.d) i (0 + 1) = some (.bool r.hard) := by simp [cellAt, h, Ru.d, D.cells]
theorem cell_ru2 (h : l[i]? = some r) : cellAt (l.map Ru.d) i (0 + 1 + 1) = some (.int .i64 r.weight) := by simp [cellAt, h, Ru.d, D.cells]
theorem cell_ru3 (h : l[i]? = some r) : cellAt (l.map Ru.d) i (0 + 1 + 1 + 1) = some (.sl (r.each.map Bd.d)) := by simp [cellAt, h, Ru.d, D.cells]
theorem cell_ru4 (h : l[i]? = some r) : cellAt (l.map Ru.d) i (0 + 1 + 1 + 1 + 1) = some (.int .i64 r.body.kind) := by simp [cellAt, h, Ru.d, D.cells]
theorem cell_ru5 (h : l[i]? = some r) : cellAt (l.map Ru.d) i (0 + 1 + 1 + 1 + 1 + 1) = some (.str r.body.name) := by simp [cellAt, h, Ru.d, D.cells]
theorem cell_ru6 (h : l[i]? = some r) : cellAt (l.map Ru.d) i (0 + 1 + 1 + 1 + 1 + 1 + 1) = some (.int .i64 r.body.n) := by simp [cellAt, h, Ru.d, D.cells]
theorem cell_ru7 (h : l[i]? = some r) : cellAt (l.map Ru.d) i (0 + 1 + 1 + 1 + 1 + 1 + 1 + 1) = some (.sl (r.body.ts.map Tm.d)) := by simp [cellAt, h, Ru.d, D.cells]
theorem cell_ru8 (h : l[i]? = some r) : cellAt (l.map Ru.d) i (0 + 1 + 1 + 1 + 1 + 1 + 1 + 1 + 1) = some (.sl (r.body.bs.map Bd.d)) := by simp [cellAt, h, Ru.d, D.cells]
theorem cell_ru9 (h : l[i]? = some r) : cellAt (l.map Ru.d) i (0 + 1 + 1 + 1 + 1 + 1 + 1 + 1 + 1 + 1) = some (.sl (r.body.l.map Fm.d)) := by simp [cellAt, h, Ru.d, D.cells]
theorem agg_ru (h : l[i]? = some r) : aggAt [.str, .bool, .int .i64, .sl, .int .i64, .str, .int .i64, .sl, .sl, .sl] (l.map Ru.d) i = r.d := by
  simp only [aggAt, Sx.rowAt, cell_ru0 h, cell_ru1 h, cell_ru2 h, cell_ru3 h, cell_ru4 h, cell_ru5 h, cell_ru6 h, cell_ru7 h, cell_ru8 h, cell_ru9 h]; rfl
end
def NmOk (es : List (D × D)) (seen : List Nm) : Prop := (es.all fun kv => sameKind (.str []) kv.1 && Sh.ok .bool kv.2) = true ∧ ∀ s, D.toBool (Option.getD (lookD es (.str s)) (.bool false)) = seen.contains s
theorem NmOk.set {es : List (D × D)} {seen : List Nm} {s : Nm} (h : NmOk es seen) : NmOk (updD es (.str s) (.bool true)) (seen ++ [s]) := by
  refine ⟨upd_all _ _ es h.1 rfl, fun s' => ?_⟩
  rw [look_upd]
  by_cases e : s' = s
  · subst e; simp [D.toBool]
  · rw [if_neg e, h.2 s']
    rw [Bool.eq_iff_iff]
    simp [e]
def rwts : List Ru → Nat
  | [] => 0
  | r :: l => r.wt + rwts l
theorem rwts_mem : ∀ {l : List Ru} {r : Ru}, r ∈ l → r.wt ≤ rwts l
  | x :: l, r, h => by
    rw [rwts]
    rcases List.mem_cons.1 h with rfl | h
    · omega
    · have := rwts_mem h; omega
section
variable {G : Nat → Option (List D)} {M : Maps}
theorem g18 (hM : M.Ok) (l : List Ru) (hl : l.length < 1099511627776) (hw : rwts l < 1099511627776) : PFn Tryd.prog (GG M) 18 [.sl (l.map Ru.d)] (· = [.int .i64 (rulesI l).1, .int .i64 (rulesI l).2]) := by
  refine PFn.walk (fn := Tryd.f18) (code := bodyOf Tryd.f18) mixed
    (LL [(3, loopW (α := Nat × List (D × D)) Tryd.prog (GG M) L0 0 (loopN (bodyOf Tryd.f18) 0) [4, 9, 10] (fun x => x.1 ≤ l.length ∧ NmOk x.2 ((l.take x.1).map (·.name)) ∧ rulesT ((l.take x.1).map (·.name)) x.1 (l.drop x.1) = rulesI l) (fun x => l.length - x.1)
      (fun x => [(11, .d (.int .i64 x.1))]) (fun _ x => [.map x.2]))])
    Tryd.func18 (by kernel_rfl) ⟨_, rfl⟩ (LoopsOk.one (b1 := loopN (bodyOf Tryd.f18) 0) (by kernel_rfl) (by kernel_rfl) (loopW_sound mixed (ok0 (by kernel_rfl)))) ?_
  apply @of_vc _ (
    ∃ (x0 : Nat × List (D × D)), (Prod.fst x0 ≤ List.length l ∧ NmOk (Prod.snd x0) (List.map (fun (x : Ru) => Ru.name x) (List.take (Prod.fst x0) l)) ∧ rulesT (List.map (fun (x : Ru) => Ru.name x) (List.take (Prod.fst x0) l)) (Prod.fst x0) (List.drop (Prod.fst x0) l) = rulesI l) ∧ ((AV.map (0 : Nat) = AV.map (0 : Nat) ∧ List.map Ru.d l = List.map Ru.d l ∧ (↑(List.length (List.map Ru.d l)) : Int) = (↑(List.length (List.map Ru.d l)) : Int) ∧ (0 : Int) = (↑(Prod.fst x0) : Int) ∧ True) ∧ [] = Prod.snd x0 ∧ True) ∧ ∀ (x : Nat × List (D × D)), Prod.fst x ≤ List.length l ∧ NmOk (Prod.snd x) (List.map (fun (x : Ru) => Ru.name x) (List.take (Prod.fst x) l)) ∧ rulesT (List.map (fun (x : Ru) => Ru.name x) (List.take (Prod.fst x) l)) (Prod.fst x) (List.drop (Prod.fst x) l) = rulesI l → (decide ((↑(Prod.fst x) : Int) < (↑(List.length (List.map Ru.d l)) : Int)) = true → ((0 : Int) ≤ (↑(Prod.fst x) : Int) ∧ (List.map Ru.d l)[Int.toNat (↑(Prod.fst x) : Int)]? = some (aggAt [Sh.str, Sh.bool, Sh.int IntKind.i64, Sh.sl, Sh.int IntKind.i64, Sh.str, Sh.int IntKind.i64, Sh.sl, Sh.sl, Sh.sl] (List.map Ru.d l) (Int.toNat (↑(Prod.fst x) : Int)))) ∧ PFn Tryd.prog (GG M) (20 : Nat) [aggAt [Sh.str, Sh.bool, Sh.int IntKind.i64, Sh.sl, Sh.int IntKind.i64, Sh.str, Sh.int IntKind.i64, Sh.sl, Sh.sl, Sh.sl] (List.map Ru.d l) (Int.toNat (↑(Prod.fst x) : Int))] fun (rs : List D) => ∃ (n : Int), rs = [D.int IntKind.i64 n] ∧ ((n != (0 : Int)) = true → [D.int IntKind.i64 (↑(Prod.fst x) : Int), D.int IntKind.i64 n] = [D.int IntKind.i64 (Prod.fst (rulesI l)), D.int IntKind.i64 (Prod.snd (rulesI l))]) ∧ ((n != (0 : Int)) = false → (List.all (Prod.snd x) fun (kv : D × D) => sameKind ((fun (x_1 : Sh × Nat) => match x_1 with | (sh, j) => Sh.norm sh (Option.getD (cellAt (List.map Ru.d l) (Int.toNat (↑(Prod.fst x) : Int)) j) default)) (Sh.str, (0 : Nat))) (Prod.fst kv) && Sh.ok Sh.bool (Prod.snd kv)) = true ∧ (D.toBool (Option.getD (lookD (Prod.snd x) ((fun (x_1 : Sh × Nat) => match x_1 with | (sh, j) => Sh.norm sh (Option.getD (cellAt (List.map Ru.d l) (Int.toNat (↑(Prod.fst x) : Int)) j) default)) (Sh.str, (0 : Nat)))) (D.bool false)) = true → [D.int IntKind.i64 (↑(Prod.fst x) : Int), D.int IntKind.i64 (82 : Int)] = [D.int IntKind.i64 (Prod.fst (rulesI l)), D.int IntKind.i64 (Prod.snd (rulesI l))]) ∧ (D.toBool (Option.getD (lookD (Prod.snd x) ((fun (x_1 : Sh × Nat) => match x_1 with | (sh, j) => Sh.norm sh (Option.getD (cellAt (List.map Ru.d l) (Int.toNat (↑(Prod.fst x) : Int)) j) default)) (Sh.str, (0 : Nat)))) (D.bool false)) = false → (List.all (Prod.snd x) fun (kv : D × D) => sameKind ((fun (x_1 : Sh × Nat) => match x_1 with | (sh, j) => Sh.norm sh (Option.getD (cellAt (List.map Ru.d l) (Int.toNat (↑(Prod.fst x) : Int)) j) default)) (Sh.str, (0 : Nat))) (Prod.fst kv)) = true ∧ ∃ (y : Nat × List (D × D)), (Prod.fst y ≤ List.length l ∧ NmOk (Prod.snd y) (List.map (fun (x : Ru) => Ru.name x) (List.take (Prod.fst y) l)) ∧ rulesT (List.map (fun (x : Ru) => Ru.name x) (List.take (Prod.fst y) l)) (Prod.fst y) (List.drop (Prod.fst y) l) = rulesI l) ∧ List.length l - Prod.fst y < List.length l - Prod.fst x ∧ (AV.map (0 : Nat) = AV.map (0 : Nat) ∧ List.map Ru.d l = List.map Ru.d l ∧ (↑(List.length (List.map Ru.d l)) : Int) = (↑(List.length (List.map Ru.d l)) : Int) ∧ IntKind.wrap IntKind.i64 ((↑(Prod.fst x) : Int) + (1 : Int)) = (↑(Prod.fst y) : Int) ∧ True) ∧ updD (Prod.snd x) ((fun (x_1 : Sh × Nat) => match x_1 with | (sh, j) => Sh.norm sh (Option.getD (cellAt (List.map Ru.d l) (Int.toNat (↑(Prod.fst x) : Int)) j) default)) (Sh.str, (0 : Nat))) (D.bool true) = Prod.snd y ∧ True))) ∧ (decide ((↑(Prod.fst x) : Int) < (↑(List.length (List.map Ru.d l)) : Int)) = false → [D.int IntKind.i64 (0 : Int), D.int IntKind.i64 (0 : Int)] = [D.int IntKind.i64 (Prod.fst (rulesI l)), D.int IntKind.i64 (Prod.snd (rulesI l))]))
  · kernel_rfl
  refine ⟨(0, []), ⟨by simp, ⟨rfl, fun s => rfl⟩, rfl⟩, ⟨⟨rfl, rfl, rfl, rfl, trivial⟩, rfl, trivial⟩, ?_⟩
  rintro ⟨i, es⟩ ⟨hi, hes, hi2⟩
  dsimp only at hi hes hi2 ⊢
  refine ⟨fun hlt => ?_, fun hge => ?_⟩
  · simp only [List.length_map, decide_eq_true_eq] at hlt
    obtain ⟨z, hz, hm⟩ := get_nat (l := l) (x := i) (by omega)
    rw [drop_at hz, rulesT] at hi2
    rw [Int.toNat_natCast, agg_ru hz, cell_ru0 hz]
    have hzw := rwts_mem hm
    have e1 : Sh.norm Sh.str (Option.getD (some (D.str z.name)) default) = .str z.name := rfl
    refine ⟨⟨by omega, by simp [hz]⟩, (g20 hM z (by omega)).use ⟨_, rfl, fun h => ?_, fun h => ⟨?_, fun h2 => ?_, fun h2 => ⟨?_, (i + 1, updD es (.str z.name) (.bool true)), ⟨by simp only; omega, ?_, ?_⟩, by simp only; omega, ⟨rfl, rfl, rfl, ?_, trivial⟩, rfl, trivial⟩⟩⟩⟩
    · rw [if_pos (by simpa using h)] at hi2
      rw [← hi2]
    · have := hes.1
      rw [List.all_eq_true] at this ⊢
      intro kv hkv
      have := this kv hkv
      have e5 : sameKind (D.str []) kv.1 = sameKind (D.str z.name) kv.1 := by cases kv.1 <;> rfl
      rw [e5] at this
      exact this
    · rw [if_neg (by simpa using h)] at hi2
      have h3 := (hes.2 z.name).symm.trans h2
      rw [if_pos h3] at hi2
      rw [← hi2]
    · have := hes.1
      rw [List.all_eq_true] at this ⊢
      intro kv hkv
      have := this kv hkv
      have e5 : sameKind (D.str []) kv.1 = sameKind (D.str z.name) kv.1 := by cases kv.1 <;> rfl
      rw [e5, Bool.and_eq_true] at this
      exact this.1
    · simp only
      rw [List.take_add_one, hz, List.map_append]
      exact hes.set
    · rw [if_neg (by simpa using h)] at hi2
      have h3 := (hes.2 z.name).symm.trans h2
      rw [if_neg (by rw [h3]; simp)] at hi2
      simp only
      rw [List.take_add_one, hz, List.map_append]
      exact hi2
    · rw [wrap64 (by omega) (by omega)]; simp
  · simp only [List.length_map, decide_eq_false_iff_not] at hge
    rw [List.drop_eq_nil_of_le (by omega), rulesT] at hi2
    rw [← hi2]
theorem g19 (l : List Ru) (hl : l.length < 1099511627776) (hw : rwts l < 1099511627776) : PFn Tryd.prog G 19 [.sl (l.map Ru.d)] (· = [.int .i64 (rulesI l).1, .int .i64 (rulesI l).2]) := by
  refine PFn.walk (fn := Tryd.f19) (code := bodyOf Tryd.f19) mixed
    (LL [(2, loopWD (α := Nat) Tryd.prog G
      (fun i => LL [(8, loopW (α := Nat) Tryd.prog G L0 0 (loopN (loopN (bodyOf Tryd.f19) 0) 0) [0, 4] (fun x => x ≤ i ∧ ∀ z, l[i]? = some z → ((l.take x).map (·.name)).contains z.name = false) (fun x => i - x)
        (fun x => [(6, .d (.int .i64 x))]) (fun H _ => H))])
      0 (loopN (bodyOf Tryd.f19) 0) [0] (fun x => x ≤ l.length ∧ rulesT ((l.take x).map (·.name)) x (l.drop x) = rulesI l) (fun x => l.length - x)
      (fun x => [(4, .d (.int .i64 x))]) (fun H _ => H))])
    Tryd.func19 (by kernel_rfl) ⟨_, rfl⟩ (LoopsOk.one (b1 := loopN (bodyOf Tryd.f19) 0) (by kernel_rfl) (by kernel_rfl) (loopWD_sound mixed (fun _ => LoopsOk.one (b1 := loopN (loopN (bodyOf Tryd.f19) 0) 0) (by kernel_rfl) (by kernel_rfl) (loopW_sound mixed (ok0 (by kernel_rfl)))))) ?_
  apply @of_vc _ (
    ∃ (x0 : Nat), (x0 ≤ List.length l ∧ rulesT (List.map (fun (x : Ru) => Ru.name x) (List.take x0 l)) x0 (List.drop x0 l) = rulesI l) ∧ ((List.map Ru.d l = List.map Ru.d l ∧ (0 : Int) =
    (↑x0 : Int) ∧ True) ∧ True) ∧ ∀ (x : Nat), x ≤ List.length l ∧ rulesT (List.map (fun (x : Ru) => Ru.name x) (List.take x l)) x (List.drop x l) = rulesI l → (decide ((↑x : Int) <
    (↑(List.length (List.map Ru.d l)) : Int)) = true → ((0 : Int) ≤ (↑x : Int) ∧ (List.map Ru.d l)[Int.toNat (↑x : Int)]? = some (aggAt [Sh.str, Sh.bool, Sh.int IntKind.i64, Sh.sl, Sh.int
    IntKind.i64, Sh.str, Sh.int IntKind.i64, Sh.sl, Sh.sl, Sh.sl] (List.map Ru.d l) (Int.toNat (↑x : Int)))) ∧ PFn Tryd.prog G (21 : Nat) [aggAt [Sh.str, Sh.bool, Sh.int IntKind.i64, Sh.sl,
    Sh.int IntKind.i64, Sh.str, Sh.int IntKind.i64, Sh.sl, Sh.sl, Sh.sl] (List.map Ru.d l) (Int.toNat (↑x : Int))] fun (rs : List D) => ∃ (n : Int), rs = [D.int IntKind.i64 n] ∧ ((n != (0 :
    Int)) = true → [D.int IntKind.i64 (↑x : Int), D.int IntKind.i64 n] = [D.int IntKind.i64 (Prod.fst (rulesI l)), D.int IntKind.i64 (Prod.snd (rulesI l))]) ∧ ((n != (0 : Int)) = false → ∃
    (x0 : Nat), (x0 ≤ x ∧ ∀ (z : Ru), l[x]? = some z → List.contains (List.map (fun (x : Ru) => Ru.name x) (List.take x0 l)) (Ru.name z) = false) ∧ ((List.map Ru.d l = List.map Ru.d l ∧ (↑x
    : Int) = (↑x : Int) ∧ (0 : Int) = (↑x0 : Int) ∧ True) ∧ True) ∧ ∀ (x_1 : Nat), (x_1 ≤ x ∧ ∀ (z : Ru), l[x]? = some z → List.contains (List.map (fun (x : Ru) => Ru.name x) (List.take x_1
    l)) (Ru.name z) = false) → (decide ((↑x_1 : Int) < (↑x : Int)) = true → ((0 : Int) ≤ (↑x_1 : Int) ∧ (List.map Ru.d l)[Int.toNat (↑x_1 : Int)]? = some (aggAt [Sh.str, Sh.bool, Sh.int
    IntKind.i64, Sh.sl, Sh.int IntKind.i64, Sh.str, Sh.int IntKind.i64, Sh.sl, Sh.sl, Sh.sl] (List.map Ru.d l) (Int.toNat (↑x_1 : Int)))) ∧ ((0 : Int) ≤ (↑x : Int) ∧ (List.map Ru.d
    l)[Int.toNat (↑x : Int)]? = some (aggAt [Sh.str, Sh.bool, Sh.int IntKind.i64, Sh.sl, Sh.int IntKind.i64, Sh.str, Sh.int IntKind.i64, Sh.sl, Sh.sl, Sh.sl] (List.map Ru.d l) (Int.toNat (↑x
    : Int)))) ∧ ((D.toStr (Option.getD (cellAt (List.map Ru.d l) (Int.toNat (↑x_1 : Int)) (0 : Nat)) default) == D.toStr (Option.getD (cellAt (List.map Ru.d l) (Int.toNat (↑x : Int)) (0 :
    Nat)) default)) = true → [D.int IntKind.i64 (↑x : Int), D.int IntKind.i64 (82 : Int)] = [D.int IntKind.i64 (Prod.fst (rulesI l)), D.int IntKind.i64 (Prod.snd (rulesI l))]) ∧ ((D.toStr
    (Option.getD (cellAt (List.map Ru.d l) (Int.toNat (↑x_1 : Int)) (0 : Nat)) default) == D.toStr (Option.getD (cellAt (List.map Ru.d l) (Int.toNat (↑x : Int)) (0 : Nat)) default)) = false
    → ∃ (y : Nat), (y ≤ x ∧ ∀ (z : Ru), l[x]? = some z → List.contains (List.map (fun (x : Ru) => Ru.name x) (List.take y l)) (Ru.name z) = false) ∧ x - y < x - x_1 ∧ (List.map Ru.d l =
    List.map Ru.d l ∧ (↑x : Int) = (↑x : Int) ∧ IntKind.wrap IntKind.i64 ((↑x_1 : Int) + (1 : Int)) = (↑y : Int) ∧ True) ∧ True)) ∧ (decide ((↑x_1 : Int) < (↑x : Int)) = false → ∃ (y : Nat),
    (y ≤ List.length l ∧ rulesT (List.map (fun (x : Ru) => Ru.name x) (List.take y l)) y (List.drop y l) = rulesI l) ∧ List.length l - y < List.length l - x ∧ (List.map Ru.d l = List.map
    Ru.d l ∧ IntKind.wrap IntKind.i64 ((↑x : Int) + (1 : Int)) = (↑y : Int) ∧ True) ∧ True))) ∧ (decide ((↑x : Int) < (↑(List.length (List.map Ru.d l)) : Int)) = false → [D.int IntKind.i64
    (0 : Int), D.int IntKind.i64 (0 : Int)] = [D.int IntKind.i64 (Prod.fst (rulesI l)), D.int IntKind.i64 (Prod.snd (rulesI l))]))
  · kernel_rfl
  refine ⟨0, ⟨by omega, rfl⟩, by simp, fun i hi => ⟨fun hlt => ?_, fun hge => ?_⟩⟩
  · simp only [List.length_map, decide_eq_true_eq] at hlt
    obtain ⟨z, hz, hm⟩ := get_nat (l := l) (x := i) (by omega)
    have hi2 := hi.2
    rw [drop_at hz, rulesT] at hi2
    rw [Int.toNat_natCast, agg_ru hz]
    have hzw := rwts_mem hm
    refine ⟨⟨by omega, by simp [hz]⟩, (g21 z (by omega)).use ⟨_, rfl, fun h => ?_, fun h => ?_⟩⟩
    · rw [if_pos (by simpa using h)] at hi2
      rw [← hi2]
    · rw [if_neg (by simpa using h)] at hi2
      refine ⟨0, ⟨by omega, fun _ _ => rfl⟩, by simp, fun k hk => ⟨fun hlt2 => ?_, fun hge2 => ?_⟩⟩
      · simp only [decide_eq_true_eq] at hlt2
        obtain ⟨u, hu, hum⟩ := get_nat (l := l) (x := k) (by omega)
        rw [Int.toNat_natCast, agg_ru hu, cell_ru0 hu, cell_ru0 hz]
        have e1 : D.toStr (Option.getD (some (D.str u.name)) default) = u.name := rfl
        have e2 : D.toStr (Option.getD (some (D.str z.name)) default) = z.name := rfl
        rw [e1, e2]
        refine ⟨⟨by omega, by simp [hu]⟩, ⟨by omega, by simp [hz]⟩, fun he => ?_, fun he => ⟨k + 1, ⟨by omega, fun z' hz' => ?_⟩, by omega, ?_⟩⟩
        · have he' : u.name = z.name := by simpa using he
          have hc : ((l.take i).map (·.name)).contains z.name = true := by
            rw [List.contains_iff_mem, List.mem_map]
            refine ⟨u, ?_, he'⟩
            have : (l.take i)[k]? = some u := by rw [List.getElem?_take, if_pos (by omega)]; exact hu
            exact List.mem_of_getElem? this
          rw [if_pos hc] at hi2
          rw [← hi2]
        · rw [hz] at hz'
          cases hz'
          have he' : ¬ u.name = z.name := by simpa using he
          have h5 := hk.2 z hz
          rw [List.take_add_one, hu]
          simp only [Option.toList_some, List.map_append, List.map_cons, List.map_nil, List.contains_eq_mem, List.mem_append, List.mem_singleton, decide_eq_false_iff_not] at h5 ⊢
          rintro (h6 | h6)
          · exact h5 h6
          · exact he' h6.symm
        · rw [wrap64 (by omega) (by omega)]; simp
      · simp only [decide_eq_false_iff_not] at hge2
        have hki : k = i := by omega
        subst hki
        have hc := hk.2 z hz
        rw [if_neg (by rw [hc]; simp)] at hi2
        refine ⟨k + 1, ⟨by omega, ?_⟩, by omega, ?_⟩
        · rw [List.take_add_one, hz, List.map_append]; exact hi2
        · rw [wrap64 (by omega) (by omega)]; simp
  · simp only [List.length_map, decide_eq_false_iff_not] at hge
    have hi2 := hi.2
    rw [List.drop_eq_nil_of_le (by omega), rulesT] at hi2
    rw [← hi2]
end
end Go.Fo
/- More arguments in the claim's form. -/
namespace Go.Fo
open Go Go.Sx Go.Proofs
open Go.ChangeShapes Go.WideShapes Go.RowKit Go.ChangeMaps
open Go.Proofs.YtnnkldnhlebmmaaDoor (Rows.uptoBulk Rows.uptoBulkAll Rows.uptoSmall)
set_option maxRecDepth 100000
theorem rwts_eq (l : List Ru) : (l.map Ru.wt).sum = rwts l := by
  induction l with
  | nil => rfl
  | cons t r ih => simp only [List.map_cons, List.sum_cons, rwts, ih]
section
variable {H : Type} {enc : TypeId × Value → H} {W : World} {held : Bool}
theorem trodRu {fuel : Nat} {cs : List Value} {x : DataW H × List MemPlace} (h : DataW.trod enc Tryd.prog W 0 (fun _ => true) held fuel 38 cs = some x) :
    ∃ r : Ru, All2 (R1 (cW W).I (cW W).J W) cs r.d.cells ∧ r.wt + 1 ≤ Rows.uptoBulk x.1 := by
  obtain ⟨xs, n, rfl, rfl, hl, hx, hf⟩ := DataW.trod_struct Tryd.underlying38 h
  have hc : Tryd.prog.cellsOf 38 = 10 := by kernel_rfl
  have hc3 : Tryd.prog.cellsOf 3 = 1 := by kernel_rfl
  have hc4 : Tryd.prog.cellsOf 4 = 1 := by kernel_rfl
  have hc9 : Tryd.prog.cellsOf 9 = 1 := by kernel_rfl
  have hc22 : Tryd.prog.cellsOf 22 = 1 := by kernel_rfl
  have hc33 : Tryd.prog.cellsOf 33 = 6 := by kernel_rfl
  have hc40 : Tryd.prog.cellsOf 43 = 2 := by kernel_rfl
  rw [hc] at hl
  match cs, hl with
  | [v0, v1, v2, v3, v4, v5, v6, v7, v8, v9], _ =>
  match xs, hx with
  | [x0, x1, x2, x3, x4], _ =>
  have h0 : DataW.trod enc Tryd.prog W 0 (fun _ => true) held n 9 (List.take (Tryd.prog.cellsOf 9) [v0, v1, v2, v3, v4, v5, v6, v7, v8, v9]) = some x0 := hf 0 _ rfl
  have h1 : DataW.trod enc Tryd.prog W 0 (fun _ => true) held n 4 (List.take (Tryd.prog.cellsOf 4) [v1, v2, v3, v4, v5, v6, v7, v8, v9]) = some x1 := hf 1 _ rfl
  have h2 : DataW.trod enc Tryd.prog W 0 (fun _ => true) held n 3 (List.take (Tryd.prog.cellsOf 3) [v2, v3, v4, v5, v6, v7, v8, v9]) = some x2 := hf 2 _ rfl
  have h3 : DataW.trod enc Tryd.prog W 0 (fun _ => true) held n 22 (List.take (Tryd.prog.cellsOf 22) [v3, v4, v5, v6, v7, v8, v9]) = some x3 := hf 3 _ rfl
  have h4 : DataW.trod enc Tryd.prog W 0 (fun _ => true) held n 33 (List.take (Tryd.prog.cellsOf 33) [v4, v5, v6, v7, v8, v9]) = some x4 := hf 4 _ rfl
  simp only [hc3, hc4, hc9, hc22, hc33, List.take_succ_cons, List.take_zero] at h0 h1 h2 h3 h4
  obtain ⟨b, e0, f0, _⟩ := DataW.trod_string Tryd.underlying9 h0
  obtain ⟨g, e1, _⟩ := DataW.trod_bool Tryd.underlying4 h1
  obtain ⟨c, e2, f2, _⟩ := DataW.trod_int (k := .i64) Tryd.underlying3 h2
  obtain ⟨bs, w3, e3, r3, b3⟩ := trodSlice Bd.d (fun t => t.name.length + 1) (by decide) (fun _ => rfl) Tryd.underlying22 hc40 (fun _ _ _ _ h => trodBd h) h3
  obtain ⟨f, r4, b4⟩ := trodFm _ _ _ h4
  simp only [List.cons.injEq, and_true] at e0 e1 e2 e3
  subst e0 e1 e2 e3 f0 f2
  refine ⟨⟨b.data.toList, g, c, bs, f⟩, ?_, ?_⟩
  · rw [byte_str]
    rw [f.d_eq] at r4
    exact All2.cons (.str _) (All2.cons (.bool _) (All2.cons (.int _ _) (All2.cons r3 r4)))
  · rw [sumB_eq] at b3
    unfold Ru.wt ewt
    simp only [List.map_cons, List.map_nil, Rows.uptoBulk, Rows.uptoBulkAll, Array.length_toList, ByteArray.size] at *
    omega
theorem arg5 {base : Nat} {v : Value} {d : DataW H} {p : List MemPlace} (hok : Value.okWide Tryd.prog W .any base 5 v) (h : DataW.Trod enc Tryd.prog W 0 (fun _ => true) true 5 v d p) :
    ∃ n : Int, RV (cW W).I (cW W).J W v (.int .u8 n) ∧ 0 ≤ n ∧ n ≤ 255 := by
  obtain ⟨n, rfl, rfl, rfl, hn⟩ := open_int Tryd.underlying5 hok h
  have h1 : (decide (IntKind.u8.min ≤ n) && decide (n ≤ IntKind.u8.max)) = true := hn
  rw [Bool.and_eq_true, decide_eq_true_eq, decide_eq_true_eq] at h1
  exact ⟨n, R1.int _ _, h1.1, h1.2⟩
theorem arg24 {base : Nat} {v : Value} {d : DataW H} {p : List MemPlace} (hok : Value.okWide Tryd.prog W .any base 24 v) (h : DataW.Trod enc Tryd.prog W 0 (fun _ => true) true 24 v d p) :
    ∃ t : Tm, RV (cW W).I (cW W).J W v t.d ∧ t.name.length ≤ Rows.uptoBulk d := by
  obtain ⟨cs, rfl, _⟩ := okWide_struct Tryd.underlying24 hok
  obtain ⟨fuel, hf⟩ := h
  obtain ⟨t, h1, h2⟩ := trodTm hf
  refine ⟨t, ?_, by have : (d, p).1 = d := rfl; rw [this] at h2; omega⟩
  have h3 : All2 (R1 (cW W).I (cW W).J W) cs.toList t.d.cells := h1
  exact ⟨cs.toList, by simp, h3⟩
theorem arg43 {base : Nat} {v : Value} {d : DataW H} {p : List MemPlace} (hok : Value.okWide Tryd.prog W .any base 43 v) (h : DataW.Trod enc Tryd.prog W 0 (fun _ => true) true 43 v d p) :
    ∃ t : Bd, RV (cW W).I (cW W).J W v t.d ∧ t.name.length ≤ Rows.uptoBulk d := by
  obtain ⟨cs, rfl, _⟩ := okWide_struct Tryd.underlying43 hok
  obtain ⟨fuel, hf⟩ := h
  obtain ⟨t, h1, h2⟩ := trodBd hf
  refine ⟨t, ?_, by have : (d, p).1 = d := rfl; rw [this] at h2; omega⟩
  have h3 : All2 (R1 (cW W).I (cW W).J W) cs.toList t.d.cells := h1
  exact ⟨cs.toList, by simp, h3⟩
theorem arg22 {base : Nat} {v : Value} {d : DataW H} {p : List MemPlace} (hok : Value.okWide Tryd.prog W .any base 22 v) (h : DataW.Trod enc Tryd.prog W 0 (fun _ => true) true 22 v d p) :
    ∃ e : En, RV (cW W).I (cW W).J W v (.sl (e.map Bd.d)) ∧ ewt e ≤ Rows.uptoBulk d := by
  obtain ⟨a, n, k, rfl⟩ := okWide_slice Tryd.underlying22 hok
  obtain ⟨fuel, hf⟩ := h
  obtain ⟨e, w, h1, h2, h3⟩ := trodSlice Bd.d (fun t => t.name.length + 1) (sz := 2) (by decide) (fun _ => rfl) Tryd.underlying22 (by kernel_rfl) (fun _ _ _ _ h => trodBd h) hf
  have hw : w = .slice a n k := (List.cons.inj h1).1.symm
  subst hw
  refine ⟨e, h2, ?_⟩
  rw [sumB_eq] at h3
  have h3' : sumB e + e.length + 1 ≤ Rows.uptoBulk d := h3
  unfold ewt; omega
theorem arg36 {base : Nat} {v : Value} {d : DataW H} {p : List MemPlace} (hok : Value.okWide Tryd.prog W .any base 36 v) (h : DataW.Trod enc Tryd.prog W 0 (fun _ => true) true 36 v d p) :
    ∃ l : List Ru, RV (cW W).I (cW W).J W v (.sl (l.map Ru.d)) ∧ l.length ≤ Rows.uptoBulk d ∧ rwts l ≤ Rows.uptoBulk d := by
  obtain ⟨a, n, k, rfl⟩ := okWide_slice Tryd.underlying36 hok
  obtain ⟨fuel, hf⟩ := h
  obtain ⟨l, w, h1, h2, h3⟩ := trodSlice Ru.d (fun r => r.wt + 1) (sz := 10) (by decide) (fun _ => rfl) Tryd.underlying36 (by kernel_rfl) (fun _ _ _ _ h => trodRu h) hf
  have hw : w = .slice a n k := (List.cons.inj h1).1.symm
  subst hw
  have h4 : (l.map fun r => r.wt + 1).sum = rwts l + l.length := by
    clear h1 h2 h3
    induction l with
    | nil => rfl
    | cons t r ih => simp only [List.map_cons, List.sum_cons, rwts, List.length_cons, ih]; omega
  rw [h4] at h3
  have h3' : rwts l + l.length + 1 ≤ Rows.uptoBulk d := h3
  exact ⟨l, h2, by omega, by omega⟩
end
end Go.Fo
