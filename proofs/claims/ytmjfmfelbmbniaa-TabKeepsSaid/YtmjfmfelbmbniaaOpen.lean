/- How an argument of whatever shape (numbers, strings, bools, structs, slices of these) reads out of memory: one reader a type, put together by its parts. Plain lemmas over any program. -/
import Derived.Deep.Slices
import Derived.SizedLaws
import Derived.ChangeArms
import Derived.OpenShut
import Derived.WalkKit
namespace Go.Proofs.Ytmjfmfelbmbniaa.Opn
open Go.ChangeShapes Go.WideShapes Go.Deep
set_option linter.unusedVariables false
set_option linter.unusedSimpArgs false
/-- No part of a datum is greater than what the reach allows. -/
def Sz {H : Type} (P : Program) (t : TypeId) (d : DataW H) : Prop := ∀ n ∈ d.weights P t, n ≤ reachBytes
theorem Sz.each {H : Type} {P : Program} {ts : List TypeId} {ds : List (DataW H)} (h : ∀ n ∈ DataW.weightsEach P ts ds, n ≤ reachBytes) {j : Nat} {t : TypeId} {d : DataW H} (ht : ts[j]? = some t) (hd : ds[j]? = some d) : Sz P t d :=
  fun n hn => h n (DataW.weights_mem_each ht hd n hn)
theorem Sz.of_all {H : Type} {P : Program} {ts : List TypeId} {ds : List (DataW H)} (h : (DataW.weightsEach P ts ds).all (· ≤ reachBytes) = true) {j : Nat} {t : TypeId} {d : DataW H} (ht : ts[j]? = some t) (hd : ds[j]? = some d) : Sz P t d :=
  Sz.each (fun n hn => by simpa using List.all_eq_true.1 h n hn) ht hd
theorem weightsAll_mem {H : Type} {P : Program} {e : TypeId} : ∀ {ds : List (DataW H)} {d : DataW H}, d ∈ ds → ∀ n ∈ d.weights P e, n ∈ DataW.weightsAll P e ds
  | d0 :: ds, d, hd, n, hn => by
    simp only [DataW.weightsAll, List.mem_append]
    rcases List.mem_cons.1 hd with rfl | hd
    · exact .inl hn
    · exact .inr (weightsAll_mem hd n hn)
/-- A reader of a type. -/
structure Rd (P : Program) (t : TypeId) (α : Type) where
  R : World → α → List Value → Prop
  opn : ∀ {H : Type} {enc : TypeId × Value → H} {w : World} {base : Nat} {sp : Nat → Bool} {held : Bool} {fuel : Nat} {cs : List Value} {x : DataW H × List MemPlace}, DataW.trod enc P w base sp held fuel t cs = some x → Sz P t x.1 → ∃ a, R w a cs
section
variable {P : Program}
def Rd.int {t : TypeId} {k : IntKind} (ht : P.underlying t = some (.int k)) : Rd P t Int where
  R := fun _ n cs => cs = [.int k n] ∧ (Lit.int k n).wf = true
  opn := fun h _ => by obtain ⟨n, h1, _, h2⟩ := DataW.trod_int ht h; exact ⟨n, h1, h2⟩
def Rd.str {t : TypeId} (ht : P.underlying t = some .string) : Rd P t ByteArray where
  R := fun _ s cs => cs = [.string s] ∧ s.size ≤ reachBytes
  opn := fun h hs => by
    obtain ⟨s, h1, h2, _⟩ := DataW.trod_string ht h
    refine ⟨s, h1, ?_⟩
    rw [h2] at hs
    have := hs s.data.toList.length (by simp [DataW.weights])
    simpa using this
def Rd.bool {t : TypeId} (ht : P.underlying t = some .bool) : Rd P t Bool where
  R := fun _ b cs => cs = [.bool b]
  opn := fun h _ => by obtain ⟨b, h1, _⟩ := DataW.trod_bool ht h; exact ⟨b, h1⟩
/-- The fields of a struct from one offset on. -/
structure RdF (P : Program) (fs : List Field) (off : Nat) (β : Type) where
  sz : Nat
  R : World → β → List Value → Prop
  opn : ∀ {H : Type} {enc : TypeId × Value → H} {w : World} {base : Nat} {sp : Nat → Bool} {held : Bool} {n : Nat} {cs : List Value} {xs : List (DataW H × List MemPlace)}, cs.length = off + sz → xs.length = fs.length →
    (∀ (i : Nat) (f : Field), fs[i]? = some f → DataW.trod enc P w base sp held n f.type ((cs.drop f.offset).take (P.cellsOf f.type)) = xs[i]?) → (∀ n ∈ DataW.weightsEach P (fs.map (·.type)) (xs.map (·.1)), n ≤ reachBytes) → ∃ b, R w b (cs.drop off)
def RdF.nil (off : Nat) : RdF P [] off Unit where
  sz := 0
  R := fun _ _ cs => cs = []
  opn := fun h _ _ _ => ⟨(), by simp; omega⟩
def RdF.cons {α β : Type} {f : Field} {fs : List Field} {off : Nat} (hf : f.offset = off) (F : Rd P f.type α) (k : Nat) (hk : P.cellsOf f.type = k) (L : RdF P fs (off + k) β) : RdF P (f :: fs) off (α × β) where
  sz := k + L.sz
  R := fun w ab cs => ∃ c1 c2, cs = c1 ++ c2 ∧ F.R w ab.1 c1 ∧ L.R w ab.2 c2
  opn := fun {H enc w base sp held n cs xs} hl hx hat hw => by
    match xs, hx with
    | x :: xs, hx =>
      have h0 := hat 0 f rfl
      rw [hf, hk] at h0
      obtain ⟨a, ha⟩ := F.opn h0 (Sz.each hw (j := 0) rfl rfl)
      obtain ⟨b, hb⟩ := L.opn (enc := enc) (w := w) (base := base) (sp := sp) (held := held) (n := n) (cs := cs) (xs := xs) (by omega) (by simpa using hx) (fun i g hg => by have := hat (i + 1) g (by simpa using hg); simpa using this)
        (fun m hm => hw m (by simp only [List.map_cons, DataW.weightsEach, List.mem_append]; exact .inr hm))
      refine ⟨(a, b), (cs.drop off).take k, cs.drop (off + k), ?_, ha, hb⟩
      rw [← List.drop_drop, List.take_append_drop]
def Rd.struct {β : Type} {t : TypeId} {fs : Array Field} (ht : P.underlying t = some (.struct fs)) (L : RdF P fs.toList 0 β) (hsz : P.cellsOf t = L.sz) : Rd P t β where
  R := L.R
  opn := fun h hs => by
    obtain ⟨xs, n, _, hx, hl, hxl, hf⟩ := DataW.trod_struct ht h
    obtain ⟨b, hb⟩ := L.opn (by rw [hl, hsz]; omega) (by rw [hxl]; simp) (fun i f hf' => hf i f (by simpa using hf')) (fun n hn => hs n (by rw [hx]; simp only [DataW.weights, ht]; exact hn))
    exact ⟨b, by simpa using hb⟩
theorem list_of {α : Type} (n : Nat) (p : Nat → α → Prop) (h : ∀ i, i < n → ∃ x, p i x) : ∃ l : List α, l.length = n ∧ ∀ j x, l[j]? = some x → p j x := by
  induction n with
  | zero => exact ⟨[], rfl, fun j x hx => by simp at hx⟩
  | succ n ih =>
    obtain ⟨l, h1, h2⟩ := ih (fun i hi => h i (by omega))
    obtain ⟨x, hx⟩ := h n (by omega)
    refine ⟨l ++ [x], by simp [h1], fun j y hy => ?_⟩
    rw [List.getElem?_append] at hy
    split at hy
    · exact h2 j y hy
    · rename_i hj
      have : j - l.length = 0 := by
        rcases Nat.eq_zero_or_pos (j - l.length) with h | h
        · exact h
        · rw [List.getElem?_eq_none (by simp; omega)] at hy; cases hy
      rw [this] at hy
      simp at hy
      subst hy
      rw [show j = n by omega]; exact hx
theorem spot_none {w : World} {a : Addr} {v : Value} (h : w.cell? a = some v) : a.spot = none := by
  unfold World.cell? at h
  split at h
  · cases hs : a.spot with
    | none => rfl
    | some _ => simp [hs] at h
  · cases h
theorem addr_add (b off n : Nat) : (⟨b, off, none⟩ : Addr).add n = ⟨b, off + n, none⟩ := by unfold Addr.add; split <;> simp_all
/-- A slice: its elements' cells. -/
def Rows {α : Type} (E : World → α → List Value → Prop) (sz : Nat) (w : World) (a : Option Addr) (l : List α) : Prop :=
  ∀ j x, l[j]? = some x → ∃ cs b off, E w x cs ∧ a = some ⟨b, off, none⟩ ∧ cs.length = sz ∧ ∀ i u, cs[i]? = some u → w.cell? ⟨b, off + j * sz + i, none⟩ = some u
def Rd.slice {α : Type} {t e : TypeId} (ht : P.underlying t = some (.slice e)) (E : Rd P e α) (sz : Nat) (hsz : P.cellsOf e = sz) (hpos : 0 < sz) (by_ : Nat) (hby : P.bytesOf e = by_) : Rd P t (List α) where
  R := fun w l cs => ∃ a c, cs = [.slice a l.length c] ∧ l.length ≤ c ∧ c ≤ maxLen ∧ l.length * by_ ≤ reachBytes ∧ Rows E.R sz w a l
  opn := fun {H enc w base sp held fuel cs x} h hs => by
    rcases open_slice ht h with ⟨rfl, hx⟩ | ⟨a, len, cap, m, n, D, Pl, rfl, _, hl, hm, hmm, hx, hi⟩
    · exact ⟨[], none, 0, rfl, Nat.le_refl _, by simp [maxLen], by simp, fun j x hj => by simp at hj⟩
    · have hml : len ≤ m := by rw [hmm]; split <;> omega
      have hw : ∀ i, i < len → Sz P e (D i) := fun i hi0 n hn => hs n (by
        rw [hx]; simp only [DataW.weights, ht, List.mem_cons, List.mem_append]
        exact .inr (.inl (weightsAll_mem (List.mem_map.2 ⟨i, by simpa using hi0, rfl⟩) n hn)))
      obtain ⟨l, hll, hlj⟩ := list_of len (fun i x => ∃ cs, E.R w x cs ∧ cs.length = sz ∧ ∀ q u, cs[q]? = some u → w.cell? ((a.add (i * sz)).add q) = some u) (fun i hi0 => by
        obtain ⟨cs, hc, ht'⟩ := hi i (by omega)
        obtain ⟨x, hx⟩ := E.opn ht' (hw i hi0)
        obtain ⟨_, hcl, hat⟩ := World.cells?_some hc
        rw [hsz] at hcl hat
        exact ⟨x, cs, hx, hcl, fun q u hu => by
          have hq : q < cs.length := (List.getElem?_eq_some_iff.1 hu).1
          rw [hat q (by omega)]; exact hu⟩)
      subst hll
      refine ⟨l, some a, cap, rfl, hl, hm, ?_, fun j x hj => ?_⟩
      · have := hs _ (by rw [hx]; simp only [DataW.weights, ht, List.mem_cons]; exact .inl rfl)
        rw [hby] at this
        simp only [List.length_map, List.length_range] at this
        exact Nat.le_trans (Nat.mul_le_mul_right _ (by omega)) this
      · obtain ⟨cs, hE, hcl, hcell⟩ := hlj j x hj
        have hpos0 : 0 < l.length := by have := (List.getElem?_eq_some_iff.1 hj).1; omega
        obtain ⟨cs0, _, hcl0, hcell0⟩ := hlj 0 l[0] (List.getElem?_eq_getElem hpos0)
        have hsp := spot_none (hcell0 0 (cs0[0]'(by omega)) (List.getElem?_eq_getElem (by omega)))
        obtain ⟨b, off, spot⟩ := a
        have hs2 : spot = none := by simpa [Addr.add] using hsp
        subst hs2
        exact ⟨cs, b, off, hE, rfl, hcl, fun i u hu => by have := hcell i u hu; rwa [addr_add, addr_add] at this⟩
end
end Go.Proofs.Ytmjfmfelbmbniaa.Opn
