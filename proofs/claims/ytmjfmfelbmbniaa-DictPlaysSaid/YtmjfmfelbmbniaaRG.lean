/- A region that draws its order and whose operations only make memory: what each operation leaves is said once, whatever the order. Plain lemmas over any program. -/
import Derived.WalkKit
import Derived.OrdersHeld
namespace Go.Proofs.Ytmjfmfelbmbniaa.RG
set_option linter.unusedVariables false
set_option linter.unusedSimpArgs false
/-- The frame with some slots written anew. -/
def fill (a : Act) (D : List Nat) (vals : Nat → Value) : Act := D.foldl (fun a d => a.put (some d) (vals d)) a
theorem put_put (a : Act) (d : Nat) (u v : Value) : (a.put (some d) u).put (some d) v = a.put (some d) v := by
  simp [Act.put, Array.setIfInBounds_setIfInBounds]
theorem put_comm' (a : Act) {d e : Nat} (u v : Value) (h : d ≠ e) : (a.put (some d) u).put (some e) v = (a.put (some e) v).put (some d) u :=
  Act.put_comm a u v (fun x hx => by cases hx; intro he; cases he; exact h rfl)
theorem fill_congr (a : Act) (D : List Nat) (f g : Nat → Value) (h : ∀ d ∈ D, f d = g d) : fill a D f = fill a D g := by
  induction D generalizing a with
  | nil => rfl
  | cons x r ih => simp only [fill, List.foldl_cons]; rw [h x (by simp)]; exact ih _ (fun d hd => h d (by simp [hd]))
theorem fill_put_notin (a : Act) (D : List Nat) (f : Nat → Value) (d : Nat) (v : Value) (h : d ∉ D) : (fill a D f).put (some d) v = fill (a.put (some d) v) D f := by
  induction D generalizing a with
  | nil => rfl
  | cons x r ih =>
    simp only [fill, List.foldl_cons]
    have := ih (a.put (some x) (f x)) (fun hd => h (by simp [hd]))
    simp only [fill] at this
    rw [this, put_comm' _ _ _ (fun e => h (by simp [e]))]
theorem fill_put (a : Act) (D : List Nat) (hD : D.Nodup) (f : Nat → Value) (d : Nat) (v : Value) (h : d ∈ D) : (fill a D f).put (some d) v = fill a D (fun x => if x = d then v else f x) := by
  induction D generalizing a with
  | nil => cases h
  | cons x r ih =>
    have hn := List.nodup_cons.1 hD
    simp only [fill, List.foldl_cons]
    by_cases e : x = d
    · subst e
      have := fill_put_notin (a.put (some x) (f x)) r f x v hn.1
      simp only [fill] at this
      rw [this, put_put, if_pos rfl]
      exact fill_congr _ r _ _ (fun y hy => by rw [if_neg]; rintro rfl; exact hn.1 hy)
    · have := ih (a.put (some x) (f x)) hn.2 (by rcases List.mem_cons.1 h with h | h; exact absurd h.symm e; exact h)
      simp only [fill] at this
      rw [this, if_neg e]
theorem fill_self (a : Act) (D : List Nat) : fill a D (fun d => a.tmps.getD d undef) = a := by
  suffices H : ∀ (D : List Nat) (b : Act), b = a → fill b D (fun d => a.tmps.getD d undef) = a from H D a rfl
  intro D
  induction D with
  | nil => intro b h; exact h
  | cons x r ih =>
    rintro b rfl
    simp only [fill, List.foldl_cons]
    have e : b.put (some x) (b.tmps.getD x undef) = b := by
      obtain ⟨t, d⟩ := b
      simp only [Act.put, Act.mk.injEq, and_true]
      apply Array.ext
      · simp
      · intro i h1 h2
        rw [Array.getElem_setIfInBounds]
        split
        · rename_i e; subst e; simp [Array.getD, h2]
        · rfl
    rw [e]
    exact ih b rfl
def left (l : Array Bool) : Nat := (l.toList.filter (!·)).length
theorem left_set {l : Array Bool} {i : Nat} (h : l.getD i true = false) : left (l.setIfInBounds i true) + 1 = left l := by
  have hi : i < l.size := by
    rcases Nat.lt_or_ge i l.size with h' | h'
    · exact h'
    · simp [Array.getD, Nat.not_lt.2 h'] at h
  have hv : l[i] = false := by simpa [Array.getD, hi] using h
  obtain ⟨l⟩ := l
  simp only [left]
  rw [show (Array.setIfInBounds ⟨l⟩ i true).toList = l.set i true by simp]
  have hi' : i < l.length := by simpa using hi
  have hv' : l[i] = false := by simpa using hv
  clear hi h hv
  induction l generalizing i with
  | nil => simp at hi'
  | cons x r ih =>
    cases i with
    | zero => simp at hv'; subst hv'; simp
    | succ i =>
      have := ih (i := i) (by simpa using hi') (by simpa using hv')
      simp only [List.set_cons_succ, List.filter_cons]
      cases x <;> simp_all
theorem left_zero {l : Array Bool} (h : left l = 0) (i : Nat) : l.getD i true = true := by
  simp only [left, List.length_eq_zero_iff, List.filter_eq_nil_iff] at h
  rcases Nat.lt_or_ge i l.size with h' | h'
  · have := h l[i] (by simp [Array.mem_toList_iff])
    simpa [Array.getD, h'] using this
  · simp [Array.getD, Nat.not_lt.2 h']
section
variable {P : Program} {md : Region.Mode} {ops : Array Oper} {Q : Exit → Act → World → Prop} {S : World → Prop}
theorem pend (l : Array Bool) (js : List Nat) (h : (List.range l.size).all (fun j => l.getD j true || js.contains j) = true) : ∀ j, l.getD j true = false → j ∈ js := by
  intro j hj
  have hlt : j < l.size := by
    rcases Nat.lt_or_ge j l.size with h' | h'
    · exact h'
    · simp [Array.getD, Nat.not_lt.2 h'] at hj
  have := List.all_eq_true.1 h j (by simpa using hlt)
  rw [hj] at this
  simpa using this
theorem wpOp_plain {i : Nat} {o : Oper} {K : Act → World → Prop} {a : Act} {w : World} (ho : ops[i]? = some o) (hg : o.guard = none) (h : ∀ K' : Act → World → Prop, (∀ a w, K a w → K' a w) → o.wp P a w K' Q) : wpOp P ops Q i K a w := by
  unfold wpOp
  rw [ho]
  simp only [Region.wanted, hg, if_true]
  exact .inl (h K fun _ _ h => h)
theorem one {i : Nat} {fuel : Nat} {listed : Array Bool} {a : Act} {w : World} (hr : Region.ready md ops listed = [i]) (h : wpOp P ops Q i (fun a' w' => S w' ∧ wpAnyH P md ops Q S fuel (listed.setIfInBounds i true) a' w') a w) : wpAnyH P md ops Q S (fuel + 1) listed a w :=
  wpAnyH_all hr (by simp) (fun j hj => by simp at hj; subst hj; exact h)
theorem wp_append_run {o : Oper} {a : Act} {w w' : World} {K : Act → World → Prop} {v v2 v' : Value} (s x : Operand) (t tx : TypeId) (ho : o.op = .call { callee := .builtin .append, args := #[s, x], argTypes := #[t, tx] }) (hs : a.eval s = v) (hx : a.eval x = v2)
    (hr : (Builtin.append_ #[t, tx] o.type #[v, v2]).run P w = .ok v' w') (h : K (a.put o.dst v') w') : o.wp P a w K Q := by
  unfold Oper.wp execOp
  simp only [ho, resolve, invoke, builtin, Sem.run_bind, Sem.run_pure, Result.andThen_ok, List.map_toArray, List.map_cons, List.map_nil, hs, hx, hr]
  exact h
theorem wpList_append_run {o : Oper} {rest : List Oper} {a : Act} {w w' : World} {v v2 v' : Value} (hg : o.guard = none) (s x : Operand) (t tx : TypeId) (ho : o.op = .call { callee := .builtin .append, args := #[s, x], argTypes := #[t, tx] }) (hs : a.eval s = v) (hx : a.eval x = v2)
    (hr : (Builtin.append_ #[t, tx] o.type #[v, v2]).run P w = .ok v' w') (h : wpList P ops Q rest (a.put o.dst v') w') : wpList P ops Q (o :: rest) a w :=
  wpList_plain hg fun _ hK => wp_append_run s x t tx ho hs hx hr (hK _ _ h)
/-- If an operation has not come up, one of those that may come up now has not. -/
theorem ready_some (hord : ∀ (j : Nat) (o : Oper), ops[j]? = some o → ∀ e ∈ o.after, Region.binds md e = true → e.on < j) {listed : Array Bool} (hsz : listed.size = ops.size) (h : Region.ready md ops listed = []) : ∀ j : Nat, listed.getD j true = true := by
  intro j
  induction j using Nat.strongRecOn with
  | _ j ih =>
    cases hl : listed.getD j true with
    | true => rfl
    | false =>
      exfalso
      have hj : j < listed.size := by
        rcases Nat.lt_or_ge j listed.size with h' | h'
        · exact h'
        · simp [Array.getD, Nat.not_lt.2 h'] at hl
      have ho : ops[j]? = some ops[j] := by simp [hsz ▸ hj]
      have : j ∈ Region.ready md ops listed := mem_ready.2 ⟨hl, _, ho, fun e he hb => by
        have h1 := hord j _ ho e he hb
        have h2 := ih e.on h1
        have h3 : e.on < listed.size := by omega
        simpa [Array.getD, h3] using h2⟩
      rw [h] at this
      cases this
theorem getD_form (a : Act) (t : Nat) : a.tmps.getD t undef = a.tmps[t]?.getD undef := by simp [Array.getD_eq_getD_getElem?]
def upd (done : Nat → Bool) (j : Nat) : Nat → Bool := fun i => if i = j then true else done i
theorem getD_set_true' {l : Array Bool} {i j : Nat} (h : l.getD j true = true) : (l.setIfInBounds i true).getD j true = true := by
  by_cases e : j = i
  · subst e
    rcases Nat.lt_or_ge j l.size with h' | h'
    · simp [Array.getD, h']
    · simp [Array.getD, Nat.not_lt.2 h']
  · rw [getD_set_ne true (Ne.symm e)]; exact h
/-- The closed facts that 'grow' asks of a region, as one truth. -/
def fits (md : Region.Mode) (ops : Array Oper) (listed0 : Array Bool) (js D : List Nat) (dst : Nat → Nat) (deps : Nat → List Nat) : Bool :=
  listed0.size == ops.size && D.Nodup && (js.map dst).Nodup && js.all (fun j => D.contains (dst j) && decide (j < ops.size)) &&
  (List.range ops.size).all (fun j => listed0.getD j true == !js.contains j) &&
  (List.range ops.size).all (fun j => match ops[j]? with
    | none => false
    | some o => o.after.all (fun e => !Region.binds md e || decide (e.on < j)) && (deps j).all fun i => js.contains i && o.after.any fun e => Region.binds md e && e.on == i)
theorem nodup_inj {js : List Nat} {dst : Nat → Nat} (h : (js.map dst).Nodup) : ∀ i ∈ js, ∀ j ∈ js, dst i = dst j → i = j := by
  induction js with
  | nil => intro i hi; cases hi
  | cons x r ih =>
    rw [List.map_cons] at h
    have hn := List.nodup_cons.1 h
    intro i hi j hj e
    rcases List.mem_cons.1 hi with hi | hi
    · rcases List.mem_cons.1 hj with hj | hj
      · rw [hi, hj]
      · exact absurd (List.mem_map.2 ⟨j, hj, by rw [← e, hi]⟩) hn.1
    · rcases List.mem_cons.1 hj with hj | hj
      · exact absurd (List.mem_map.2 ⟨i, hi, by rw [e, hj]⟩) hn.1
      · exact ih hn.2 i hi j hj e
theorem size_fill (a : Act) (D : List Nat) (vals : Nat → Value) : (fill a D vals).tmps.size = a.tmps.size := by
  induction D generalizing a with
  | nil => rfl
  | cons x r ih => have := ih (a.put (some x) (vals x)); simp only [fill, List.foldl_cons] at this ⊢; rw [this]; simp [Act.put]
theorem getD_put (a : Act) (d t : Nat) (v : Value) : (a.put (some d) v).tmps.getD t undef = if t = d ∧ t < a.tmps.size then v else a.tmps.getD t undef := by
  simp only [Act.put, Array.getD_eq_getD_getElem?, Array.getElem?_setIfInBounds]
  by_cases e : d = t
  · subst e
    by_cases h : d < a.tmps.size <;> simp [h]
  · simp [e, Ne.symm e]
theorem getD_fill_out (a : Act) (D : List Nat) (vals : Nat → Value) (t : Nat) (h : t ∉ D) : (fill a D vals).tmps.getD t undef = a.tmps.getD t undef := by
  induction D generalizing a with
  | nil => rfl
  | cons x r ih =>
    have := ih (a.put (some x) (vals x)) (fun hd => h (by simp [hd]))
    simp only [fill, List.foldl_cons] at this ⊢
    rw [this, getD_put, if_neg (fun e => h (by simp [e.1]))]
theorem getD_fill_in (a : Act) (D : List Nat) (hD : D.Nodup) (vals : Nat → Value) (t : Nat) (h : t ∈ D) (hs : t < a.tmps.size) : (fill a D vals).tmps.getD t undef = vals t := by
  induction D generalizing a with
  | nil => cases h
  | cons x r ih =>
    have hn := List.nodup_cons.1 hD
    by_cases e : t ∈ r
    · have := ih (a.put (some x) (vals x)) hn.2 e (by simpa [Act.put] using hs)
      simp only [fill, List.foldl_cons] at this ⊢
      exact this
    · have hx : t = x := by rcases List.mem_cons.1 h with h | h; exact h; exact absurd h e
      have := getD_fill_out (a.put (some x) (vals x)) r vals t e
      simp only [fill, List.foldl_cons] at this ⊢
      rw [this, getD_put, if_pos ⟨hx, hs⟩, hx]
/-- The frame while the rest of the region runs: but for the slots of D it is as it was. -/
structure Frm (a0 : Act) (D : List Nat) (a : Act) : Prop where
  out : ∀ t, t ∉ D → a.tmps.getD t undef = a0.tmps.getD t undef
/-- What is known while the rest of a region runs: of each operation that has run, what it left, and between which sizes of the heap it ran. -/
structure Inv (js : List Nat) (dst : Nat → Nat) (deps : Nat → List Nat) (Φ : (Nat → Bool) → Nat → Nat → Nat → Value → World → Prop) (N : Nat) (done : Nat → Bool) (lo hi : Nat → Nat) (a : Act) (w : World) : Prop where
  at_ : ∀ j ∈ js, done j = true → N ≤ lo j ∧ lo j ≤ hi j ∧ hi j ≤ w.heap.size ∧ Φ done j (lo j) (hi j) (a.tmps.getD (dst j) undef) w
  apart : ∀ i ∈ js, ∀ j ∈ js, done i = true → done j = true → i ≠ j → hi i ≤ lo j ∨ hi j ≤ lo i
  dep : ∀ i ∈ js, done i = true → ∀ k ∈ deps i, done k = true
/-- The rest of a region, in whatever order. -/
theorem grow (js D : List Nat) (dst : Nat → Nat) (deps : Nat → List Nat) (a0 : Act) (listed0 : Array Bool) (hfit : fits md ops listed0 js D dst deps = true) (hDs : D.all (fun d => decide (d < a0.tmps.size)) = true)
    (Φ : (Nat → Bool) → Nat → Nat → Nat → Value → World → Prop) (w0 : World) (hS0 : S w0)
    (step : ∀ j ∈ js, ∀ (done : Nat → Bool) (lo hi : Nat → Nat) (a : Act) (w : World), Frm a0 D a → S w → w0.heap.size ≤ w.heap.size → done j = false → (∀ i ∈ deps j, done i = true) → Inv js dst deps Φ w0.heap.size done lo hi a w →
      wpOp P ops Q j (fun a' w' => S w' ∧ w.heap.size ≤ w'.heap.size ∧ ∃ v, a' = a.put (some (dst j)) v ∧ (∀ i ∈ js, done i = true → Φ (upd done j) i (lo i) (hi i) (a.tmps.getD (dst i) undef) w') ∧ Φ (upd done j) j w.heap.size w'.heap.size v w') a w)
    (fin : ∀ (vals : Nat → Value) (w : World) (lo hi : Nat → Nat), S w → (∀ j ∈ js, w0.heap.size ≤ lo j ∧ lo j ≤ hi j ∧ hi j ≤ w.heap.size ∧ Φ (fun _ => true) j (lo j) (hi j) (vals (dst j)) w) →
      (∀ i ∈ js, ∀ j ∈ js, i ≠ j → hi i ≤ lo j ∨ hi j ≤ lo i) → Q .normal (fill a0 D vals) w)
    (fuel : Nat) (hf : left listed0 ≤ fuel) : wpAnyH P md ops Q S fuel listed0 a0 w0 := by
  simp only [fits, Bool.and_eq_true, List.all_eq_true, List.mem_range, beq_iff_eq, decide_eq_true_eq] at hfit
  obtain ⟨⟨⟨⟨⟨hsz, hD⟩, hmap⟩, hdD⟩, hlj⟩, hop⟩ := hfit
  have hdD' : ∀ j ∈ js, dst j ∈ D ∧ j < ops.size := fun j hj => by simpa using hdD j hj
  have hDs' : ∀ d ∈ D, d < a0.tmps.size := fun d hd => by simpa using List.all_eq_true.1 hDs d hd
  have hord : ∀ (j : Nat) (o : Oper), ops[j]? = some o → ∀ e ∈ o.after, Region.binds md e = true → e.on < j := by
    intro j o ho e he hb
    have := hop j (Array.getElem?_eq_some_iff.1 ho).1
    rw [ho] at this
    simp only [Bool.and_eq_true] at this
    have h1 := Array.all_eq_true_iff_forall_mem.1 this.1 e he
    simpa [hb] using h1
  have mem : ∀ j, listed0.getD j true = false ↔ j ∈ js := by
    intro j
    rcases Nat.lt_or_ge j ops.size with h' | h'
    · rw [hlj j h']; simp
    · have h1 : listed0.getD j true = true := by simp [Array.getD, hsz, Nat.not_lt.2 h']
      constructor
      · intro h; rw [h1] at h; cases h
      · intro h
        have := (hdD' j h).2
        omega
  have fin' : ∀ (vals : Nat → Value) (w : World) (lo hi : Nat → Nat), S w → Inv js dst deps Φ w0.heap.size (fun _ => true) lo hi (fill a0 D vals) w → Q .normal (fill a0 D vals) w := fun vals w lo hi hSw hI =>
    fin vals w lo hi hSw (fun j hj => (by have h1 := hI.at_ j hj rfl; rwa [getD_fill_in a0 D hD _ _ (hdD' j hj).1 (hDs' _ (hdD' j hj).1)] at h1)) (fun i hi0 j hj0 hne => hI.apart i hi0 j hj0 rfl rfl hne)
  suffices H : ∀ (fuel : Nat) (listed : Array Bool) (vals : Nat → Value) (w : World) (lo hi : Nat → Nat), listed.size = ops.size → left listed ≤ fuel → S w → w0.heap.size ≤ w.heap.size → (∀ j, listed0.getD j true = true → listed.getD j true = true) →
      Inv js dst deps Φ w0.heap.size (fun j => listed.getD j true) lo hi (fill a0 D vals) w → wpAnyH P md ops Q S fuel listed (fill a0 D vals) w by
    have := H fuel listed0 (fun d => a0.tmps.getD d undef) w0 (fun _ => 0) (fun _ => 0) hsz hf hS0 (Nat.le_refl _) (fun _ h => h) ⟨fun j h1 h2 => (by have h4 := (mem j).2 h1; have h5 : listed0.getD j true = true := h2; rw [h4] at h5; cases h5), fun i h1 j h2 h3 => (by have h4 := (mem i).2 h1; have h5 : listed0.getD i true = true := h3; rw [h4] at h5; cases h5), fun i h1 h2 => (by have h4 := (mem i).2 h1; have h5 : listed0.getD i true = true := h2; rw [h4] at h5; cases h5)⟩
    rwa [fill_self] at this
  intro fuel
  induction fuel with
  | zero =>
    intro listed vals w lo hi hs hl hSw hRw hmono hI
    have hall := left_zero (Nat.le_zero.1 hl)
    refine ⟨List.eq_nil_iff_forall_not_mem.2 fun j hj => ?_, fin' vals w lo hi hSw ?_⟩
    · have := (mem_ready.1 hj).1
      rw [hall j] at this; cases this
    · rw [show (fun j => listed.getD j true) = fun _ => true from funext hall] at hI; exact hI
  | succ fuel ih =>
    intro listed vals w lo hi hs hl hSw hRw hmono hI
    refine ⟨fun hnil => ?_, fun i hi0 => ?_⟩
    · have hall := ready_some hord hs hnil
      rw [show (fun j => listed.getD j true) = fun _ => true from funext hall] at hI
      exact fin' vals w lo hi hSw hI
    · obtain ⟨hun, o, ho, hall⟩ := mem_ready.1 hi0
      have hun0 : i ∈ js := by
        refine (mem i).1 ?_
        cases e : listed0.getD i true with
        | false => rfl
        | true => rw [hmono i e] at hun; cases hun
      have hisz : i < listed.size := by
        rcases Nat.lt_or_ge i listed.size with h' | h'
        · exact h'
        · simp [Array.getD, Nat.not_lt.2 h'] at hun
      have hdeps : ∀ k ∈ deps i, listed.getD k true = true := by
        intro k hk
        have h1 := hop i (Array.getElem?_eq_some_iff.1 ho).1
        rw [ho] at h1
        simp only [Bool.and_eq_true, List.all_eq_true] at h1
        have h2 := (h1.2 k hk).2
        rw [← Array.any_toList, List.any_eq_true] at h2
        obtain ⟨e, he, h5⟩ := h2
        simp only [Bool.and_eq_true, beq_iff_eq] at h5
        have h6 := hall e (by simpa using he) h5.1
        have h7 := hord i o ho e (by simpa using he) h5.1
        rw [← h5.2]
        have hlt : e.on < listed.size := by omega
        simpa [Array.getD, hlt] using h6
      refine wpOp_mono ?_ (step i hun0 _ lo hi _ w ⟨fun t ht => getD_fill_out a0 D vals t ht⟩ hSw hRw hun hdeps hI)
      rintro a' w' ⟨hSw', hsz', v, rfl, hv1, hv2⟩
      refine ⟨hSw', ?_⟩
      rw [fill_put a0 D hD vals (dst i) v (hdD' i hun0).1]
      have hgi : (listed.setIfInBounds i true).getD i true = true := by simp [Array.getD, hisz]
      have hgo : ∀ j, j ≠ i → (listed.setIfInBounds i true).getD j true = listed.getD j true := fun j hj => getD_set_ne true (Ne.symm hj)
      have hup : (fun j => (listed.setIfInBounds i true).getD j true) = upd (fun j => listed.getD j true) i := by
        funext j
        unfold upd
        by_cases e : j = i
        · subst e; rw [if_pos rfl]; exact hgi
        · rw [if_neg e]; exact hgo j e
      refine ih _ _ w' (fun j => if j = i then w.heap.size else lo j) (fun j => if j = i then w'.heap.size else hi j) (by simpa using hs) ?_ hSw' (Nat.le_trans hRw hsz') ?_ ⟨?_, ?_, ?_⟩
      · have := left_set hun; omega
      · intro j hj
        by_cases e : j = i
        · subst e; exact hgi
        · rw [hgo j e]; exact hmono j hj
      · intro j hj0 hj
        rw [hup]
        rw [getD_fill_in a0 D hD _ _ (hdD' j hj0).1 (hDs' _ (hdD' j hj0).1)]
        by_cases e : j = i
        · subst e
          simp only [if_true]
          exact ⟨hRw, hsz', Nat.le_refl _, hv2⟩
        · rw [hgo j e] at hj
          simp only [if_neg e]
          obtain ⟨q1, q2, q3, q4⟩ := hI.at_ j hj0 hj
          rw [if_neg (fun e' => e (nodup_inj hmap _ hj0 _ hun0 e'))]
          have := hv1 j hj0 hj
          rw [getD_fill_in a0 D hD _ _ (hdD' j hj0).1 (hDs' _ (hdD' j hj0).1)] at this
          exact ⟨q1, q2, Nat.le_trans q3 hsz', this⟩
      · intro x hx0 y hy0 hx hy hne
        by_cases ex : x = i
        · subst ex
          have ey : y ≠ x := fun e => hne e.symm
          simp only [if_true, if_neg ey]
          rw [hgo y ey] at hy
          exact .inr (hI.at_ y hy0 hy).2.2.1
        · by_cases ey : y = i
          · subst ey
            simp only [if_true, if_neg ex]
            rw [hgo x ex] at hx
            exact .inl (hI.at_ x hx0 hx).2.2.1
          · simp only [if_neg ex, if_neg ey]
            rw [hgo x ex] at hx; rw [hgo y ey] at hy
            exact hI.apart x hx0 y hy0 hx hy hne
      · intro x hx0 hx k hk
        by_cases ex : x = i
        · subst ex
          exact getD_set_true' (hdeps k hk)
        · rw [hgo x ex] at hx
          exact getD_set_true' (hI.dep x hx0 hx k hk)
end
end Go.Proofs.Ytmjfmfelbmbniaa.RG
