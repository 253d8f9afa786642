/- Every law's row from a contract of the law's function: what came in reads behind the call as it read before, since nothing that was there has changed. Plain lemmas over any program. -/
import Derived.WalkKit
import Derived.KernelRfl
import Derived.RowKit
import Derived.OpenShut
import Derived.ShutString
import Derived.ChangeOld
import Derived.ChangeBook
import Derived.ChangeStays
import Derived.Below
import Derived.SizedLaws
import Derived.Lib.SmallJoins
import Derived.ChangeArms
import Derived.LaidMore
import Derived.Lib.LaidTab
import Derived.MakeChecks
namespace Go.Proofs.Ytmjfmfelbmbniaa.RowLaws
open Go.ChangeShapes Go.WideShapes Go.ChangeAt Go.RowKit
set_option linter.unusedVariables false
section
variable {H : Type} {enc : TypeId × Value → H} {P : Program} {W W' : World}

theorem sameAt_below (hb : Below W.heap.size W W') {p : MemPlace} (h : p.block < W.heap.size) : W.sameAt W' p := by
  cases p with
  | cell b o =>
    simp only [World.sameAt]
    exact World.cell?_of_block (hb.block b h)
  | map b => exact hb.block b h

theorem trodAll_stays (hl : laidOutB P = true) (hb : Below W.heap.size W W') : ∀ {ts : List TypeId} {vs : List Value} {ds : List (DataW H)} {ps : List MemPlace},
    (∀ t ∈ ts, t < P.types.size ∧ P.readableRec t = true) → (∀ p ∈ ps, p.block < W.heap.size) → DataW.TrodAll enc P W 0 (fun _ => true) true ts vs ds ps →
    DataW.TrodAll enc P W' 0 (fun b => decide (b < W.heap.size)) true ts vs ds ps
  | [], [], [], _, _, _, h => h
  | t :: ts, _ :: _, _ :: _, _, ht, hp, ⟨p, q, ⟨n, h⟩, hs, e⟩ => by
    subst e
    have h0 := ht t (List.mem_cons_self ..)
    have hp1 : ∀ x ∈ p, x.block < W.heap.size := fun x hx => hp x (List.mem_append_left _ hx)
    exact ⟨p, q, ⟨n, DataW.trod_stays (kids_book hl h0.2) (book_sized h0.2) (fun h => by cases h) ⟨h0.1, book_self t⟩ h (fun x hx => sameAt_below hb (hp1 x hx)) (fun x hx => by simpa using hp1 x hx)⟩,
      trodAll_stays hl hb (fun t h => ht t (List.mem_cons_of_mem _ h)) (fun x hx => hp x (List.mem_append_right _ hx)) hs, rfl⟩
end

/-- The step of a law's row: the call returns true, and nothing that was there has changed. -/
theorem post_true {H : Type} {enc : TypeId × Value → H} {P : Program} {W W' : World} {f : Func} {s : ChangeSpec} {args : Array Value} {ds gs : List (DataW H)} {before : List MemPlace} {tb : TypeId}
    (hl : laidOutB P = true) (hts : ∀ t ∈ f.params.toList, t < P.types.size ∧ P.readableRec t = true) (hv0 : s.vars = []) (hres : f.resultTypes = #[tb]) (htb : P.underlying tb = some .bool)
    (hW : DataW.Whole enc P f.params.toList s.vars false W args.toList ds gs before) (hfn : s.fn H (ds ++ gs) = { results := [.lit (.bool true)], args := ds }) (hb : Below W.heap.size W W') :
    s.post enc P f false true false false W args (.bool true) W' := by
  have hlt : ∀ p ∈ before, p.block < W.heap.size := fun p hp => hW.lt p hp
  obtain ⟨p, q, hA, hV, e, hz, hn⟩ := id hW
  subst e
  rw [hv0] at hV
  obtain ⟨rfl, rfl⟩ := trodVars_none hV
  refine ⟨ds, [], _, [], p, [], hW, ?_, ?_, ?_, hb.frame _, fun h => by cases h⟩
  · rw [hfn, hres]; exact trodAll_mk1 (shut_bool htb _)
  · rw [hfn]; exact trodAll_stays hl hb hts (fun x hx => hlt x (by simpa using hx)) hA
  · rw [hfn, hv0]; exact rfl
/-- A list of laid variables without its first. -/
theorem laid_tail {P : Program} {W : World} {x : String × DataW Unit} {l : List (String × DataW Unit)} (h : laidMet P (x :: l) W) : laidMet P l W := by
  obtain ⟨ps, hv, hn, hc⟩ := h
  obtain ⟨n, d⟩ := x
  obtain ⟨g, t, cs, fuel, p, q, _, _, _, _, hr, e⟩ := hv
  subst e
  exact ⟨q, hr, (List.nodup_append.1 hn).2.1, fun b off hm => hc b off (List.mem_append_right _ hm)⟩
end Go.Proofs.Ytmjfmfelbmbniaa.RowLaws
