/- A region that draws its order, whose operations only read and whose callees only make memory: one walk in the order of the text. Plain lemmas over any program. -/
import Derived.Test.YtmjfmfelbmbniaaHK
import Derived.Deep.QuietTactic
import Derived.BigQuiet
namespace Go.Proofs.Ytmjfmfelbmbniaa.QB
open Go.RowKit Go.Maps HK
set_option linter.unusedVariables false
theorem region {P : Program} (B : World) {id : Nat} {Q : Exit → Act → World → Prop} {a : Act} {w : World} {l : List Oper} (hm : P.follows .mixedOrders = true) (hB : Region.lexB .any l.toArray = true) (hC : Below B.heap.size B w)
    (h : wpQuiet P l.toArray (fun W => Below B.heap.size B W) (fun a' => ∀ w', Below B.heap.size B w' → Q .normal a' w') l a) : (Code.region id l.toArray true).wp P Q a w :=
  wp_region_quiet (C := fun W => Below B.heap.size B W) hm hB ⟨hC.os, hC.tape, hC.output, hC.size, hC.block⟩ (by simpa using h)
section
variable {P : Program} {ops : Array Oper} {C : World → Prop} {Q : Act → Prop} {a : Act} {o : Oper} {rest : List Oper} {v : Value}
theorem step (hw : Region.wanted o (yielded ops a.tmps) = true) (h : ∀ W, C W → o.quietAt P a C W v) (h2 : wpQuiet P ops C Q rest (a.put o.dst v)) : wpQuiet P ops C Q (o :: rest) a :=
  wpQuiet_step fun K hK => by rw [if_pos hw]; exact ⟨v, h, hK _ h2⟩
theorem skip (hw : Region.wanted o (yielded ops a.tmps) = false) (h : wpQuiet P ops C Q rest (a.put o.dst undef)) : wpQuiet P ops C Q (o :: rest) a :=
  wpQuiet_step fun K hK => by rw [if_neg (by rw [hw]; exact Bool.false_ne_true)]; exact hK _ h
end
end Go.Proofs.Ytmjfmfelbmbniaa.QB
