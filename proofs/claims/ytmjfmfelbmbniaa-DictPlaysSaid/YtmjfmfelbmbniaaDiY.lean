/- Layer 13: the document's example. -/
import Derived.Test.YtmjfmfelbmbniaaDiX
namespace Go.Proofs.Ytmjfmfelbmbniaa
open Go.RowKit Go.Maps HK ShM
set_option linter.unusedVariables false
set_option linter.unusedSimpArgs false
theorem Dct.setTo {Z : Nat → Prop} {w0 w : World} {d N : Nat} {L L' : Pairs} {B : List (Nat × Val)} (h : Dct Z w0 w d L N B) (hZ : ∀ b, Z b → b < w.heap.size) (hN : N < 131072) (x v : Val) (hx : x.s.size ≤ maxLen) {M : Nat} (hM : N + 1 = M) (f : Bool) (k : Int) (hL : setL L x v = L') (hf : setF L x v = f) (hk : keyE x = k) :
    Calls Try.prog 44 #[.pointer (some ⟨d, 0, none⟩), x.v, v.v] w fun e w' => e = .returned (.tuple #[.bool f, .int .i64 k]) ∧ Dct Z w0 w' d L' M B := by
  with_reducible refine (h.set hZ hN x v hx).mono ?_
  rintro e w' ⟨rfl, h1, _⟩
  exact ⟨by rw [hf, hk], by rw [← hL, ← hM]; exact h1⟩
theorem Dct.nextTo {Z : Nat → Prop} {w0 w : World} {d N : Nat} {L : Pairs} {B : List (Nat × Val)} (h : Dct Z w0 w d L N B) (x : Val) (hx : x.s.size ≤ maxLen) (y z : Val) (k : Int) (hn : nextM L x = ((y, z), k)) :
    Calls Try.prog 49 #[.pointer (some ⟨d, 0, none⟩), x.v] w fun e w' => e = .returned (.tuple #[y.v, z.v, .int .i64 k]) ∧ Below w.heap.size w w' := by
  with_reducible refine (h.next x hx).mono ?_
  rintro e w' ⟨rfl, h1⟩
  exact ⟨by rw [hn], h1⟩
theorem Dct.dropTo {Z : Nat → Prop} {w0 w : World} {d N : Nat} {L L' : Pairs} {B : List (Nat × Val)} (h : Dct Z w0 w d L N B) (hZ : ∀ b, Z b → b < w.heap.size) (x : Val) (hx : x.s.size ≤ maxLen) (f : Bool) (hf : hasK L x = f) (hL : (if hasK L x then dropA L (keyV x) else L) = L') :
    Calls Try.prog 45 #[.pointer (some ⟨d, 0, none⟩), x.v] w fun e w' => e = .returned (.bool f) ∧ Dct Z w0 w' d L' N B := by
  with_reducible refine (h.drop hZ x hx).mono ?_
  rintro e w' ⟨rfl, h1, _⟩
  exact ⟨by rw [hf], by rw [← hL]; exact h1⟩
theorem Dct.alloc {Z : Nat → Prop} {w0 w : World} {d N : Nat} {L : Pairs} {B : List (Nat × Val)} (h : Dct Z w0 w d L N B) (v : Val) (b : Nat) (hb : b = w.heap.size) : Dct Z w0 (w.alloc (.cells #[.int .i64 v.k, .int .i64 v.n, .string v.s] 57)) d L N ((b, v) :: B) := by
  subst hb
  exact h.push ((Below.refl _ _).alloc (Nat.le_refl _) _) (Blk.new w v.cells 57) (Nat.le_refl _)
set_option maxHeartbeats 8000000 in
set_option maxRecDepth 20000 in
theorem dalive_calls (w : World) : Calls Try.prog 40 #[] w fun e w' => e = .returned (.bool true) ∧ Below w.heap.size w w' := by
  have HS := Lib.hid (fun (s : ByteArray) (W : World) => ofStr_calls s W)
  have HI := Lib.hid (fun (n : Int) (W : World) => ofInt_calls n W)
  have HNW := Lib.hid (Dct.new (fun _ => False) w w (Below.refl _ _) (fun b h => h.elim) [] (fun p hp => by cases hp))
  have S1 := Lib.hid (fun (W : World) (d : Nat) (B : List (Nat × Val)) (h : Dct (fun _ => False) w W d [] 0 B) => h.setTo (L' := [(⟨3, 0, ⟨#[97]⟩⟩, ⟨2, 1, ⟨#[]⟩⟩)]) (M := 1) (fun b h => h.elim) (by decide) ⟨3, 0, ⟨#[97]⟩⟩ ⟨2, 1, ⟨#[]⟩⟩ (by decide) (by decide) true 0 (by decide) (by decide) (by decide))
  have S2 := Lib.hid (fun (W : World) (d : Nat) (B : List (Nat × Val)) (h : Dct (fun _ => False) w W d [(⟨3, 0, ⟨#[97]⟩⟩, ⟨2, 1, ⟨#[]⟩⟩)] 1 B) => h.setTo (L' := [(⟨3, 0, ⟨#[97]⟩⟩, ⟨2, 1, ⟨#[]⟩⟩), (⟨3, 0, ⟨#[98]⟩⟩, ⟨2, 1, ⟨#[]⟩⟩)]) (M := 2) (fun b h => h.elim) (by decide) ⟨3, 0, ⟨#[98]⟩⟩ ⟨2, 1, ⟨#[]⟩⟩ (by decide) (by decide) true 0 (by decide) (by decide) (by decide))
  have S3 := Lib.hid (fun (W : World) (d : Nat) (B : List (Nat × Val)) (h : Dct (fun _ => False) w W d [(⟨3, 0, ⟨#[97]⟩⟩, ⟨2, 1, ⟨#[]⟩⟩), (⟨3, 0, ⟨#[98]⟩⟩, ⟨2, 1, ⟨#[]⟩⟩)] 2 B) => h.setTo (L' := [(⟨3, 0, ⟨#[97]⟩⟩, ⟨0, 0, ⟨#[]⟩⟩), (⟨3, 0, ⟨#[98]⟩⟩, ⟨2, 1, ⟨#[]⟩⟩)]) (M := 3) (fun b h => h.elim) (by decide) ⟨3, 0, ⟨#[97]⟩⟩ ⟨0, 0, ⟨#[]⟩⟩ (by decide) (by decide) false 0 (by decide) (by decide) (by decide))
  have N1 := Lib.hid (fun (W : World) (d : Nat) (B : List (Nat × Val)) (h : Dct (fun _ => False) w W d [(⟨3, 0, ⟨#[97]⟩⟩, ⟨0, 0, ⟨#[]⟩⟩), (⟨3, 0, ⟨#[98]⟩⟩, ⟨2, 1, ⟨#[]⟩⟩)] 3 B) => h.nextTo ⟨0, 0, ⟨#[]⟩⟩ (by decide) ⟨3, 0, ⟨#[98]⟩⟩ ⟨2, 1, ⟨#[]⟩⟩ 0 (by decide))
  have N2 := Lib.hid (fun (W : World) (d : Nat) (B : List (Nat × Val)) (h : Dct (fun _ => False) w W d [(⟨3, 0, ⟨#[97]⟩⟩, ⟨0, 0, ⟨#[]⟩⟩), (⟨3, 0, ⟨#[98]⟩⟩, ⟨2, 1, ⟨#[]⟩⟩)] 3 B) => h.nextTo ⟨3, 0, ⟨#[97]⟩⟩ (by decide) ⟨3, 0, ⟨#[98]⟩⟩ ⟨2, 1, ⟨#[]⟩⟩ 0 (by decide))
  have S4 := Lib.hid (fun (W : World) (d : Nat) (B : List (Nat × Val)) (h : Dct (fun _ => False) w W d [(⟨3, 0, ⟨#[97]⟩⟩, ⟨0, 0, ⟨#[]⟩⟩), (⟨3, 0, ⟨#[98]⟩⟩, ⟨2, 1, ⟨#[]⟩⟩)] 3 B) => h.setTo (L' := [(⟨3, 0, ⟨#[97]⟩⟩, ⟨2, 1, ⟨#[]⟩⟩), (⟨3, 0, ⟨#[98]⟩⟩, ⟨2, 1, ⟨#[]⟩⟩)]) (M := 4) (fun b h => h.elim) (by decide) ⟨3, 0, ⟨#[97]⟩⟩ ⟨2, 1, ⟨#[]⟩⟩ (by decide) (by decide) false 0 (by decide) (by decide) (by decide))
  have N3 := Lib.hid (fun (W : World) (d : Nat) (B : List (Nat × Val)) (h : Dct (fun _ => False) w W d [(⟨3, 0, ⟨#[97]⟩⟩, ⟨2, 1, ⟨#[]⟩⟩), (⟨3, 0, ⟨#[98]⟩⟩, ⟨2, 1, ⟨#[]⟩⟩)] 4 B) => h.nextTo ⟨0, 0, ⟨#[]⟩⟩ (by decide) ⟨3, 0, ⟨#[97]⟩⟩ ⟨2, 1, ⟨#[]⟩⟩ 0 (by decide))
  have D1 := Lib.hid (fun (W : World) (d : Nat) (B : List (Nat × Val)) (h : Dct (fun _ => False) w W d [(⟨3, 0, ⟨#[97]⟩⟩, ⟨2, 1, ⟨#[]⟩⟩), (⟨3, 0, ⟨#[98]⟩⟩, ⟨2, 1, ⟨#[]⟩⟩)] 4 B) => h.dropTo (L' := [(⟨3, 0, ⟨#[98]⟩⟩, ⟨2, 1, ⟨#[]⟩⟩)]) (fun b h => h.elim) ⟨3, 0, ⟨#[97]⟩⟩ (by decide) true (by decide) (by decide))
  have S5 := Lib.hid (fun (W : World) (d : Nat) (B : List (Nat × Val)) (h : Dct (fun _ => False) w W d [(⟨3, 0, ⟨#[98]⟩⟩, ⟨2, 1, ⟨#[]⟩⟩)] 4 B) => h.setTo (L' := [(⟨3, 0, ⟨#[98]⟩⟩, ⟨2, 1, ⟨#[]⟩⟩), (⟨3, 0, ⟨#[97]⟩⟩, ⟨2, 1, ⟨#[]⟩⟩)]) (M := 5) (fun b h => h.elim) (by decide) ⟨3, 0, ⟨#[97]⟩⟩ ⟨2, 1, ⟨#[]⟩⟩ (by decide) (by decide) true 0 (by decide) (by decide) (by decide))
  have N4 := Lib.hid (fun (W : World) (d : Nat) (B : List (Nat × Val)) (h : Dct (fun _ => False) w W d [(⟨3, 0, ⟨#[98]⟩⟩, ⟨2, 1, ⟨#[]⟩⟩), (⟨3, 0, ⟨#[97]⟩⟩, ⟨2, 1, ⟨#[]⟩⟩)] 5 B) => h.nextTo ⟨3, 0, ⟨#[98]⟩⟩ (by decide) ⟨3, 0, ⟨#[97]⟩⟩ ⟨2, 1, ⟨#[]⟩⟩ 0 (by decide))
  have HNIL := Lib.hid (fun (W : World) => dset_nil ⟨3, 0, ⟨#[97]⟩⟩ ⟨2, 1, ⟨#[]⟩⟩ W)
  have HLEN := Lib.hid (fun (W : World) (d : Nat) (B : List (Nat × Val)) (h : Dct (fun _ => False) w W d [(⟨3, 0, ⟨#[98]⟩⟩, ⟨2, 1, ⟨#[]⟩⟩), (⟨3, 0, ⟨#[97]⟩⟩, ⟨2, 1, ⟨#[]⟩⟩)] 5 B) => h.len (by decide))
  go_enter Try.func40, Try.ntmps40
  go_upto_region 4 with (go_at_call 42; (with_reducible refine HNW.out.mono ?_); rintro e w1 ⟨d, rfl, h1, hb1⟩; have HD := Lib.hid h1; have HB := Lib.hid hb1; clear h1 hb1)
  go_upto_region 5 with (first | (go_at_call 54; (with_reducible refine (HS.out _ _).mono ?_); rintro e w2 ⟨rfl, hb⟩; have HD := Lib.hid (HD.out.below hb); clear hb) | (go_at_call 50; (with_reducible refine (HI.out _ _).mono ?_); rintro e w3 ⟨rfl, hb⟩; have HD := Lib.hid (HD.out.below hb); clear hb))
  have HD := Lib.hid ((((((HD.out).alloc ⟨3, 0, ⟨#[97]⟩⟩ w3.heap.size (by simp))).alloc ⟨3, 0, ⟨#[98]⟩⟩ (w3.heap.size + 1) (by simp))).alloc ⟨2, 1, ⟨#[]⟩⟩ (w3.heap.size + 1 + 1) (by simp))
  have hbx := HD.out.box (b := w3.heap.size) (v := ⟨3, 0, ⟨#[97]⟩⟩) (by simp)
  have ca0 := hbx.cell 0 _ rfl
  have ca1 := hbx.cell 1 _ rfl
  have ca2 := hbx.cell 2 _ rfl
  clear hbx
  have hbx := HD.out.box (b := (w3.heap.size + 1 + 1)) (v := ⟨2, 1, ⟨#[]⟩⟩) (by simp)
  have co0 := hbx.cell 0 _ rfl
  have co1 := hbx.cell 1 _ rfl
  have co2 := hbx.cell 2 _ rfl
  clear hbx
  go_upto_region 6 with (go_at_call 44; (with_reducible refine (S1.out _ _ _ HD.out).mono ?_); rintro e w4 ⟨rfl, h⟩; have HD := Lib.hid h; clear h)
  clear ca0 ca1 ca2 co0 co1 co2
  have hbx := HD.out.box (b := (w3.heap.size + 1)) (v := ⟨3, 0, ⟨#[98]⟩⟩) (by simp)
  have cb0 := hbx.cell 0 _ rfl
  have cb1 := hbx.cell 1 _ rfl
  have cb2 := hbx.cell 2 _ rfl
  clear hbx
  have hbx := HD.out.box (b := (w3.heap.size + 1 + 1)) (v := ⟨2, 1, ⟨#[]⟩⟩) (by simp)
  have co0 := hbx.cell 0 _ rfl
  have co1 := hbx.cell 1 _ rfl
  have co2 := hbx.cell 2 _ rfl
  clear hbx
  go_upto_region 7 with (go_at_call 44; (with_reducible refine (S2.out _ _ _ HD.out).mono ?_); rintro e w5 ⟨rfl, h⟩; have HD := Lib.hid h; clear h)
  clear cb0 cb1 cb2 co0 co1 co2
  have hbx := HD.out.box (b := w3.heap.size) (v := ⟨3, 0, ⟨#[97]⟩⟩) (by simp)
  have ca0 := hbx.cell 0 _ rfl
  have ca1 := hbx.cell 1 _ rfl
  have ca2 := hbx.cell 2 _ rfl
  clear hbx
  go_upto_region 8 with (go_at_call 44; (with_reducible refine (S3.out _ _ _ HD.out).mono ?_); rintro e w6 ⟨rfl, h⟩; have HD := Lib.hid h; clear h)
  clear ca0 ca1 ca2
  go_upto_region 9 with (go_at_call 49; (with_reducible refine (N1.out _ _ _ HD.out).mono ?_); rintro e w7 ⟨rfl, hb⟩; have HD := Lib.hid (HD.out.below hb); clear hb)
  have HD := Lib.hid ((((HD.out).alloc ⟨3, 0, ⟨#[98]⟩⟩ w7.heap.size (by simp))).alloc ⟨2, 1, ⟨#[]⟩⟩ (w7.heap.size + 1) (by simp))
  have hbx := HD.out.box (b := w3.heap.size) (v := ⟨3, 0, ⟨#[97]⟩⟩) (by simp)
  have ca0 := hbx.cell 0 _ rfl
  have ca1 := hbx.cell 1 _ rfl
  have ca2 := hbx.cell 2 _ rfl
  clear hbx
  go_upto_region 10 with (go_at_call 49; (with_reducible refine (N2.out _ _ _ HD.out).mono ?_); rintro e w8 ⟨rfl, hb⟩; have HD := Lib.hid (HD.out.below hb); clear hb)
  clear ca0 ca1 ca2
  have HD := Lib.hid ((((HD.out).alloc ⟨3, 0, ⟨#[98]⟩⟩ w8.heap.size (by simp))).alloc ⟨2, 1, ⟨#[]⟩⟩ (w8.heap.size + 1) (by simp))
  have hbx := HD.out.box (b := w3.heap.size) (v := ⟨3, 0, ⟨#[97]⟩⟩) (by simp)
  have ca0 := hbx.cell 0 _ rfl
  have ca1 := hbx.cell 1 _ rfl
  have ca2 := hbx.cell 2 _ rfl
  clear hbx
  have hbx := HD.out.box (b := (w3.heap.size + 1 + 1)) (v := ⟨2, 1, ⟨#[]⟩⟩) (by simp)
  have co0 := hbx.cell 0 _ rfl
  have co1 := hbx.cell 1 _ rfl
  have co2 := hbx.cell 2 _ rfl
  clear hbx
  go_upto_region 11 with (go_at_call 44; (with_reducible refine (S4.out _ _ _ HD.out).mono ?_); rintro e w9 ⟨rfl, h⟩; have HD := Lib.hid h; clear h)
  clear ca0 ca1 ca2 co0 co1 co2
  go_upto_region 12 with (go_at_call 49; (with_reducible refine (N3.out _ _ _ HD.out).mono ?_); rintro e w10 ⟨rfl, hb⟩; have HD := Lib.hid (HD.out.below hb); clear hb)
  have HD := Lib.hid ((((HD.out).alloc ⟨3, 0, ⟨#[97]⟩⟩ w10.heap.size (by simp))).alloc ⟨2, 1, ⟨#[]⟩⟩ (w10.heap.size + 1) (by simp))
  have hbx := HD.out.box (b := w3.heap.size) (v := ⟨3, 0, ⟨#[97]⟩⟩) (by simp)
  have ca0 := hbx.cell 0 _ rfl
  have ca1 := hbx.cell 1 _ rfl
  have ca2 := hbx.cell 2 _ rfl
  clear hbx
  go_upto_region 13 with (go_at_call 45; (with_reducible refine (D1.out _ _ _ HD.out).mono ?_); rintro e w11 ⟨rfl, h⟩; have HD := Lib.hid h; clear h)
  clear ca0 ca1 ca2
  have hbx := HD.out.box (b := w3.heap.size) (v := ⟨3, 0, ⟨#[97]⟩⟩) (by simp)
  have ca0 := hbx.cell 0 _ rfl
  have ca1 := hbx.cell 1 _ rfl
  have ca2 := hbx.cell 2 _ rfl
  clear hbx
  have hbx := HD.out.box (b := (w3.heap.size + 1 + 1)) (v := ⟨2, 1, ⟨#[]⟩⟩) (by simp)
  have co0 := hbx.cell 0 _ rfl
  have co1 := hbx.cell 1 _ rfl
  have co2 := hbx.cell 2 _ rfl
  clear hbx
  go_upto_region 14 with (go_at_call 44; (with_reducible refine (S5.out _ _ _ HD.out).mono ?_); rintro e w12 ⟨rfl, h⟩; have HD := Lib.hid h; clear h)
  clear ca0 ca1 ca2 co0 co1 co2
  have hbx := HD.out.box (b := (w3.heap.size + 1)) (v := ⟨3, 0, ⟨#[98]⟩⟩) (by simp)
  have cb0 := hbx.cell 0 _ rfl
  have cb1 := hbx.cell 1 _ rfl
  have cb2 := hbx.cell 2 _ rfl
  clear hbx
  go_upto_region 15 with (go_at_call 49; (with_reducible refine (N4.out _ _ _ HD.out).mono ?_); rintro e w13 ⟨rfl, hb⟩; have HD := Lib.hid (HD.out.below hb); clear hb)
  clear cb0 cb1 cb2
  have HD := Lib.hid ((((HD.out).alloc ⟨3, 0, ⟨#[97]⟩⟩ w13.heap.size (by simp))).alloc ⟨2, 1, ⟨#[]⟩⟩ (w13.heap.size + 1) (by simp))
  have hbx := HD.out.box (b := w3.heap.size) (v := ⟨3, 0, ⟨#[97]⟩⟩) (by simp)
  have ca0 := hbx.cell 0 _ rfl
  have ca1 := hbx.cell 1 _ rfl
  have ca2 := hbx.cell 2 _ rfl
  clear hbx
  have hbx := HD.out.box (b := (w3.heap.size + 1 + 1)) (v := ⟨2, 1, ⟨#[]⟩⟩) (by simp)
  have co0 := hbx.cell 0 _ rfl
  have co1 := hbx.cell 1 _ rfl
  have co2 := hbx.cell 2 _ rfl
  clear hbx
  go_upto_region 17 with (go_at_call 44; (with_reducible refine (HNIL.out _).mono ?_); rintro e w14 ⟨rfl, hb⟩; have HD := Lib.hid (HD.out.below hb); clear hb)
  clear ca0 ca1 ca2 co0 co1 co2
  have hbx := HD.out.box (b := w7.heap.size) (v := ⟨3, 0, ⟨#[98]⟩⟩) (by simp)
  have cx0 := hbx.cell 0 _ rfl
  have cx1 := hbx.cell 1 _ rfl
  have cx2 := hbx.cell 2 _ rfl
  clear hbx
  have hbx := HD.out.box (b := (w3.heap.size + 1)) (v := ⟨3, 0, ⟨#[98]⟩⟩) (by simp)
  have cb0 := hbx.cell 0 _ rfl
  have cb1 := hbx.cell 1 _ rfl
  have cb2 := hbx.cell 2 _ rfl
  clear hbx
  have hbx := HD.out.box (b := w8.heap.size) (v := ⟨3, 0, ⟨#[98]⟩⟩) (by simp)
  have cy0 := hbx.cell 0 _ rfl
  have cy1 := hbx.cell 1 _ rfl
  have cy2 := hbx.cell 2 _ rfl
  clear hbx
  have hbx := HD.out.box (b := w10.heap.size) (v := ⟨3, 0, ⟨#[97]⟩⟩) (by simp)
  have cz0 := hbx.cell 0 _ rfl
  have cz1 := hbx.cell 1 _ rfl
  have cz2 := hbx.cell 2 _ rfl
  clear hbx
  have hbx := HD.out.box (b := w3.heap.size) (v := ⟨3, 0, ⟨#[97]⟩⟩) (by simp)
  have ca0 := hbx.cell 0 _ rfl
  have ca1 := hbx.cell 1 _ rfl
  have ca2 := hbx.cell 2 _ rfl
  clear hbx
  have hbx := HD.out.box (b := w13.heap.size) (v := ⟨3, 0, ⟨#[97]⟩⟩) (by simp)
  have cu0 := hbx.cell 0 _ rfl
  have cu1 := hbx.cell 1 _ rfl
  have cu2 := hbx.cell 2 _ rfl
  clear hbx
  go_wp2_with (go_at_call 46; (with_reducible refine (HLEN.out _ _ _ HD.out).mono ?_); rintro e w15 ⟨rfl, hb⟩; have HD := Lib.hid (HD.out.below hb); clear hb)
  go_ret
  exact ⟨rfl, HD.out.bel⟩
end Go.Proofs.Ytmjfmfelbmbniaa
