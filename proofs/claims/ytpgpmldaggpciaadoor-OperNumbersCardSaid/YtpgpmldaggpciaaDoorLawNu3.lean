/- The statement OperNumbers, walked by hand. -/
import Derived.Test.YtpgpmldaggpciaaDoorLawNu1
import Derived.Test.YtpgpmldaggpciaaDoorGreat
import Derived.Test.YtpgpmldaggpciaaDoorOD
import Derived.Test.YtpgpmldaggpciaaDoorAliveE
set_option linter.unusedVariables false
set_option linter.unusedSimpArgs false
namespace Go.Proofs.YtpgpmldaggpciaaDoor.GW
open Go.RowKit Go.Proofs.YtpgpmldaggpciaaDoorW.PrintWords Go.Proofs.YtpgpmldaggpciaaDoorW.PrintLast Go.Proofs.YtpgpmldaggpciaaDoorW.PrintMore Go.Proofs.YtpgpmldaggpciaaDoor.Maths Go.Proofs.YtpgpmldaggpciaaDoor.TabW Go.Proofs.YtpgpmldaggpciaaDoor.HK Go.Proofs.YtpgpmldaggpciaaDoor.Val
set_option maxHeartbeats 16000000 in
set_option maxRecDepth 20000 in
theorem nu31 (m op : Int) (k0 n0 : Int) (s0 : ByteArray) (k1 n1 : Int) (s1 : ByteArray) (x y : Int) (y1 y2 : Int) (y3 : ByteArray) (y4 : Int) (hg : ∀ b W, Blk W b 32 [.int .i64 k0, .int .i64 n0, .string s0, .int .i64 k1, .int .i64 n1, .string s1] → Calls Tryd.prog 44 #[.slice (some ⟨b, 0, none⟩) 2 2] W fun e w' => e = .returned (.bool false) ∧ Below W.heap.size W w') (hop : wrap64 (1 + (wrap64 m).tmod 10) = op) (hx : numberF k0 n0 s0 = some (x, true)) (hy : numberF k1 n1 s1 = some (y, false)) (d1 : doF op k0 n0 s0 k1 n1 s1 0 = some (0, 0, ⟨#[]⟩, 18)) (d2 : doF op 2 x ⟨#[]⟩ 2 y ⟨#[]⟩ 0 = some (y1, y2, y3, y4)) (hs : stringF k0 n0 s0 = some (⟨#[]⟩, true)) (ht : stringF k1 n1 s1 = some (⟨#[]⟩, true)) (d3 : doF 11 k0 n0 s0 k1 n1 s1 0 = some (3, 0, ⟨#[]⟩, 0)) (d4 : doF 11 k0 n0 s0 k1 n1 s1 (-1) = some (3, 0, ⟨#[]⟩, 0)) (o1 : oneF 23 3 0 ⟨#[]⟩ = some (2, 0, ⟨#[]⟩, 0)) (hcc : ((⟨#[]⟩ : ByteArray) ++ (⟨#[]⟩ : ByteArray)).toList = []) (hw0 : IntKind.i64.wrap 0 = 0) (w : World) (hT : Tab w) : Calls Tryd.prog 10 #[.int .u8 m, .agg #[.int .i64 k0, .int .i64 n0, .string s0], .agg #[.int .i64 k1, .int .i64 n1, .string s1]] w fun e w' => e = .returned (.bool true) ∧ Below w.heap.size w w' := by
  have T0 := Lib.hid hT
  have D0 := Lib.hid (OD.start2 w 32 [.int .i64 k0, .int .i64 n0, .string s0] [.int .i64 k1, .int .i64 n1, .string s1])
  have AL := Lib.hid (fun W hW => alive_calls true W hW rfl)
  have GR := Lib.hid hg
  have NX := Lib.hid (fun W hW => number_calls k0 n0 s0 x true W hW hx)
  have NY := Lib.hid (fun W hW => number_calls k1 n1 s1 y false W hW hy)
  have E1 := Lib.hid (fun W hW => do_calls op k0 n0 s0 k1 n1 s1 0 (0) (0) (⟨#[]⟩) (18) W hW d1)
  have E2 := Lib.hid (fun W hW => do_calls op 2 x ⟨#[]⟩ 2 y ⟨#[]⟩ 0 (y1) (y2) (y3) (y4) W hW d2)
  have SX := Lib.hid (fun W hW => string_calls k0 n0 s0 ⟨#[]⟩ true W hW hs)
  have SY := Lib.hid (fun W hW => string_calls k1 n1 s1 ⟨#[]⟩ true W hW ht)
  have E3 := Lib.hid (fun W hW => do_calls 11 k0 n0 s0 k1 n1 s1 0 (3) (0) (⟨#[]⟩) (0) W hW d3)
  have E4 := Lib.hid (fun W hW => do_calls 11 k0 n0 s0 k1 n1 s1 (-1) (3) (0) (⟨#[]⟩) (0) W hW d4)
  have ON := Lib.hid (fun W hW => one_calls 23 3 0 ⟨#[]⟩ 2 0 ⟨#[]⟩ 0 W hW o1)
  clear hT hg hx hy d1 d2 hs ht d3 d4 o1
  go_enter Tryd.func10, Tryd.ntmps10
  go_upto_region 15 with (first | (go_at_call 43; go_loud (with_reducible refine (AL.out _ (T0.out.on D0.out.bel)).mono ?_; rintro e wn1 ⟨rfl, hb⟩; have D1 := Lib.hid ((D0.out).on hb); clear hb; have u0 := (D1.out.blk _ (List.mem_cons_self)).2.cell 0 _ rfl; have uz0 := (D1.out.blk _ (List.mem_cons_self)).2.frozen 0; have u1 := (D1.out.blk _ (List.mem_cons_self)).2.cell 1 _ rfl; have uz1 := (D1.out.blk _ (List.mem_cons_self)).2.frozen 1; have u2 := (D1.out.blk _ (List.mem_cons_self)).2.cell 2 _ rfl; have uz2 := (D1.out.blk _ (List.mem_cons_self)).2.frozen 2; have ult := (D1.out).bl (List.mem_cons_self); have q0 := (D1.out.blk _ (List.mem_cons_of_mem _ (List.mem_cons_self))).2.cell 0 _ rfl; have qz0 := (D1.out.blk _ (List.mem_cons_of_mem _ (List.mem_cons_self))).2.frozen 0; have q1 := (D1.out.blk _ (List.mem_cons_of_mem _ (List.mem_cons_self))).2.cell 1 _ rfl; have qz1 := (D1.out.blk _ (List.mem_cons_of_mem _ (List.mem_cons_self))).2.frozen 1; have q2 := (D1.out.blk _ (List.mem_cons_of_mem _ (List.mem_cons_self))).2.cell 2 _ rfl; have qz2 := (D1.out.blk _ (List.mem_cons_of_mem _ (List.mem_cons_self))).2.frozen 2; have qlt := (D1.out).bl (List.mem_cons_of_mem _ (List.mem_cons_self)))) | (go_at_call 44; go_loud (with_reducible refine (GR.out _ _ (Blk.new _ [.int .i64 k0, .int .i64 n0, .string s0, .int .i64 k1, .int .i64 n1, .string s1] 32)).mono ?_; rintro e wn2 ⟨rfl, hb⟩; have D2 := Lib.hid ((D1.out.new 32 [.int .i64 k0, .int .i64 n0, .string s0, .int .i64 k1, .int .i64 n1, .string s1]).on hb); clear hb; have u0 := (D2.out.blk _ (List.mem_cons_of_mem _ (List.mem_cons_self))).2.cell 0 _ rfl; have uz0 := (D2.out.blk _ (List.mem_cons_of_mem _ (List.mem_cons_self))).2.frozen 0; have u1 := (D2.out.blk _ (List.mem_cons_of_mem _ (List.mem_cons_self))).2.cell 1 _ rfl; have uz1 := (D2.out.blk _ (List.mem_cons_of_mem _ (List.mem_cons_self))).2.frozen 1; have u2 := (D2.out.blk _ (List.mem_cons_of_mem _ (List.mem_cons_self))).2.cell 2 _ rfl; have uz2 := (D2.out.blk _ (List.mem_cons_of_mem _ (List.mem_cons_self))).2.frozen 2; have ult := (D2.out).bl (List.mem_cons_of_mem _ (List.mem_cons_self)); have q0 := (D2.out.blk _ (List.mem_cons_of_mem _ (List.mem_cons_of_mem _ (List.mem_cons_self)))).2.cell 0 _ rfl; have qz0 := (D2.out.blk _ (List.mem_cons_of_mem _ (List.mem_cons_of_mem _ (List.mem_cons_self)))).2.frozen 0; have q1 := (D2.out.blk _ (List.mem_cons_of_mem _ (List.mem_cons_of_mem _ (List.mem_cons_self)))).2.cell 1 _ rfl; have qz1 := (D2.out.blk _ (List.mem_cons_of_mem _ (List.mem_cons_of_mem _ (List.mem_cons_self)))).2.frozen 1; have q2 := (D2.out.blk _ (List.mem_cons_of_mem _ (List.mem_cons_of_mem _ (List.mem_cons_self)))).2.cell 2 _ rfl; have qz2 := (D2.out.blk _ (List.mem_cons_of_mem _ (List.mem_cons_of_mem _ (List.mem_cons_self)))).2.frozen 2; have qlt := (D2.out).bl (List.mem_cons_of_mem _ (List.mem_cons_of_mem _ (List.mem_cons_self))))) | (go_at_call 52; go_loud (with_reducible refine (NX.out _ (T0.out.on (D2.out).bel)).mono ?_; rintro e wn3 ⟨rfl, hb⟩; have D3 := Lib.hid ((D2.out).on hb); clear hb; have u0 := (D3.out.blk _ (List.mem_cons_of_mem _ (List.mem_cons_self))).2.cell 0 _ rfl; have uz0 := (D3.out.blk _ (List.mem_cons_of_mem _ (List.mem_cons_self))).2.frozen 0; have u1 := (D3.out.blk _ (List.mem_cons_of_mem _ (List.mem_cons_self))).2.cell 1 _ rfl; have uz1 := (D3.out.blk _ (List.mem_cons_of_mem _ (List.mem_cons_self))).2.frozen 1; have u2 := (D3.out.blk _ (List.mem_cons_of_mem _ (List.mem_cons_self))).2.cell 2 _ rfl; have uz2 := (D3.out.blk _ (List.mem_cons_of_mem _ (List.mem_cons_self))).2.frozen 2; have ult := (D3.out).bl (List.mem_cons_of_mem _ (List.mem_cons_self)); have q0 := (D3.out.blk _ (List.mem_cons_of_mem _ (List.mem_cons_of_mem _ (List.mem_cons_self)))).2.cell 0 _ rfl; have qz0 := (D3.out.blk _ (List.mem_cons_of_mem _ (List.mem_cons_of_mem _ (List.mem_cons_self)))).2.frozen 0; have q1 := (D3.out.blk _ (List.mem_cons_of_mem _ (List.mem_cons_of_mem _ (List.mem_cons_self)))).2.cell 1 _ rfl; have qz1 := (D3.out.blk _ (List.mem_cons_of_mem _ (List.mem_cons_of_mem _ (List.mem_cons_self)))).2.frozen 1; have q2 := (D3.out.blk _ (List.mem_cons_of_mem _ (List.mem_cons_of_mem _ (List.mem_cons_self)))).2.cell 2 _ rfl; have qz2 := (D3.out.blk _ (List.mem_cons_of_mem _ (List.mem_cons_of_mem _ (List.mem_cons_self)))).2.frozen 2; have qlt := (D3.out).bl (List.mem_cons_of_mem _ (List.mem_cons_of_mem _ (List.mem_cons_self))))) | (go_at_call 52; go_loud (with_reducible refine (NY.out _ (T0.out.on (D3.out).bel)).mono ?_; rintro e wn4 ⟨rfl, hb⟩; have D4 := Lib.hid ((D3.out).on hb); clear hb; have u0 := (D4.out.blk _ (List.mem_cons_of_mem _ (List.mem_cons_self))).2.cell 0 _ rfl; have uz0 := (D4.out.blk _ (List.mem_cons_of_mem _ (List.mem_cons_self))).2.frozen 0; have u1 := (D4.out.blk _ (List.mem_cons_of_mem _ (List.mem_cons_self))).2.cell 1 _ rfl; have uz1 := (D4.out.blk _ (List.mem_cons_of_mem _ (List.mem_cons_self))).2.frozen 1; have u2 := (D4.out.blk _ (List.mem_cons_of_mem _ (List.mem_cons_self))).2.cell 2 _ rfl; have uz2 := (D4.out.blk _ (List.mem_cons_of_mem _ (List.mem_cons_self))).2.frozen 2; have ult := (D4.out).bl (List.mem_cons_of_mem _ (List.mem_cons_self)); have q0 := (D4.out.blk _ (List.mem_cons_of_mem _ (List.mem_cons_of_mem _ (List.mem_cons_self)))).2.cell 0 _ rfl; have qz0 := (D4.out.blk _ (List.mem_cons_of_mem _ (List.mem_cons_of_mem _ (List.mem_cons_self)))).2.frozen 0; have q1 := (D4.out.blk _ (List.mem_cons_of_mem _ (List.mem_cons_of_mem _ (List.mem_cons_self)))).2.cell 1 _ rfl; have qz1 := (D4.out.blk _ (List.mem_cons_of_mem _ (List.mem_cons_of_mem _ (List.mem_cons_self)))).2.frozen 1; have q2 := (D4.out.blk _ (List.mem_cons_of_mem _ (List.mem_cons_of_mem _ (List.mem_cons_self)))).2.cell 2 _ rfl; have qz2 := (D4.out.blk _ (List.mem_cons_of_mem _ (List.mem_cons_of_mem _ (List.mem_cons_self)))).2.frozen 2; have qlt := (D4.out).bl (List.mem_cons_of_mem _ (List.mem_cons_of_mem _ (List.mem_cons_self))))) | (go_at_call 46; go_loud (with_reducible refine (E1.out _ (T0.out.on (D4.out).bel)).mono ?_; rintro e wn5 ⟨rfl, hb⟩; have D5 := Lib.hid ((D4.out).on hb); clear hb)) | (go_at_call 53; go_loud (with_reducible refine (hInt x _).mono ?_; rintro e wn6 ⟨rfl, hb⟩; have D6 := Lib.hid ((D5.out.new 32 [.int .i64 0, .int .i64 0, .string ⟨#[]⟩]).on hb); clear hb)) | (go_at_call 53; go_loud (with_reducible refine (hInt y _).mono ?_; rintro e wn7 ⟨rfl, hb⟩; have D7 := Lib.hid ((D6.out).on hb); clear hb)) | (go_at_call 46; go_loud (with_reducible refine (E2.out _ (T0.out.on (D7.out).bel)).mono ?_; rintro e wn8 ⟨rfl, hb⟩; have D8 := Lib.hid ((D7.out).on hb); clear hb; have r0 := (D8.out.blk _ (List.mem_cons_self)).2.cell 0 _ rfl; have rz0 := (D8.out.blk _ (List.mem_cons_self)).2.frozen 0; have r1 := (D8.out.blk _ (List.mem_cons_self)).2.cell 1 _ rfl; have rz1 := (D8.out.blk _ (List.mem_cons_self)).2.frozen 1; have r2 := (D8.out.blk _ (List.mem_cons_self)).2.cell 2 _ rfl; have rz2 := (D8.out.blk _ (List.mem_cons_self)).2.frozen 2; have rlt := (D8.out).bl (List.mem_cons_self); have u0 := (D8.out.blk _ (List.mem_cons_of_mem _ (List.mem_cons_of_mem _ (List.mem_cons_self)))).2.cell 0 _ rfl; have uz0 := (D8.out.blk _ (List.mem_cons_of_mem _ (List.mem_cons_of_mem _ (List.mem_cons_self)))).2.frozen 0; have u1 := (D8.out.blk _ (List.mem_cons_of_mem _ (List.mem_cons_of_mem _ (List.mem_cons_self)))).2.cell 1 _ rfl; have uz1 := (D8.out.blk _ (List.mem_cons_of_mem _ (List.mem_cons_of_mem _ (List.mem_cons_self)))).2.frozen 1; have u2 := (D8.out.blk _ (List.mem_cons_of_mem _ (List.mem_cons_of_mem _ (List.mem_cons_self)))).2.cell 2 _ rfl; have uz2 := (D8.out.blk _ (List.mem_cons_of_mem _ (List.mem_cons_of_mem _ (List.mem_cons_self)))).2.frozen 2; have ult := (D8.out).bl (List.mem_cons_of_mem _ (List.mem_cons_of_mem _ (List.mem_cons_self))); have q0 := (D8.out.blk _ (List.mem_cons_of_mem _ (List.mem_cons_of_mem _ (List.mem_cons_of_mem _ (List.mem_cons_self))))).2.cell 0 _ rfl; have qz0 := (D8.out.blk _ (List.mem_cons_of_mem _ (List.mem_cons_of_mem _ (List.mem_cons_of_mem _ (List.mem_cons_self))))).2.frozen 0; have q1 := (D8.out.blk _ (List.mem_cons_of_mem _ (List.mem_cons_of_mem _ (List.mem_cons_of_mem _ (List.mem_cons_self))))).2.cell 1 _ rfl; have qz1 := (D8.out.blk _ (List.mem_cons_of_mem _ (List.mem_cons_of_mem _ (List.mem_cons_of_mem _ (List.mem_cons_self))))).2.frozen 1; have q2 := (D8.out.blk _ (List.mem_cons_of_mem _ (List.mem_cons_of_mem _ (List.mem_cons_of_mem _ (List.mem_cons_self))))).2.cell 2 _ rfl; have qz2 := (D8.out.blk _ (List.mem_cons_of_mem _ (List.mem_cons_of_mem _ (List.mem_cons_of_mem _ (List.mem_cons_self))))).2.frozen 2; have qlt := (D8.out).bl (List.mem_cons_of_mem _ (List.mem_cons_of_mem _ (List.mem_cons_of_mem _ (List.mem_cons_self)))))) | (go_at_call 54; go_loud (with_reducible refine (SX.out _ (T0.out.on (D8.out.new 32 [.int .i64 y1, .int .i64 y2, .string y3]).bel)).mono ?_; rintro e wn9 ⟨rfl, hb⟩; have D9 := Lib.hid ((D8.out.new 32 [.int .i64 y1, .int .i64 y2, .string y3]).on hb); clear hb; have u0 := (D9.out.blk _ (List.mem_cons_of_mem _ (List.mem_cons_of_mem _ (List.mem_cons_of_mem _ (List.mem_cons_self))))).2.cell 0 _ rfl; have uz0 := (D9.out.blk _ (List.mem_cons_of_mem _ (List.mem_cons_of_mem _ (List.mem_cons_of_mem _ (List.mem_cons_self))))).2.frozen 0; have u1 := (D9.out.blk _ (List.mem_cons_of_mem _ (List.mem_cons_of_mem _ (List.mem_cons_of_mem _ (List.mem_cons_self))))).2.cell 1 _ rfl; have uz1 := (D9.out.blk _ (List.mem_cons_of_mem _ (List.mem_cons_of_mem _ (List.mem_cons_of_mem _ (List.mem_cons_self))))).2.frozen 1; have u2 := (D9.out.blk _ (List.mem_cons_of_mem _ (List.mem_cons_of_mem _ (List.mem_cons_of_mem _ (List.mem_cons_self))))).2.cell 2 _ rfl; have uz2 := (D9.out.blk _ (List.mem_cons_of_mem _ (List.mem_cons_of_mem _ (List.mem_cons_of_mem _ (List.mem_cons_self))))).2.frozen 2; have ult := (D9.out).bl (List.mem_cons_of_mem _ (List.mem_cons_of_mem _ (List.mem_cons_of_mem _ (List.mem_cons_self)))); have q0 := (D9.out.blk _ (List.mem_cons_of_mem _ (List.mem_cons_of_mem _ (List.mem_cons_of_mem _ (List.mem_cons_of_mem _ (List.mem_cons_self)))))).2.cell 0 _ rfl; have qz0 := (D9.out.blk _ (List.mem_cons_of_mem _ (List.mem_cons_of_mem _ (List.mem_cons_of_mem _ (List.mem_cons_of_mem _ (List.mem_cons_self)))))).2.frozen 0; have q1 := (D9.out.blk _ (List.mem_cons_of_mem _ (List.mem_cons_of_mem _ (List.mem_cons_of_mem _ (List.mem_cons_of_mem _ (List.mem_cons_self)))))).2.cell 1 _ rfl; have qz1 := (D9.out.blk _ (List.mem_cons_of_mem _ (List.mem_cons_of_mem _ (List.mem_cons_of_mem _ (List.mem_cons_of_mem _ (List.mem_cons_self)))))).2.frozen 1; have q2 := (D9.out.blk _ (List.mem_cons_of_mem _ (List.mem_cons_of_mem _ (List.mem_cons_of_mem _ (List.mem_cons_of_mem _ (List.mem_cons_self)))))).2.cell 2 _ rfl; have qz2 := (D9.out.blk _ (List.mem_cons_of_mem _ (List.mem_cons_of_mem _ (List.mem_cons_of_mem _ (List.mem_cons_of_mem _ (List.mem_cons_self)))))).2.frozen 2; have qlt := (D9.out).bl (List.mem_cons_of_mem _ (List.mem_cons_of_mem _ (List.mem_cons_of_mem _ (List.mem_cons_of_mem _ (List.mem_cons_self))))))) | (go_at_call 54; go_loud (with_reducible refine (SY.out _ (T0.out.on (D9.out).bel)).mono ?_; rintro e wn10 ⟨rfl, hb⟩; have D10 := Lib.hid ((D9.out).on hb); clear hb; have u0 := (D10.out.blk _ (List.mem_cons_of_mem _ (List.mem_cons_of_mem _ (List.mem_cons_of_mem _ (List.mem_cons_self))))).2.cell 0 _ rfl; have uz0 := (D10.out.blk _ (List.mem_cons_of_mem _ (List.mem_cons_of_mem _ (List.mem_cons_of_mem _ (List.mem_cons_self))))).2.frozen 0; have u1 := (D10.out.blk _ (List.mem_cons_of_mem _ (List.mem_cons_of_mem _ (List.mem_cons_of_mem _ (List.mem_cons_self))))).2.cell 1 _ rfl; have uz1 := (D10.out.blk _ (List.mem_cons_of_mem _ (List.mem_cons_of_mem _ (List.mem_cons_of_mem _ (List.mem_cons_self))))).2.frozen 1; have u2 := (D10.out.blk _ (List.mem_cons_of_mem _ (List.mem_cons_of_mem _ (List.mem_cons_of_mem _ (List.mem_cons_self))))).2.cell 2 _ rfl; have uz2 := (D10.out.blk _ (List.mem_cons_of_mem _ (List.mem_cons_of_mem _ (List.mem_cons_of_mem _ (List.mem_cons_self))))).2.frozen 2; have ult := (D10.out).bl (List.mem_cons_of_mem _ (List.mem_cons_of_mem _ (List.mem_cons_of_mem _ (List.mem_cons_self)))); have q0 := (D10.out.blk _ (List.mem_cons_of_mem _ (List.mem_cons_of_mem _ (List.mem_cons_of_mem _ (List.mem_cons_of_mem _ (List.mem_cons_self)))))).2.cell 0 _ rfl; have qz0 := (D10.out.blk _ (List.mem_cons_of_mem _ (List.mem_cons_of_mem _ (List.mem_cons_of_mem _ (List.mem_cons_of_mem _ (List.mem_cons_self)))))).2.frozen 0; have q1 := (D10.out.blk _ (List.mem_cons_of_mem _ (List.mem_cons_of_mem _ (List.mem_cons_of_mem _ (List.mem_cons_of_mem _ (List.mem_cons_self)))))).2.cell 1 _ rfl; have qz1 := (D10.out.blk _ (List.mem_cons_of_mem _ (List.mem_cons_of_mem _ (List.mem_cons_of_mem _ (List.mem_cons_of_mem _ (List.mem_cons_self)))))).2.frozen 1; have q2 := (D10.out.blk _ (List.mem_cons_of_mem _ (List.mem_cons_of_mem _ (List.mem_cons_of_mem _ (List.mem_cons_of_mem _ (List.mem_cons_self)))))).2.cell 2 _ rfl; have qz2 := (D10.out.blk _ (List.mem_cons_of_mem _ (List.mem_cons_of_mem _ (List.mem_cons_of_mem _ (List.mem_cons_of_mem _ (List.mem_cons_self)))))).2.frozen 2; have qlt := (D10.out).bl (List.mem_cons_of_mem _ (List.mem_cons_of_mem _ (List.mem_cons_of_mem _ (List.mem_cons_of_mem _ (List.mem_cons_self))))))) | (go_at_call 46; go_loud (with_reducible refine (E3.out _ (T0.out.on (D10.out).bel)).mono ?_; rintro e wn11 ⟨rfl, hb⟩; have D11 := Lib.hid ((D10.out).on hb); clear hb)))
  have hu := Tryd.underlying32
  have D12 := Lib.hid (D11.out.new 32 [.int .i64 3, .int .i64 0, .string ⟨#[]⟩])
  obtain ⟨w1, hw1⟩ : ∃ z, z = wn11.alloc (.cells #[.int .i64 3, .int .i64 0, .string ⟨#[]⟩] 32) := ⟨_, rfl⟩
  obtain ⟨x20, hx20⟩ : ∃ z, z = wn11.heap.size := ⟨_, rfl⟩
  rw [← hw1] at D12
  rw [← hx20] at D12
  simp only [← hw1, ← hx20]
  clear hw1 hx20
  have hBB : Below w1.heap.size w1 ({ w1 with drawn := w1.drawn + 1 } : World) := ⟨rfl, rfl, rfl, Nat.le_refl _, fun _ _ => rfl⟩
  refine wp_region_held (S := Below w1.heap.size w1) (by kernel_rfl) ?_
  have hSB := hBB
  generalize ({ w1 with drawn := w1.drawn + 1 } : World) = wB at hSB hBB ⊢
  have hleB := D12.out.bel.size
  have hslB := hSB.size
  have caB0 : ∀ W, Below w1.heap.size w1 W → W.cell? ⟨x20, 0, none⟩ = some (.int .i64 3) := fun W hW => ((D12.out.on hW).blk _ (List.mem_cons_self)).2.cell 0 _ rfl
  have caB1 : ∀ W, Below w1.heap.size w1 W → W.cell? ⟨x20, 1, none⟩ = some (.int .i64 0) := fun W hW => ((D12.out.on hW).blk _ (List.mem_cons_self)).2.cell 1 _ rfl
  have caB2 : ∀ W, Below w1.heap.size w1 W → W.cell? ⟨x20, 2, none⟩ = some (.string ⟨#[]⟩) := fun W hW => ((D12.out.on hW).blk _ (List.mem_cons_self)).2.cell 2 _ rfl
  refine takeH 0 (oi := ⟨some 108, _, _, _, _, _⟩) (v := ?_) rfl (by kernel_rfl) (by kernel_rfl) (by kernel_rfl) (fun _ _ _ h => h) (Or.inl ⟨by rfl, ?hyB401⟩) hSB ?restB401
  case hyB401 => (intro W hW; (try dsimp only at hW); go_simp; try with_reducible rfl)
  try simp only [Act.put, List.setIfInBounds_toArray, List.set_cons_zero, List.set_cons_succ]
  refine takeH 1 (oi := ⟨some 109, _, _, _, _, _⟩) (v := ?_) rfl (by kernel_rfl) (by kernel_rfl) (by kernel_rfl) (fun _ _ _ h => h) (Or.inl ⟨by rfl, ?hyB402⟩) hSB ?restB402
  case hyB402 => (intro W hW; (try dsimp only at hW); go_simp; try with_reducible rfl)
  try simp only [Act.put, List.setIfInBounds_toArray, List.set_cons_zero, List.set_cons_succ]
  refine takeH 2 (oi := ⟨some 110, _, _, _, _, _⟩) (v := ?_) rfl (by kernel_rfl) (by kernel_rfl) (by kernel_rfl) (fun _ _ _ h => h) (Or.inl ⟨by rfl, ?hyB403⟩) hSB ?restB403
  case hyB403 => (intro W hW; (try dsimp only at hW); go_simp; try with_reducible rfl)
  try simp only [Act.put, List.setIfInBounds_toArray, List.set_cons_zero, List.set_cons_succ]
  refine takeH 3 (oi := ⟨some 111, _, _, _, _, _⟩) (v := ?_) rfl (by kernel_rfl) (by kernel_rfl) (by kernel_rfl) (fun _ _ _ h => h) (Or.inl ⟨by rfl, ?hyB404⟩) hSB ?restB404
  case hyB404 => (intro W hW; (try dsimp only at hW); go_simp; try with_reducible rfl)
  try simp only [Act.put, List.setIfInBounds_toArray, List.set_cons_zero, List.set_cons_succ]
  refine takeH 4 (oi := ⟨some 112, _, _, _, _, _⟩) (v := ?_) rfl (by kernel_rfl) (by kernel_rfl) (by kernel_rfl) (fun _ _ _ h => h) (Or.inl ⟨by rfl, ?hyB405⟩) hSB ?restB405
  case hyB405 => (intro W hW; (try dsimp only at hW); go_simp; try with_reducible rfl)
  try simp only [Act.put, List.setIfInBounds_toArray, List.set_cons_zero, List.set_cons_succ]
  refine takeH 5 (oi := ⟨some 113, _, _, _, _, _⟩) (v := ?_) rfl (by kernel_rfl) (by kernel_rfl) (by kernel_rfl) (fun _ _ _ h => h) (Or.inl ⟨by rfl, ?hyB406⟩) hSB ?restB406
  case hyB406 => (intro W hW; (try dsimp only at hW); go_simp; try with_reducible rfl)
  try simp only [Act.put, List.setIfInBounds_toArray, List.set_cons_zero, List.set_cons_succ]
  refine takeH 6 (oi := ⟨some 114, _, _, _, _, _⟩) (v := ?_) rfl (by kernel_rfl) (by kernel_rfl) (by kernel_rfl) (fun _ _ _ h => h) (Or.inl ⟨by rfl, ?hyB407⟩) hSB ?restB407
  case hyB407 => (intro W hW; (try dsimp only at hW); go_simp; try with_reducible rfl)
  try simp only [Act.put, List.setIfInBounds_toArray, List.set_cons_zero, List.set_cons_succ]
  refine takeH 7 (oi := ⟨some 115, _, _, _, _, _⟩) (v := ?_) rfl (by kernel_rfl) (by kernel_rfl) (by kernel_rfl) (fun _ _ _ h => h) (Or.inl ⟨by rfl, ?hyB408⟩) hSB ?restB408
  case hyB408 => (intro W hW; (try dsimp only at hW); go_simp; try with_reducible rfl)
  try simp only [Act.put, List.setIfInBounds_toArray, List.set_cons_zero, List.set_cons_succ]
  refine takeH 8 (oi := ⟨some 116, _, _, _, _, _⟩) (v := ?_) rfl (by kernel_rfl) (by kernel_rfl) (by kernel_rfl) (fun _ _ _ h => h) (Or.inl ⟨by rfl, ?hyB409⟩) hSB ?restB409
  case hyB409 => (intro W hW; (try dsimp only at hW); go_simp; try with_reducible rfl)
  try simp only [Act.put, List.setIfInBounds_toArray, List.set_cons_zero, List.set_cons_succ]
  refine takeH 9 (oi := ⟨some 117, _, _, _, _, _⟩) (v := ?_) rfl (by kernel_rfl) (by kernel_rfl) (by kernel_rfl) (fun _ _ _ h => h) (Or.inl ⟨by rfl, ?hyB410⟩) hSB ?restB410
  case hyB410 => (intro W hW; (try dsimp only at hW); go_simp; try with_reducible rfl)
  try simp only [Act.put, List.setIfInBounds_toArray, List.set_cons_zero, List.set_cons_succ]
  refine takeH 10 (oi := ⟨some 118, _, _, _, _, _⟩) (v := ?_) rfl (by kernel_rfl) (by kernel_rfl) (by kernel_rfl) (fun _ _ _ h => h) (Or.inl ⟨by rfl, ?hyB411⟩) hSB ?restB411
  case hyB411 => (intro W hW; (try dsimp only at hW); go_simp; try with_reducible rfl)
  try simp only [Act.put, List.setIfInBounds_toArray, List.set_cons_zero, List.set_cons_succ]
  refine takeH 11 (oi := ⟨some 119, _, _, _, _, _⟩) (v := ?_) rfl (by kernel_rfl) (by kernel_rfl) (by kernel_rfl) (fun _ _ _ h => h) (Or.inl ⟨by rfl, ?hyB412⟩) hSB ?restB412
  case hyB412 => (intro W hW; (try dsimp only at hW); go_simp; try with_reducible rfl)
  try simp only [Act.put, List.setIfInBounds_toArray, List.set_cons_zero, List.set_cons_succ]
  refine takeH 12 (oi := ⟨some 120, _, _, _, _, _⟩) (v := ?_) rfl (by kernel_rfl) (by kernel_rfl) (by kernel_rfl) (fun _ _ _ h => h) (Or.inl ⟨by rfl, ?hyB413⟩) hSB ?restB413
  case hyB413 => (intro W hW; (try dsimp only at hW); go_simp; try with_reducible rfl)
  try simp only [Act.put, List.setIfInBounds_toArray, List.set_cons_zero, List.set_cons_succ]
  refine takeH 13 (oi := ⟨some 121, _, _, _, _, _⟩) (v := ?_) rfl (by kernel_rfl) (by kernel_rfl) (by kernel_rfl) (fun _ _ _ h => h) (Or.inl ⟨by rfl, ?hyB414⟩) hSB ?restB414
  case hyB414 => (intro W hW; (try dsimp only at hW); go_simp; try with_reducible rfl)
  try simp only [Act.put, List.setIfInBounds_toArray, List.set_cons_zero, List.set_cons_succ]
  refine takeH 14 (oi := ⟨some 122, _, _, _, _, _⟩) (v := ?_) rfl (by kernel_rfl) (by kernel_rfl) (by kernel_rfl) (fun _ _ _ h => h) (Or.inl ⟨by rfl, ?hyB415⟩) hSB ?restB415
  case hyB415 => (intro W hW; (try dsimp only at hW); go_simp; try with_reducible rfl)
  try simp only [Act.put, List.setIfInBounds_toArray, List.set_cons_zero, List.set_cons_succ]
  refine takeH 15 (oi := ⟨some 123, _, _, _, _, _⟩) (v := ?_) rfl (by kernel_rfl) (by kernel_rfl) (by kernel_rfl) (fun _ _ _ h => h) (Or.inl ⟨by rfl, ?hyB416⟩) hSB ?restB416
  case hyB416 => (intro W hW; (try dsimp only at hW); go_simp; try with_reducible rfl)
  try simp only [Act.put, List.setIfInBounds_toArray, List.set_cons_zero, List.set_cons_succ]
  refine takeH 16 (oi := ⟨some 124, _, _, _, _, _⟩) (v := ?_) rfl (by kernel_rfl) (by kernel_rfl) (by kernel_rfl) (fun _ _ _ h => h) (Or.inl ⟨by rfl, ?hyB417⟩) hSB ?restB417
  case hyB417 => (intro W hW; (try dsimp only at hW); go_simp; try with_reducible rfl)
  try simp only [Act.put, List.setIfInBounds_toArray, List.set_cons_zero, List.set_cons_succ]
  refine one (i := 17) (by kernel_rfl) ?_
  refine wpOp_wanted rfl (by rfl) fun K hK => ?_
  go_simp
  with_reducible refine (hStr _ _).mono ?_
  rintro e wB418 ⟨rfl, hb⟩
  have SB418 : Below w1.heap.size w1 wB418 := hSB.trans (hb.mono hSB.size)
  clear hb
  refine hK _ _ ⟨SB418, ?_⟩
  clear hK K
  try simp only [Act.put, List.setIfInBounds_toArray, List.set_cons_zero, List.set_cons_succ]
  refine takeH 18 (oi := ⟨some 126, _, _, _, _, _⟩) (v := ?_) rfl (by kernel_rfl) (by kernel_rfl) (by kernel_rfl) (fun _ _ _ h => h) (Or.inl ⟨by rfl, ?hyB419⟩) SB418 ?restB419
  case hyB419 => (intro W hW; (try dsimp only at hW); go_simp; try with_reducible rfl)
  try simp only [Act.put, List.setIfInBounds_toArray, List.set_cons_zero, List.set_cons_succ]
  refine takeH 19 (oi := ⟨some 127, _, _, _, _, _⟩) (v := ?_) rfl (by kernel_rfl) (by kernel_rfl) (by kernel_rfl) (fun _ _ _ h => h) (Or.inl ⟨by rfl, ?hyB420⟩) SB418 ?restB420
  case hyB420 => (intro W hW; (try dsimp only at hW); go_simp; try with_reducible rfl)
  try simp only [Act.put, List.setIfInBounds_toArray, List.set_cons_zero, List.set_cons_succ]
  refine takeH 20 (oi := ⟨some 128, _, _, _, _, _⟩) (v := ?_) rfl (by kernel_rfl) (by kernel_rfl) (by kernel_rfl) (fun _ _ _ h => h) (Or.inl ⟨by rfl, ?hyB421⟩) SB418 ?restB421
  case hyB421 => (intro W hW; (try dsimp only at hW); go_simp; try with_reducible rfl)
  try simp only [Act.put, List.setIfInBounds_toArray, List.set_cons_zero, List.set_cons_succ]
  refine wpAnyH_done (by kernel_rfl) ?_ _
  clear caB0 caB1 caB2
  have D13 := Lib.hid (D12.out.on SB418)
  generalize wB418 = W4 at D13 ⊢
  have u0 := (D13.out.blk _ (List.mem_cons_of_mem _ (List.mem_cons_of_mem _ (List.mem_cons_of_mem _ (List.mem_cons_of_mem _ (List.mem_cons_self)))))).2.cell 0 _ rfl; have uz0 := (D13.out.blk _ (List.mem_cons_of_mem _ (List.mem_cons_of_mem _ (List.mem_cons_of_mem _ (List.mem_cons_of_mem _ (List.mem_cons_self)))))).2.frozen 0; have u1 := (D13.out.blk _ (List.mem_cons_of_mem _ (List.mem_cons_of_mem _ (List.mem_cons_of_mem _ (List.mem_cons_of_mem _ (List.mem_cons_self)))))).2.cell 1 _ rfl; have uz1 := (D13.out.blk _ (List.mem_cons_of_mem _ (List.mem_cons_of_mem _ (List.mem_cons_of_mem _ (List.mem_cons_of_mem _ (List.mem_cons_self)))))).2.frozen 1; have u2 := (D13.out.blk _ (List.mem_cons_of_mem _ (List.mem_cons_of_mem _ (List.mem_cons_of_mem _ (List.mem_cons_of_mem _ (List.mem_cons_self)))))).2.cell 2 _ rfl; have uz2 := (D13.out.blk _ (List.mem_cons_of_mem _ (List.mem_cons_of_mem _ (List.mem_cons_of_mem _ (List.mem_cons_of_mem _ (List.mem_cons_self)))))).2.frozen 2; have ult := (D13.out).bl (List.mem_cons_of_mem _ (List.mem_cons_of_mem _ (List.mem_cons_of_mem _ (List.mem_cons_of_mem _ (List.mem_cons_self))))); have q0 := (D13.out.blk _ (List.mem_cons_of_mem _ (List.mem_cons_of_mem _ (List.mem_cons_of_mem _ (List.mem_cons_of_mem _ (List.mem_cons_of_mem _ (List.mem_cons_self))))))).2.cell 0 _ rfl; have qz0 := (D13.out.blk _ (List.mem_cons_of_mem _ (List.mem_cons_of_mem _ (List.mem_cons_of_mem _ (List.mem_cons_of_mem _ (List.mem_cons_of_mem _ (List.mem_cons_self))))))).2.frozen 0; have q1 := (D13.out.blk _ (List.mem_cons_of_mem _ (List.mem_cons_of_mem _ (List.mem_cons_of_mem _ (List.mem_cons_of_mem _ (List.mem_cons_of_mem _ (List.mem_cons_self))))))).2.cell 1 _ rfl; have qz1 := (D13.out.blk _ (List.mem_cons_of_mem _ (List.mem_cons_of_mem _ (List.mem_cons_of_mem _ (List.mem_cons_of_mem _ (List.mem_cons_of_mem _ (List.mem_cons_self))))))).2.frozen 1; have q2 := (D13.out.blk _ (List.mem_cons_of_mem _ (List.mem_cons_of_mem _ (List.mem_cons_of_mem _ (List.mem_cons_of_mem _ (List.mem_cons_of_mem _ (List.mem_cons_self))))))).2.cell 2 _ rfl; have qz2 := (D13.out.blk _ (List.mem_cons_of_mem _ (List.mem_cons_of_mem _ (List.mem_cons_of_mem _ (List.mem_cons_of_mem _ (List.mem_cons_of_mem _ (List.mem_cons_self))))))).2.frozen 2; have qlt := (D13.out).bl (List.mem_cons_of_mem _ (List.mem_cons_of_mem _ (List.mem_cons_of_mem _ (List.mem_cons_of_mem _ (List.mem_cons_of_mem _ (List.mem_cons_self))))))
  go_upto_region 19 with (first | (go_at_call 46; go_loud (with_reducible refine (E4.out _ (T0.out.on (D13.out).bel)).mono ?_; rintro e wn14 ⟨rfl, hb⟩; have D14 := Lib.hid ((D13.out).on hb); clear hb)) | (go_at_call 55; go_loud (with_reducible refine (hStr _ _).mono ?_; rintro e wn15 ⟨rfl, hb⟩; have D15 := Lib.hid ((D14.out.new 32 [.int .i64 3, .int .i64 0, .string ⟨#[]⟩]).on hb); clear hb)) | (go_at_call 56; go_loud (with_reducible refine (ON.out _ (T0.out.on (D15.out).bel)).mono ?_; rintro e wn16 ⟨rfl, hb⟩; have D16 := Lib.hid ((D15.out).on hb); clear hb)))
  have D17 := Lib.hid (D16.out.new 32 [.int .i64 2, .int .i64 0, .string ⟨#[]⟩])
  obtain ⟨w5, hw5⟩ : ∃ z, z = wn16.alloc (.cells #[.int .i64 2, .int .i64 0, .string ⟨#[]⟩] 32) := ⟨_, rfl⟩
  obtain ⟨x24, hx24⟩ : ∃ z, z = wn16.heap.size := ⟨_, rfl⟩
  rw [← hw5] at D17
  rw [← hx24] at D17
  simp only [← hw5, ← hx24]
  clear hw5 hx24
  have hBE : Below w5.heap.size w5 ({ w5 with drawn := w5.drawn + 1 } : World) := ⟨rfl, rfl, rfl, Nat.le_refl _, fun _ _ => rfl⟩
  refine wp_region_held (S := Below w5.heap.size w5) (by kernel_rfl) ?_
  have hSE := hBE
  generalize ({ w5 with drawn := w5.drawn + 1 } : World) = wE at hSE hBE ⊢
  have hleE := D17.out.bel.size
  have hslE := hSE.size
  have naE0 : ∀ W, Below w5.heap.size w5 W → W.cell? ⟨x24, 0, none⟩ = some (.int .i64 2) := fun W hW => ((D17.out.on hW).blk _ (List.mem_cons_self)).2.cell 0 _ rfl
  have naE1 : ∀ W, Below w5.heap.size w5 W → W.cell? ⟨x24, 1, none⟩ = some (.int .i64 0) := fun W hW => ((D17.out.on hW).blk _ (List.mem_cons_self)).2.cell 1 _ rfl
  have naE2 : ∀ W, Below w5.heap.size w5 W → W.cell? ⟨x24, 2, none⟩ = some (.string ⟨#[]⟩) := fun W hW => ((D17.out.on hW).blk _ (List.mem_cons_self)).2.cell 2 _ rfl
  refine takeH 0 (oi := ⟨some 147, _, _, _, _, _⟩) (v := ?_) rfl (by kernel_rfl) (by kernel_rfl) (by kernel_rfl) (fun _ _ _ h => h) (Or.inl ⟨by rfl, ?hyE422⟩) hSE ?restE422
  case hyE422 => (intro W hW; (try dsimp only at hW); go_simp; try with_reducible rfl)
  try simp only [Act.put, List.setIfInBounds_toArray, List.set_cons_zero, List.set_cons_succ]
  refine takeH 1 (oi := ⟨some 148, _, _, _, _, _⟩) (v := ?_) rfl (by kernel_rfl) (by kernel_rfl) (by kernel_rfl) (fun _ _ _ h => h) (Or.inl ⟨by rfl, ?hyE423⟩) hSE ?restE423
  case hyE423 => (intro W hW; (try dsimp only at hW); go_simp; try with_reducible rfl)
  try simp only [Act.put, List.setIfInBounds_toArray, List.set_cons_zero, List.set_cons_succ]
  refine takeH 2 (oi := ⟨some 149, _, _, _, _, _⟩) (v := ?_) rfl (by kernel_rfl) (by kernel_rfl) (by kernel_rfl) (fun _ _ _ h => h) (Or.inl ⟨by rfl, ?hyE424⟩) hSE ?restE424
  case hyE424 => (intro W hW; (try dsimp only at hW); go_simp; try with_reducible rfl)
  try simp only [Act.put, List.setIfInBounds_toArray, List.set_cons_zero, List.set_cons_succ]
  refine takeH 3 (oi := ⟨some 150, _, _, _, _, _⟩) (v := ?_) rfl (by kernel_rfl) (by kernel_rfl) (by kernel_rfl) (fun _ _ _ h => h) (Or.inl ⟨by rfl, ?hyE425⟩) hSE ?restE425
  case hyE425 => (intro W hW; (try dsimp only at hW); go_simp; try with_reducible rfl)
  try simp only [Act.put, List.setIfInBounds_toArray, List.set_cons_zero, List.set_cons_succ]
  refine takeH 4 (oi := ⟨some 151, _, _, _, _, _⟩) (v := ?_) rfl (by kernel_rfl) (by kernel_rfl) (by kernel_rfl) (fun _ _ _ h => h) (Or.inl ⟨by rfl, ?hyE426⟩) hSE ?restE426
  case hyE426 => (intro W hW; (try dsimp only at hW); go_simp; try with_reducible rfl)
  try simp only [Act.put, List.setIfInBounds_toArray, List.set_cons_zero, List.set_cons_succ]
  refine takeH 5 (oi := ⟨some 152, _, _, _, _, _⟩) (v := ?_) rfl (by kernel_rfl) (by kernel_rfl) (by kernel_rfl) (fun _ _ _ h => h) (Or.inl ⟨by rfl, ?hyE427⟩) hSE ?restE427
  case hyE427 => (intro W hW; (try dsimp only at hW); go_simp; try with_reducible rfl)
  try simp only [Act.put, List.setIfInBounds_toArray, List.set_cons_zero, List.set_cons_succ]
  refine takeH 6 (oi := ⟨some 153, _, _, _, _, _⟩) (v := ?_) rfl (by kernel_rfl) (by kernel_rfl) (by kernel_rfl) (fun _ _ _ h => h) (Or.inl ⟨by rfl, ?hyE428⟩) hSE ?restE428
  case hyE428 => (intro W hW; (try dsimp only at hW); go_simp; try with_reducible rfl)
  try simp only [Act.put, List.setIfInBounds_toArray, List.set_cons_zero, List.set_cons_succ]
  refine takeH 7 (oi := ⟨some 154, _, _, _, _, _⟩) (v := ?_) rfl (by kernel_rfl) (by kernel_rfl) (by kernel_rfl) (fun _ _ _ h => h) (Or.inl ⟨by rfl, ?hyE429⟩) hSE ?restE429
  case hyE429 => (intro W hW; (try dsimp only at hW); go_simp; try with_reducible rfl)
  try simp only [Act.put, List.setIfInBounds_toArray, List.set_cons_zero, List.set_cons_succ]
  refine takeH 8 (oi := ⟨some 155, _, _, _, _, _⟩) (v := ?_) rfl (by kernel_rfl) (by kernel_rfl) (by kernel_rfl) (fun _ _ _ h => h) (Or.inl ⟨by rfl, ?hyE430⟩) hSE ?restE430
  case hyE430 => (intro W hW; (try dsimp only at hW); go_simp; try with_reducible rfl)
  try simp only [Act.put, List.setIfInBounds_toArray, List.set_cons_zero, List.set_cons_succ]
  refine takeH 9 (oi := ⟨some 156, _, _, _, _, _⟩) (v := ?_) rfl (by kernel_rfl) (by kernel_rfl) (by kernel_rfl) (fun _ _ _ h => h) (Or.inl ⟨by rfl, ?hyE431⟩) hSE ?restE431
  case hyE431 => (intro W hW; (try dsimp only at hW); go_simp; try with_reducible rfl)
  try simp only [Act.put, List.setIfInBounds_toArray, List.set_cons_zero, List.set_cons_succ]
  refine takeH 10 (oi := ⟨some 157, _, _, _, _, _⟩) (v := ?_) rfl (by kernel_rfl) (by kernel_rfl) (by kernel_rfl) (fun _ _ _ h => h) (Or.inl ⟨by rfl, ?hyE432⟩) hSE ?restE432
  case hyE432 => (intro W hW; (try dsimp only at hW); go_simp; try with_reducible rfl)
  try simp only [Act.put, List.setIfInBounds_toArray, List.set_cons_zero, List.set_cons_succ]
  refine takeH 11 (oi := ⟨some 158, _, _, _, _, _⟩) (v := ?_) rfl (by kernel_rfl) (by kernel_rfl) (by kernel_rfl) (fun _ _ _ h => h) (Or.inl ⟨by rfl, ?hyE433⟩) hSE ?restE433
  case hyE433 => (intro W hW; (try dsimp only at hW); go_simp; try with_reducible rfl)
  try simp only [Act.put, List.setIfInBounds_toArray, List.set_cons_zero, List.set_cons_succ]
  refine takeH 12 (oi := ⟨some 159, _, _, _, _, _⟩) (v := ?_) rfl (by kernel_rfl) (by kernel_rfl) (by kernel_rfl) (fun _ _ _ h => h) (Or.inl ⟨by rfl, ?hyE434⟩) hSE ?restE434
  case hyE434 => (intro W hW; (try dsimp only at hW); go_simp; try with_reducible rfl)
  try simp only [Act.put, List.setIfInBounds_toArray, List.set_cons_zero, List.set_cons_succ]
  refine takeH 13 (oi := ⟨some 160, _, _, _, _, _⟩) (v := ?_) rfl (by kernel_rfl) (by kernel_rfl) (by kernel_rfl) (fun _ _ _ h => h) (Or.inl ⟨by rfl, ?hyE435⟩) hSE ?restE435
  case hyE435 => (intro W hW; (try dsimp only at hW); go_simp; try with_reducible rfl)
  try simp only [Act.put, List.setIfInBounds_toArray, List.set_cons_zero, List.set_cons_succ]
  refine takeH 14 (oi := ⟨some 161, _, _, _, _, _⟩) (v := undef) rfl (by kernel_rfl) (by kernel_rfl) (by kernel_rfl) (fun _ _ _ h => h) (Or.inr ⟨by rfl, rfl⟩) hSE ?restE436
  try simp only [Act.put, List.setIfInBounds_toArray, List.set_cons_zero, List.set_cons_succ]
  refine takeH 15 (oi := ⟨some 162, _, _, _, _, _⟩) (v := undef) rfl (by kernel_rfl) (by kernel_rfl) (by kernel_rfl) (fun _ _ _ h => h) (Or.inr ⟨by rfl, rfl⟩) hSE ?restE437
  try simp only [Act.put, List.setIfInBounds_toArray, List.set_cons_zero, List.set_cons_succ]
  refine takeH 16 (oi := ⟨some 163, _, _, _, _, _⟩) (v := ?_) rfl (by kernel_rfl) (by kernel_rfl) (by kernel_rfl) (fun _ _ _ h => h) (Or.inl ⟨by rfl, ?hyE438⟩) hSE ?restE438
  case hyE438 => (intro W hW; (try dsimp only at hW); go_simp; try with_reducible rfl)
  try simp only [Act.put, List.setIfInBounds_toArray, List.set_cons_zero, List.set_cons_succ]
  refine takeH 17 (oi := ⟨some 164, _, _, _, _, _⟩) (v := ?_) rfl (by kernel_rfl) (by kernel_rfl) (by kernel_rfl) (fun _ _ _ h => h) (Or.inl ⟨by rfl, ?hyE439⟩) hSE ?restE439
  case hyE439 => (intro W hW; (try dsimp only at hW); go_simp; try with_reducible rfl)
  try simp only [Act.put, List.setIfInBounds_toArray, List.set_cons_zero, List.set_cons_succ]
  refine takeH 18 (oi := ⟨some 165, _, _, _, _, _⟩) (v := ?_) rfl (by kernel_rfl) (by kernel_rfl) (by kernel_rfl) (fun _ _ _ h => h) (Or.inl ⟨by rfl, ?hyE440⟩) hSE ?restE440
  case hyE440 => (intro W hW; (try dsimp only at hW); go_simp; try with_reducible rfl)
  try simp only [Act.put, List.setIfInBounds_toArray, List.set_cons_zero, List.set_cons_succ]
  refine takeH 19 (oi := ⟨some 166, _, _, _, _, _⟩) (v := ?_) rfl (by kernel_rfl) (by kernel_rfl) (by kernel_rfl) (fun _ _ _ h => h) (Or.inl ⟨by rfl, ?hyE441⟩) hSE ?restE441
  case hyE441 => (intro W hW; (try dsimp only at hW); go_simp; try with_reducible rfl)
  try simp only [Act.put, List.setIfInBounds_toArray, List.set_cons_zero, List.set_cons_succ]
  refine takeH 20 (oi := ⟨some 167, _, _, _, _, _⟩) (v := ?_) rfl (by kernel_rfl) (by kernel_rfl) (by kernel_rfl) (fun _ _ _ h => h) (Or.inl ⟨by rfl, ?hyE442⟩) hSE ?restE442
  case hyE442 => (intro W hW; (try dsimp only at hW); go_simp; try with_reducible rfl)
  try simp only [Act.put, List.setIfInBounds_toArray, List.set_cons_zero, List.set_cons_succ]
  refine takeH 21 (oi := ⟨some 168, _, _, _, _, _⟩) (v := ?_) rfl (by kernel_rfl) (by kernel_rfl) (by kernel_rfl) (fun _ _ _ h => h) (Or.inl ⟨by rfl, ?hyE443⟩) hSE ?restE443
  case hyE443 => (intro W hW; (try dsimp only at hW); go_simp; try with_reducible rfl)
  try simp only [Act.put, List.setIfInBounds_toArray, List.set_cons_zero, List.set_cons_succ]
  refine takeH 22 (oi := ⟨some 169, _, _, _, _, _⟩) (v := ?_) rfl (by kernel_rfl) (by kernel_rfl) (by kernel_rfl) (fun _ _ _ h => h) (Or.inl ⟨by rfl, ?hyE444⟩) hSE ?restE444
  case hyE444 => (intro W hW; (try dsimp only at hW); go_simp; try with_reducible rfl)
  try simp only [Act.put, List.setIfInBounds_toArray, List.set_cons_zero, List.set_cons_succ]
  refine takeH 23 (oi := ⟨some 170, _, _, _, _, _⟩) (v := ?_) rfl (by kernel_rfl) (by kernel_rfl) (by kernel_rfl) (fun _ _ _ h => h) (Or.inl ⟨by rfl, ?hyE445⟩) hSE ?restE445
  case hyE445 => (intro W hW; (try dsimp only at hW); go_simp; try with_reducible rfl)
  try simp only [Act.put, List.setIfInBounds_toArray, List.set_cons_zero, List.set_cons_succ]
  refine takeH 24 (oi := ⟨some 171, _, _, _, _, _⟩) (v := ?_) rfl (by kernel_rfl) (by kernel_rfl) (by kernel_rfl) (fun _ _ _ h => h) (Or.inl ⟨by rfl, ?hyE446⟩) hSE ?restE446
  case hyE446 => (intro W hW; (try dsimp only at hW); go_simp; try with_reducible rfl)
  try simp only [Act.put, List.setIfInBounds_toArray, List.set_cons_zero, List.set_cons_succ]
  refine one (i := 25) (by kernel_rfl) ?_
  refine wpOp_wanted rfl (by rfl) fun K hK => ?_
  go_simp
  with_reducible refine (hInt _ _).mono ?_
  rintro e wE447 ⟨rfl, hb⟩
  have SE447 : Below w5.heap.size w5 wE447 := hSE.trans (hb.mono hSE.size)
  clear hb
  refine hK _ _ ⟨SE447, ?_⟩
  clear hK K
  try simp only [Act.put, List.setIfInBounds_toArray, List.set_cons_zero, List.set_cons_succ]
  refine takeH 26 (oi := ⟨some 173, _, _, _, _, _⟩) (v := ?_) rfl (by kernel_rfl) (by kernel_rfl) (by kernel_rfl) (fun _ _ _ h => h) (Or.inl ⟨by rfl, ?hyE448⟩) SE447 ?restE448
  case hyE448 => (intro W hW; (try dsimp only at hW); go_simp; try with_reducible rfl)
  try simp only [Act.put, List.setIfInBounds_toArray, List.set_cons_zero, List.set_cons_succ]
  refine takeH 27 (oi := ⟨some 174, _, _, _, _, _⟩) (v := ?_) rfl (by kernel_rfl) (by kernel_rfl) (by kernel_rfl) (fun _ _ _ h => h) (Or.inl ⟨by rfl, ?hyE449⟩) SE447 ?restE449
  case hyE449 => (intro W hW; (try dsimp only at hW); go_simp; try with_reducible rfl)
  try simp only [Act.put, List.setIfInBounds_toArray, List.set_cons_zero, List.set_cons_succ]
  refine takeH 28 (oi := ⟨some 6, _, _, _, _, _⟩) (v := ?_) rfl (by kernel_rfl) (by kernel_rfl) (by kernel_rfl) (fun _ _ _ h => h) (Or.inl ⟨by rfl, ?hyE450⟩) SE447 ?restE450
  case hyE450 => (intro W hW; (try dsimp only at hW); go_simp; try with_reducible rfl)
  try simp only [Act.put, List.setIfInBounds_toArray, List.set_cons_zero, List.set_cons_succ]
  refine wpAnyH_done (by kernel_rfl) ?_ _
  clear naE0 naE1 naE2
  go_wp2_with fail
  go_ret
  exact ⟨rfl, (D17.out.on SE447).bel⟩
set_option maxHeartbeats 16000000 in
set_option maxRecDepth 20000 in
theorem nu32 (m op : Int) (k0 n0 : Int) (s0 : ByteArray) (k1 n1 : Int) (s1 : ByteArray) (x y : Int) (S T : ByteArray) (y1 y2 : Int) (y3 : ByteArray) (y4 : Int) (hg : ∀ b W, Blk W b 32 [.int .i64 k0, .int .i64 n0, .string s0, .int .i64 k1, .int .i64 n1, .string s1] → Calls Tryd.prog 44 #[.slice (some ⟨b, 0, none⟩) 2 2] W fun e w' => e = .returned (.bool false) ∧ Below W.heap.size W w') (hop : wrap64 (1 + (wrap64 m).tmod 10) = op) (hx : numberF k0 n0 s0 = some (x, true)) (hy : numberF k1 n1 s1 = some (y, false)) (d1 : doF op k0 n0 s0 k1 n1 s1 0 = some (0, 0, ⟨#[]⟩, 18)) (d2 : doF op 2 x ⟨#[]⟩ 2 y ⟨#[]⟩ 0 = some (y1, y2, y3, y4)) (hs : stringF k0 n0 s0 = some (S, true)) (ht : stringF k1 n1 s1 = some (T, true)) (d3 : doF 11 k0 n0 s0 k1 n1 s1 ((S.size : Int) + (T.size : Int)) = some (3, 0, (S ++ T), 0)) (d4 : doF 11 k0 n0 s0 k1 n1 s1 ((S.size : Int) + (T.size : Int) - 1) = some (0, 0, ⟨#[]⟩, 3)) (o1 : oneF 23 3 0 S = some (2, (S.size : Int), ⟨#[]⟩, 0)) (hw1 : IntKind.i64.wrap ((S.size : Int) + (T.size : Int)) = (S.size : Int) + (T.size : Int)) (hw2 : IntKind.i64.wrap ((S.size : Int) + (T.size : Int) - 1) = (S.size : Int) + (T.size : Int) - 1) (hv1 : wrap64 ((S.size : Int) + (T.size : Int)) = (S.size : Int) + (T.size : Int)) (hv2 : wrap64 ((S.size : Int) + (T.size : Int) - 1) = (S.size : Int) + (T.size : Int) - 1) (hz2 : (9223372036854775807 < S.size + T.size) = False) (hz : ((S.size : Int) + (T.size : Int) = 0) = False) (hzb : ((S.size : Int) + (T.size : Int) == 0) = false) (w : World) (hT : Tab w) : Calls Tryd.prog 10 #[.int .u8 m, .agg #[.int .i64 k0, .int .i64 n0, .string s0], .agg #[.int .i64 k1, .int .i64 n1, .string s1]] w fun e w' => e = .returned (.bool true) ∧ Below w.heap.size w w' := by
  have T0 := Lib.hid hT
  have D0 := Lib.hid (OD.start2 w 32 [.int .i64 k0, .int .i64 n0, .string s0] [.int .i64 k1, .int .i64 n1, .string s1])
  have AL := Lib.hid (fun W hW => alive_calls true W hW rfl)
  have GR := Lib.hid hg
  have NX := Lib.hid (fun W hW => number_calls k0 n0 s0 x true W hW hx)
  have NY := Lib.hid (fun W hW => number_calls k1 n1 s1 y false W hW hy)
  have E1 := Lib.hid (fun W hW => do_calls op k0 n0 s0 k1 n1 s1 0 (0) (0) (⟨#[]⟩) (18) W hW d1)
  have E2 := Lib.hid (fun W hW => do_calls op 2 x ⟨#[]⟩ 2 y ⟨#[]⟩ 0 (y1) (y2) (y3) (y4) W hW d2)
  have SX := Lib.hid (fun W hW => string_calls k0 n0 s0 S true W hW hs)
  have SY := Lib.hid (fun W hW => string_calls k1 n1 s1 T true W hW ht)
  have E3 := Lib.hid (fun W hW => do_calls 11 k0 n0 s0 k1 n1 s1 ((S.size : Int) + (T.size : Int)) (3) (0) ((S ++ T)) (0) W hW d3)
  have E4 := Lib.hid (fun W hW => do_calls 11 k0 n0 s0 k1 n1 s1 ((S.size : Int) + (T.size : Int) - 1) (0) (0) (⟨#[]⟩) (3) W hW d4)
  have ON := Lib.hid (fun W hW => one_calls 23 3 0 S 2 (S.size : Int) ⟨#[]⟩ 0 W hW o1)
  clear hT hg hx hy d1 d2 hs ht d3 d4 o1
  go_enter Tryd.func10, Tryd.ntmps10
  go_upto_region 15 with (first | (go_at_call 43; go_loud (with_reducible refine (AL.out _ (T0.out.on D0.out.bel)).mono ?_; rintro e wn1 ⟨rfl, hb⟩; have D1 := Lib.hid ((D0.out).on hb); clear hb; have u0 := (D1.out.blk _ (List.mem_cons_self)).2.cell 0 _ rfl; have uz0 := (D1.out.blk _ (List.mem_cons_self)).2.frozen 0; have u1 := (D1.out.blk _ (List.mem_cons_self)).2.cell 1 _ rfl; have uz1 := (D1.out.blk _ (List.mem_cons_self)).2.frozen 1; have u2 := (D1.out.blk _ (List.mem_cons_self)).2.cell 2 _ rfl; have uz2 := (D1.out.blk _ (List.mem_cons_self)).2.frozen 2; have ult := (D1.out).bl (List.mem_cons_self); have q0 := (D1.out.blk _ (List.mem_cons_of_mem _ (List.mem_cons_self))).2.cell 0 _ rfl; have qz0 := (D1.out.blk _ (List.mem_cons_of_mem _ (List.mem_cons_self))).2.frozen 0; have q1 := (D1.out.blk _ (List.mem_cons_of_mem _ (List.mem_cons_self))).2.cell 1 _ rfl; have qz1 := (D1.out.blk _ (List.mem_cons_of_mem _ (List.mem_cons_self))).2.frozen 1; have q2 := (D1.out.blk _ (List.mem_cons_of_mem _ (List.mem_cons_self))).2.cell 2 _ rfl; have qz2 := (D1.out.blk _ (List.mem_cons_of_mem _ (List.mem_cons_self))).2.frozen 2; have qlt := (D1.out).bl (List.mem_cons_of_mem _ (List.mem_cons_self)))) | (go_at_call 44; go_loud (with_reducible refine (GR.out _ _ (Blk.new _ [.int .i64 k0, .int .i64 n0, .string s0, .int .i64 k1, .int .i64 n1, .string s1] 32)).mono ?_; rintro e wn2 ⟨rfl, hb⟩; have D2 := Lib.hid ((D1.out.new 32 [.int .i64 k0, .int .i64 n0, .string s0, .int .i64 k1, .int .i64 n1, .string s1]).on hb); clear hb; have u0 := (D2.out.blk _ (List.mem_cons_of_mem _ (List.mem_cons_self))).2.cell 0 _ rfl; have uz0 := (D2.out.blk _ (List.mem_cons_of_mem _ (List.mem_cons_self))).2.frozen 0; have u1 := (D2.out.blk _ (List.mem_cons_of_mem _ (List.mem_cons_self))).2.cell 1 _ rfl; have uz1 := (D2.out.blk _ (List.mem_cons_of_mem _ (List.mem_cons_self))).2.frozen 1; have u2 := (D2.out.blk _ (List.mem_cons_of_mem _ (List.mem_cons_self))).2.cell 2 _ rfl; have uz2 := (D2.out.blk _ (List.mem_cons_of_mem _ (List.mem_cons_self))).2.frozen 2; have ult := (D2.out).bl (List.mem_cons_of_mem _ (List.mem_cons_self)); have q0 := (D2.out.blk _ (List.mem_cons_of_mem _ (List.mem_cons_of_mem _ (List.mem_cons_self)))).2.cell 0 _ rfl; have qz0 := (D2.out.blk _ (List.mem_cons_of_mem _ (List.mem_cons_of_mem _ (List.mem_cons_self)))).2.frozen 0; have q1 := (D2.out.blk _ (List.mem_cons_of_mem _ (List.mem_cons_of_mem _ (List.mem_cons_self)))).2.cell 1 _ rfl; have qz1 := (D2.out.blk _ (List.mem_cons_of_mem _ (List.mem_cons_of_mem _ (List.mem_cons_self)))).2.frozen 1; have q2 := (D2.out.blk _ (List.mem_cons_of_mem _ (List.mem_cons_of_mem _ (List.mem_cons_self)))).2.cell 2 _ rfl; have qz2 := (D2.out.blk _ (List.mem_cons_of_mem _ (List.mem_cons_of_mem _ (List.mem_cons_self)))).2.frozen 2; have qlt := (D2.out).bl (List.mem_cons_of_mem _ (List.mem_cons_of_mem _ (List.mem_cons_self))))) | (go_at_call 52; go_loud (with_reducible refine (NX.out _ (T0.out.on (D2.out).bel)).mono ?_; rintro e wn3 ⟨rfl, hb⟩; have D3 := Lib.hid ((D2.out).on hb); clear hb; have u0 := (D3.out.blk _ (List.mem_cons_of_mem _ (List.mem_cons_self))).2.cell 0 _ rfl; have uz0 := (D3.out.blk _ (List.mem_cons_of_mem _ (List.mem_cons_self))).2.frozen 0; have u1 := (D3.out.blk _ (List.mem_cons_of_mem _ (List.mem_cons_self))).2.cell 1 _ rfl; have uz1 := (D3.out.blk _ (List.mem_cons_of_mem _ (List.mem_cons_self))).2.frozen 1; have u2 := (D3.out.blk _ (List.mem_cons_of_mem _ (List.mem_cons_self))).2.cell 2 _ rfl; have uz2 := (D3.out.blk _ (List.mem_cons_of_mem _ (List.mem_cons_self))).2.frozen 2; have ult := (D3.out).bl (List.mem_cons_of_mem _ (List.mem_cons_self)); have q0 := (D3.out.blk _ (List.mem_cons_of_mem _ (List.mem_cons_of_mem _ (List.mem_cons_self)))).2.cell 0 _ rfl; have qz0 := (D3.out.blk _ (List.mem_cons_of_mem _ (List.mem_cons_of_mem _ (List.mem_cons_self)))).2.frozen 0; have q1 := (D3.out.blk _ (List.mem_cons_of_mem _ (List.mem_cons_of_mem _ (List.mem_cons_self)))).2.cell 1 _ rfl; have qz1 := (D3.out.blk _ (List.mem_cons_of_mem _ (List.mem_cons_of_mem _ (List.mem_cons_self)))).2.frozen 1; have q2 := (D3.out.blk _ (List.mem_cons_of_mem _ (List.mem_cons_of_mem _ (List.mem_cons_self)))).2.cell 2 _ rfl; have qz2 := (D3.out.blk _ (List.mem_cons_of_mem _ (List.mem_cons_of_mem _ (List.mem_cons_self)))).2.frozen 2; have qlt := (D3.out).bl (List.mem_cons_of_mem _ (List.mem_cons_of_mem _ (List.mem_cons_self))))) | (go_at_call 52; go_loud (with_reducible refine (NY.out _ (T0.out.on (D3.out).bel)).mono ?_; rintro e wn4 ⟨rfl, hb⟩; have D4 := Lib.hid ((D3.out).on hb); clear hb; have u0 := (D4.out.blk _ (List.mem_cons_of_mem _ (List.mem_cons_self))).2.cell 0 _ rfl; have uz0 := (D4.out.blk _ (List.mem_cons_of_mem _ (List.mem_cons_self))).2.frozen 0; have u1 := (D4.out.blk _ (List.mem_cons_of_mem _ (List.mem_cons_self))).2.cell 1 _ rfl; have uz1 := (D4.out.blk _ (List.mem_cons_of_mem _ (List.mem_cons_self))).2.frozen 1; have u2 := (D4.out.blk _ (List.mem_cons_of_mem _ (List.mem_cons_self))).2.cell 2 _ rfl; have uz2 := (D4.out.blk _ (List.mem_cons_of_mem _ (List.mem_cons_self))).2.frozen 2; have ult := (D4.out).bl (List.mem_cons_of_mem _ (List.mem_cons_self)); have q0 := (D4.out.blk _ (List.mem_cons_of_mem _ (List.mem_cons_of_mem _ (List.mem_cons_self)))).2.cell 0 _ rfl; have qz0 := (D4.out.blk _ (List.mem_cons_of_mem _ (List.mem_cons_of_mem _ (List.mem_cons_self)))).2.frozen 0; have q1 := (D4.out.blk _ (List.mem_cons_of_mem _ (List.mem_cons_of_mem _ (List.mem_cons_self)))).2.cell 1 _ rfl; have qz1 := (D4.out.blk _ (List.mem_cons_of_mem _ (List.mem_cons_of_mem _ (List.mem_cons_self)))).2.frozen 1; have q2 := (D4.out.blk _ (List.mem_cons_of_mem _ (List.mem_cons_of_mem _ (List.mem_cons_self)))).2.cell 2 _ rfl; have qz2 := (D4.out.blk _ (List.mem_cons_of_mem _ (List.mem_cons_of_mem _ (List.mem_cons_self)))).2.frozen 2; have qlt := (D4.out).bl (List.mem_cons_of_mem _ (List.mem_cons_of_mem _ (List.mem_cons_self))))) | (go_at_call 46; go_loud (with_reducible refine (E1.out _ (T0.out.on (D4.out).bel)).mono ?_; rintro e wn5 ⟨rfl, hb⟩; have D5 := Lib.hid ((D4.out).on hb); clear hb)) | (go_at_call 53; go_loud (with_reducible refine (hInt x _).mono ?_; rintro e wn6 ⟨rfl, hb⟩; have D6 := Lib.hid ((D5.out.new 32 [.int .i64 0, .int .i64 0, .string ⟨#[]⟩]).on hb); clear hb)) | (go_at_call 53; go_loud (with_reducible refine (hInt y _).mono ?_; rintro e wn7 ⟨rfl, hb⟩; have D7 := Lib.hid ((D6.out).on hb); clear hb)) | (go_at_call 46; go_loud (with_reducible refine (E2.out _ (T0.out.on (D7.out).bel)).mono ?_; rintro e wn8 ⟨rfl, hb⟩; have D8 := Lib.hid ((D7.out).on hb); clear hb; have r0 := (D8.out.blk _ (List.mem_cons_self)).2.cell 0 _ rfl; have rz0 := (D8.out.blk _ (List.mem_cons_self)).2.frozen 0; have r1 := (D8.out.blk _ (List.mem_cons_self)).2.cell 1 _ rfl; have rz1 := (D8.out.blk _ (List.mem_cons_self)).2.frozen 1; have r2 := (D8.out.blk _ (List.mem_cons_self)).2.cell 2 _ rfl; have rz2 := (D8.out.blk _ (List.mem_cons_self)).2.frozen 2; have rlt := (D8.out).bl (List.mem_cons_self); have u0 := (D8.out.blk _ (List.mem_cons_of_mem _ (List.mem_cons_of_mem _ (List.mem_cons_self)))).2.cell 0 _ rfl; have uz0 := (D8.out.blk _ (List.mem_cons_of_mem _ (List.mem_cons_of_mem _ (List.mem_cons_self)))).2.frozen 0; have u1 := (D8.out.blk _ (List.mem_cons_of_mem _ (List.mem_cons_of_mem _ (List.mem_cons_self)))).2.cell 1 _ rfl; have uz1 := (D8.out.blk _ (List.mem_cons_of_mem _ (List.mem_cons_of_mem _ (List.mem_cons_self)))).2.frozen 1; have u2 := (D8.out.blk _ (List.mem_cons_of_mem _ (List.mem_cons_of_mem _ (List.mem_cons_self)))).2.cell 2 _ rfl; have uz2 := (D8.out.blk _ (List.mem_cons_of_mem _ (List.mem_cons_of_mem _ (List.mem_cons_self)))).2.frozen 2; have ult := (D8.out).bl (List.mem_cons_of_mem _ (List.mem_cons_of_mem _ (List.mem_cons_self))); have q0 := (D8.out.blk _ (List.mem_cons_of_mem _ (List.mem_cons_of_mem _ (List.mem_cons_of_mem _ (List.mem_cons_self))))).2.cell 0 _ rfl; have qz0 := (D8.out.blk _ (List.mem_cons_of_mem _ (List.mem_cons_of_mem _ (List.mem_cons_of_mem _ (List.mem_cons_self))))).2.frozen 0; have q1 := (D8.out.blk _ (List.mem_cons_of_mem _ (List.mem_cons_of_mem _ (List.mem_cons_of_mem _ (List.mem_cons_self))))).2.cell 1 _ rfl; have qz1 := (D8.out.blk _ (List.mem_cons_of_mem _ (List.mem_cons_of_mem _ (List.mem_cons_of_mem _ (List.mem_cons_self))))).2.frozen 1; have q2 := (D8.out.blk _ (List.mem_cons_of_mem _ (List.mem_cons_of_mem _ (List.mem_cons_of_mem _ (List.mem_cons_self))))).2.cell 2 _ rfl; have qz2 := (D8.out.blk _ (List.mem_cons_of_mem _ (List.mem_cons_of_mem _ (List.mem_cons_of_mem _ (List.mem_cons_self))))).2.frozen 2; have qlt := (D8.out).bl (List.mem_cons_of_mem _ (List.mem_cons_of_mem _ (List.mem_cons_of_mem _ (List.mem_cons_self)))))) | (go_at_call 54; go_loud (with_reducible refine (SX.out _ (T0.out.on (D8.out.new 32 [.int .i64 y1, .int .i64 y2, .string y3]).bel)).mono ?_; rintro e wn9 ⟨rfl, hb⟩; have D9 := Lib.hid ((D8.out.new 32 [.int .i64 y1, .int .i64 y2, .string y3]).on hb); clear hb; have u0 := (D9.out.blk _ (List.mem_cons_of_mem _ (List.mem_cons_of_mem _ (List.mem_cons_of_mem _ (List.mem_cons_self))))).2.cell 0 _ rfl; have uz0 := (D9.out.blk _ (List.mem_cons_of_mem _ (List.mem_cons_of_mem _ (List.mem_cons_of_mem _ (List.mem_cons_self))))).2.frozen 0; have u1 := (D9.out.blk _ (List.mem_cons_of_mem _ (List.mem_cons_of_mem _ (List.mem_cons_of_mem _ (List.mem_cons_self))))).2.cell 1 _ rfl; have uz1 := (D9.out.blk _ (List.mem_cons_of_mem _ (List.mem_cons_of_mem _ (List.mem_cons_of_mem _ (List.mem_cons_self))))).2.frozen 1; have u2 := (D9.out.blk _ (List.mem_cons_of_mem _ (List.mem_cons_of_mem _ (List.mem_cons_of_mem _ (List.mem_cons_self))))).2.cell 2 _ rfl; have uz2 := (D9.out.blk _ (List.mem_cons_of_mem _ (List.mem_cons_of_mem _ (List.mem_cons_of_mem _ (List.mem_cons_self))))).2.frozen 2; have ult := (D9.out).bl (List.mem_cons_of_mem _ (List.mem_cons_of_mem _ (List.mem_cons_of_mem _ (List.mem_cons_self)))); have q0 := (D9.out.blk _ (List.mem_cons_of_mem _ (List.mem_cons_of_mem _ (List.mem_cons_of_mem _ (List.mem_cons_of_mem _ (List.mem_cons_self)))))).2.cell 0 _ rfl; have qz0 := (D9.out.blk _ (List.mem_cons_of_mem _ (List.mem_cons_of_mem _ (List.mem_cons_of_mem _ (List.mem_cons_of_mem _ (List.mem_cons_self)))))).2.frozen 0; have q1 := (D9.out.blk _ (List.mem_cons_of_mem _ (List.mem_cons_of_mem _ (List.mem_cons_of_mem _ (List.mem_cons_of_mem _ (List.mem_cons_self)))))).2.cell 1 _ rfl; have qz1 := (D9.out.blk _ (List.mem_cons_of_mem _ (List.mem_cons_of_mem _ (List.mem_cons_of_mem _ (List.mem_cons_of_mem _ (List.mem_cons_self)))))).2.frozen 1; have q2 := (D9.out.blk _ (List.mem_cons_of_mem _ (List.mem_cons_of_mem _ (List.mem_cons_of_mem _ (List.mem_cons_of_mem _ (List.mem_cons_self)))))).2.cell 2 _ rfl; have qz2 := (D9.out.blk _ (List.mem_cons_of_mem _ (List.mem_cons_of_mem _ (List.mem_cons_of_mem _ (List.mem_cons_of_mem _ (List.mem_cons_self)))))).2.frozen 2; have qlt := (D9.out).bl (List.mem_cons_of_mem _ (List.mem_cons_of_mem _ (List.mem_cons_of_mem _ (List.mem_cons_of_mem _ (List.mem_cons_self))))))) | (go_at_call 54; go_loud (with_reducible refine (SY.out _ (T0.out.on (D9.out).bel)).mono ?_; rintro e wn10 ⟨rfl, hb⟩; have D10 := Lib.hid ((D9.out).on hb); clear hb; have u0 := (D10.out.blk _ (List.mem_cons_of_mem _ (List.mem_cons_of_mem _ (List.mem_cons_of_mem _ (List.mem_cons_self))))).2.cell 0 _ rfl; have uz0 := (D10.out.blk _ (List.mem_cons_of_mem _ (List.mem_cons_of_mem _ (List.mem_cons_of_mem _ (List.mem_cons_self))))).2.frozen 0; have u1 := (D10.out.blk _ (List.mem_cons_of_mem _ (List.mem_cons_of_mem _ (List.mem_cons_of_mem _ (List.mem_cons_self))))).2.cell 1 _ rfl; have uz1 := (D10.out.blk _ (List.mem_cons_of_mem _ (List.mem_cons_of_mem _ (List.mem_cons_of_mem _ (List.mem_cons_self))))).2.frozen 1; have u2 := (D10.out.blk _ (List.mem_cons_of_mem _ (List.mem_cons_of_mem _ (List.mem_cons_of_mem _ (List.mem_cons_self))))).2.cell 2 _ rfl; have uz2 := (D10.out.blk _ (List.mem_cons_of_mem _ (List.mem_cons_of_mem _ (List.mem_cons_of_mem _ (List.mem_cons_self))))).2.frozen 2; have ult := (D10.out).bl (List.mem_cons_of_mem _ (List.mem_cons_of_mem _ (List.mem_cons_of_mem _ (List.mem_cons_self)))); have q0 := (D10.out.blk _ (List.mem_cons_of_mem _ (List.mem_cons_of_mem _ (List.mem_cons_of_mem _ (List.mem_cons_of_mem _ (List.mem_cons_self)))))).2.cell 0 _ rfl; have qz0 := (D10.out.blk _ (List.mem_cons_of_mem _ (List.mem_cons_of_mem _ (List.mem_cons_of_mem _ (List.mem_cons_of_mem _ (List.mem_cons_self)))))).2.frozen 0; have q1 := (D10.out.blk _ (List.mem_cons_of_mem _ (List.mem_cons_of_mem _ (List.mem_cons_of_mem _ (List.mem_cons_of_mem _ (List.mem_cons_self)))))).2.cell 1 _ rfl; have qz1 := (D10.out.blk _ (List.mem_cons_of_mem _ (List.mem_cons_of_mem _ (List.mem_cons_of_mem _ (List.mem_cons_of_mem _ (List.mem_cons_self)))))).2.frozen 1; have q2 := (D10.out.blk _ (List.mem_cons_of_mem _ (List.mem_cons_of_mem _ (List.mem_cons_of_mem _ (List.mem_cons_of_mem _ (List.mem_cons_self)))))).2.cell 2 _ rfl; have qz2 := (D10.out.blk _ (List.mem_cons_of_mem _ (List.mem_cons_of_mem _ (List.mem_cons_of_mem _ (List.mem_cons_of_mem _ (List.mem_cons_self)))))).2.frozen 2; have qlt := (D10.out).bl (List.mem_cons_of_mem _ (List.mem_cons_of_mem _ (List.mem_cons_of_mem _ (List.mem_cons_of_mem _ (List.mem_cons_self))))))) | (go_at_call 46; go_loud (with_reducible refine (E3.out _ (T0.out.on (D10.out).bel)).mono ?_; rintro e wn11 ⟨rfl, hb⟩; have D11 := Lib.hid ((D10.out).on hb); clear hb)))
  have hu := Tryd.underlying32
  have D12 := Lib.hid (D11.out.new 32 [.int .i64 3, .int .i64 0, .string (S ++ T)])
  obtain ⟨w1, hw1⟩ : ∃ z, z = wn11.alloc (.cells #[.int .i64 3, .int .i64 0, .string (S ++ T)] 32) := ⟨_, rfl⟩
  obtain ⟨x20, hx20⟩ : ∃ z, z = wn11.heap.size := ⟨_, rfl⟩
  rw [← hw1] at D12
  rw [← hx20] at D12
  simp only [← hw1, ← hx20]
  clear hw1 hx20
  have hBB : Below w1.heap.size w1 ({ w1 with drawn := w1.drawn + 1 } : World) := ⟨rfl, rfl, rfl, Nat.le_refl _, fun _ _ => rfl⟩
  refine wp_region_held (S := Below w1.heap.size w1) (by kernel_rfl) ?_
  have hSB := hBB
  generalize ({ w1 with drawn := w1.drawn + 1 } : World) = wB at hSB hBB ⊢
  have hleB := D12.out.bel.size
  have hslB := hSB.size
  have caB0 : ∀ W, Below w1.heap.size w1 W → W.cell? ⟨x20, 0, none⟩ = some (.int .i64 3) := fun W hW => ((D12.out.on hW).blk _ (List.mem_cons_self)).2.cell 0 _ rfl
  have caB1 : ∀ W, Below w1.heap.size w1 W → W.cell? ⟨x20, 1, none⟩ = some (.int .i64 0) := fun W hW => ((D12.out.on hW).blk _ (List.mem_cons_self)).2.cell 1 _ rfl
  have caB2 : ∀ W, Below w1.heap.size w1 W → W.cell? ⟨x20, 2, none⟩ = some (.string (S ++ T)) := fun W hW => ((D12.out.on hW).blk _ (List.mem_cons_self)).2.cell 2 _ rfl
  refine takeH 0 (oi := ⟨some 108, _, _, _, _, _⟩) (v := ?_) rfl (by kernel_rfl) (by kernel_rfl) (by kernel_rfl) (fun _ _ _ h => h) (Or.inl ⟨by rfl, ?hyB451⟩) hSB ?restB451
  case hyB451 => (intro W hW; (try dsimp only at hW); go_simp; try with_reducible rfl)
  try simp only [Act.put, List.setIfInBounds_toArray, List.set_cons_zero, List.set_cons_succ]
  refine takeH 1 (oi := ⟨some 109, _, _, _, _, _⟩) (v := ?_) rfl (by kernel_rfl) (by kernel_rfl) (by kernel_rfl) (fun _ _ _ h => h) (Or.inl ⟨by rfl, ?hyB452⟩) hSB ?restB452
  case hyB452 => (intro W hW; (try dsimp only at hW); go_simp; try with_reducible rfl)
  try simp only [Act.put, List.setIfInBounds_toArray, List.set_cons_zero, List.set_cons_succ]
  refine takeH 2 (oi := ⟨some 110, _, _, _, _, _⟩) (v := ?_) rfl (by kernel_rfl) (by kernel_rfl) (by kernel_rfl) (fun _ _ _ h => h) (Or.inl ⟨by rfl, ?hyB453⟩) hSB ?restB453
  case hyB453 => (intro W hW; (try dsimp only at hW); go_simp; try with_reducible rfl)
  try simp only [Act.put, List.setIfInBounds_toArray, List.set_cons_zero, List.set_cons_succ]
  refine takeH 3 (oi := ⟨some 111, _, _, _, _, _⟩) (v := ?_) rfl (by kernel_rfl) (by kernel_rfl) (by kernel_rfl) (fun _ _ _ h => h) (Or.inl ⟨by rfl, ?hyB454⟩) hSB ?restB454
  case hyB454 => (intro W hW; (try dsimp only at hW); go_simp; try with_reducible rfl)
  try simp only [Act.put, List.setIfInBounds_toArray, List.set_cons_zero, List.set_cons_succ]
  refine takeH 4 (oi := ⟨some 112, _, _, _, _, _⟩) (v := ?_) rfl (by kernel_rfl) (by kernel_rfl) (by kernel_rfl) (fun _ _ _ h => h) (Or.inl ⟨by rfl, ?hyB455⟩) hSB ?restB455
  case hyB455 => (intro W hW; (try dsimp only at hW); go_simp; try with_reducible rfl)
  try simp only [Act.put, List.setIfInBounds_toArray, List.set_cons_zero, List.set_cons_succ]
  refine takeH 5 (oi := ⟨some 113, _, _, _, _, _⟩) (v := ?_) rfl (by kernel_rfl) (by kernel_rfl) (by kernel_rfl) (fun _ _ _ h => h) (Or.inl ⟨by rfl, ?hyB456⟩) hSB ?restB456
  case hyB456 => (intro W hW; (try dsimp only at hW); go_simp; try with_reducible rfl)
  try simp only [Act.put, List.setIfInBounds_toArray, List.set_cons_zero, List.set_cons_succ]
  refine takeH 6 (oi := ⟨some 114, _, _, _, _, _⟩) (v := ?_) rfl (by kernel_rfl) (by kernel_rfl) (by kernel_rfl) (fun _ _ _ h => h) (Or.inl ⟨by rfl, ?hyB457⟩) hSB ?restB457
  case hyB457 => (intro W hW; (try dsimp only at hW); go_simp; try with_reducible rfl)
  try simp only [Act.put, List.setIfInBounds_toArray, List.set_cons_zero, List.set_cons_succ]
  refine takeH 7 (oi := ⟨some 115, _, _, _, _, _⟩) (v := ?_) rfl (by kernel_rfl) (by kernel_rfl) (by kernel_rfl) (fun _ _ _ h => h) (Or.inl ⟨by rfl, ?hyB458⟩) hSB ?restB458
  case hyB458 => (intro W hW; (try dsimp only at hW); go_simp; try with_reducible rfl)
  try simp only [Act.put, List.setIfInBounds_toArray, List.set_cons_zero, List.set_cons_succ]
  refine takeH 8 (oi := ⟨some 116, _, _, _, _, _⟩) (v := ?_) rfl (by kernel_rfl) (by kernel_rfl) (by kernel_rfl) (fun _ _ _ h => h) (Or.inl ⟨by rfl, ?hyB459⟩) hSB ?restB459
  case hyB459 => (intro W hW; (try dsimp only at hW); go_simp; try with_reducible rfl)
  try simp only [Act.put, List.setIfInBounds_toArray, List.set_cons_zero, List.set_cons_succ]
  refine takeH 9 (oi := ⟨some 117, _, _, _, _, _⟩) (v := ?_) rfl (by kernel_rfl) (by kernel_rfl) (by kernel_rfl) (fun _ _ _ h => h) (Or.inl ⟨by rfl, ?hyB460⟩) hSB ?restB460
  case hyB460 => (intro W hW; (try dsimp only at hW); go_simp; try with_reducible rfl)
  try simp only [Act.put, List.setIfInBounds_toArray, List.set_cons_zero, List.set_cons_succ]
  refine takeH 10 (oi := ⟨some 118, _, _, _, _, _⟩) (v := ?_) rfl (by kernel_rfl) (by kernel_rfl) (by kernel_rfl) (fun _ _ _ h => h) (Or.inl ⟨by rfl, ?hyB461⟩) hSB ?restB461
  case hyB461 => (intro W hW; (try dsimp only at hW); go_simp; try with_reducible rfl)
  try simp only [Act.put, List.setIfInBounds_toArray, List.set_cons_zero, List.set_cons_succ]
  refine takeH 11 (oi := ⟨some 119, _, _, _, _, _⟩) (v := ?_) rfl (by kernel_rfl) (by kernel_rfl) (by kernel_rfl) (fun _ _ _ h => h) (Or.inl ⟨by rfl, ?hyB462⟩) hSB ?restB462
  case hyB462 => (intro W hW; (try dsimp only at hW); go_simp; try with_reducible rfl)
  try simp only [Act.put, List.setIfInBounds_toArray, List.set_cons_zero, List.set_cons_succ]
  refine takeH 12 (oi := ⟨some 120, _, _, _, _, _⟩) (v := ?_) rfl (by kernel_rfl) (by kernel_rfl) (by kernel_rfl) (fun _ _ _ h => h) (Or.inl ⟨by rfl, ?hyB463⟩) hSB ?restB463
  case hyB463 => (intro W hW; (try dsimp only at hW); go_simp; try with_reducible rfl)
  try simp only [Act.put, List.setIfInBounds_toArray, List.set_cons_zero, List.set_cons_succ]
  refine takeH 13 (oi := ⟨some 121, _, _, _, _, _⟩) (v := ?_) rfl (by kernel_rfl) (by kernel_rfl) (by kernel_rfl) (fun _ _ _ h => h) (Or.inl ⟨by rfl, ?hyB464⟩) hSB ?restB464
  case hyB464 => (intro W hW; (try dsimp only at hW); go_simp; try with_reducible rfl)
  try simp only [Act.put, List.setIfInBounds_toArray, List.set_cons_zero, List.set_cons_succ]
  refine takeH 14 (oi := ⟨some 122, _, _, _, _, _⟩) (v := ?_) rfl (by kernel_rfl) (by kernel_rfl) (by kernel_rfl) (fun _ _ _ h => h) (Or.inl ⟨by rfl, ?hyB465⟩) hSB ?restB465
  case hyB465 => (intro W hW; (try dsimp only at hW); go_simp; try with_reducible rfl)
  try simp only [Act.put, List.setIfInBounds_toArray, List.set_cons_zero, List.set_cons_succ]
  refine takeH 15 (oi := ⟨some 123, _, _, _, _, _⟩) (v := ?_) rfl (by kernel_rfl) (by kernel_rfl) (by kernel_rfl) (fun _ _ _ h => h) (Or.inl ⟨by rfl, ?hyB466⟩) hSB ?restB466
  case hyB466 => (intro W hW; (try dsimp only at hW); go_simp; try with_reducible rfl)
  try simp only [Act.put, List.setIfInBounds_toArray, List.set_cons_zero, List.set_cons_succ]
  refine takeH 16 (oi := ⟨some 124, _, _, _, _, _⟩) (v := ?_) rfl (by kernel_rfl) (by kernel_rfl) (by kernel_rfl) (fun _ _ _ h => h) (Or.inl ⟨by rfl, ?hyB467⟩) hSB ?restB467
  case hyB467 => (intro W hW; (try dsimp only at hW); go_simp; try with_reducible rfl)
  try simp only [Act.put, List.setIfInBounds_toArray, List.set_cons_zero, List.set_cons_succ]
  refine one (i := 17) (by kernel_rfl) ?_
  refine wpOp_wanted rfl (by rfl) fun K hK => ?_
  go_simp
  with_reducible refine (hStr _ _).mono ?_
  rintro e wB468 ⟨rfl, hb⟩
  have SB468 : Below w1.heap.size w1 wB468 := hSB.trans (hb.mono hSB.size)
  clear hb
  refine hK _ _ ⟨SB468, ?_⟩
  clear hK K
  try simp only [Act.put, List.setIfInBounds_toArray, List.set_cons_zero, List.set_cons_succ]
  refine takeH 18 (oi := ⟨some 126, _, _, _, _, _⟩) (v := ?_) rfl (by kernel_rfl) (by kernel_rfl) (by kernel_rfl) (fun _ _ _ h => h) (Or.inl ⟨by rfl, ?hyB469⟩) SB468 ?restB469
  case hyB469 => (intro W hW; (try dsimp only at hW); go_simp; try with_reducible rfl)
  try simp only [Act.put, List.setIfInBounds_toArray, List.set_cons_zero, List.set_cons_succ]
  refine takeH 19 (oi := ⟨some 127, _, _, _, _, _⟩) (v := ?_) rfl (by kernel_rfl) (by kernel_rfl) (by kernel_rfl) (fun _ _ _ h => h) (Or.inl ⟨by rfl, ?hyB470⟩) SB468 ?restB470
  case hyB470 => (intro W hW; (try dsimp only at hW); go_simp; try with_reducible rfl)
  try simp only [Act.put, List.setIfInBounds_toArray, List.set_cons_zero, List.set_cons_succ]
  refine takeH 20 (oi := ⟨some 128, _, _, _, _, _⟩) (v := ?_) rfl (by kernel_rfl) (by kernel_rfl) (by kernel_rfl) (fun _ _ _ h => h) (Or.inl ⟨by rfl, ?hyB471⟩) SB468 ?restB471
  case hyB471 => (intro W hW; (try dsimp only at hW); go_simp; try with_reducible rfl)
  try simp only [Act.put, List.setIfInBounds_toArray, List.set_cons_zero, List.set_cons_succ]
  refine wpAnyH_done (by kernel_rfl) ?_ _
  clear caB0 caB1 caB2
  have D13 := Lib.hid (D12.out.on SB468)
  generalize wB468 = W4 at D13 ⊢
  have u0 := (D13.out.blk _ (List.mem_cons_of_mem _ (List.mem_cons_of_mem _ (List.mem_cons_of_mem _ (List.mem_cons_of_mem _ (List.mem_cons_self)))))).2.cell 0 _ rfl; have uz0 := (D13.out.blk _ (List.mem_cons_of_mem _ (List.mem_cons_of_mem _ (List.mem_cons_of_mem _ (List.mem_cons_of_mem _ (List.mem_cons_self)))))).2.frozen 0; have u1 := (D13.out.blk _ (List.mem_cons_of_mem _ (List.mem_cons_of_mem _ (List.mem_cons_of_mem _ (List.mem_cons_of_mem _ (List.mem_cons_self)))))).2.cell 1 _ rfl; have uz1 := (D13.out.blk _ (List.mem_cons_of_mem _ (List.mem_cons_of_mem _ (List.mem_cons_of_mem _ (List.mem_cons_of_mem _ (List.mem_cons_self)))))).2.frozen 1; have u2 := (D13.out.blk _ (List.mem_cons_of_mem _ (List.mem_cons_of_mem _ (List.mem_cons_of_mem _ (List.mem_cons_of_mem _ (List.mem_cons_self)))))).2.cell 2 _ rfl; have uz2 := (D13.out.blk _ (List.mem_cons_of_mem _ (List.mem_cons_of_mem _ (List.mem_cons_of_mem _ (List.mem_cons_of_mem _ (List.mem_cons_self)))))).2.frozen 2; have ult := (D13.out).bl (List.mem_cons_of_mem _ (List.mem_cons_of_mem _ (List.mem_cons_of_mem _ (List.mem_cons_of_mem _ (List.mem_cons_self))))); have q0 := (D13.out.blk _ (List.mem_cons_of_mem _ (List.mem_cons_of_mem _ (List.mem_cons_of_mem _ (List.mem_cons_of_mem _ (List.mem_cons_of_mem _ (List.mem_cons_self))))))).2.cell 0 _ rfl; have qz0 := (D13.out.blk _ (List.mem_cons_of_mem _ (List.mem_cons_of_mem _ (List.mem_cons_of_mem _ (List.mem_cons_of_mem _ (List.mem_cons_of_mem _ (List.mem_cons_self))))))).2.frozen 0; have q1 := (D13.out.blk _ (List.mem_cons_of_mem _ (List.mem_cons_of_mem _ (List.mem_cons_of_mem _ (List.mem_cons_of_mem _ (List.mem_cons_of_mem _ (List.mem_cons_self))))))).2.cell 1 _ rfl; have qz1 := (D13.out.blk _ (List.mem_cons_of_mem _ (List.mem_cons_of_mem _ (List.mem_cons_of_mem _ (List.mem_cons_of_mem _ (List.mem_cons_of_mem _ (List.mem_cons_self))))))).2.frozen 1; have q2 := (D13.out.blk _ (List.mem_cons_of_mem _ (List.mem_cons_of_mem _ (List.mem_cons_of_mem _ (List.mem_cons_of_mem _ (List.mem_cons_of_mem _ (List.mem_cons_self))))))).2.cell 2 _ rfl; have qz2 := (D13.out.blk _ (List.mem_cons_of_mem _ (List.mem_cons_of_mem _ (List.mem_cons_of_mem _ (List.mem_cons_of_mem _ (List.mem_cons_of_mem _ (List.mem_cons_self))))))).2.frozen 2; have qlt := (D13.out).bl (List.mem_cons_of_mem _ (List.mem_cons_of_mem _ (List.mem_cons_of_mem _ (List.mem_cons_of_mem _ (List.mem_cons_of_mem _ (List.mem_cons_self))))))
  go_upto_region 19 with (first | (go_at_call 46; go_loud (with_reducible refine (E4.out _ (T0.out.on (D13.out).bel)).mono ?_; rintro e wn14 ⟨rfl, hb⟩; have D14 := Lib.hid ((D13.out).on hb); clear hb)) | (go_at_call 55; go_loud (with_reducible refine (hStr _ _).mono ?_; rintro e wn15 ⟨rfl, hb⟩; have D15 := Lib.hid ((D14.out.new 32 [.int .i64 0, .int .i64 0, .string ⟨#[]⟩]).on hb); clear hb)) | (go_at_call 56; go_loud (with_reducible refine (ON.out _ (T0.out.on (D15.out).bel)).mono ?_; rintro e wn16 ⟨rfl, hb⟩; have D16 := Lib.hid ((D15.out).on hb); clear hb)))
  have D17 := Lib.hid (D16.out.new 32 [.int .i64 2, .int .i64 (S.size : Int), .string ⟨#[]⟩])
  obtain ⟨w5, hw5⟩ : ∃ z, z = wn16.alloc (.cells #[.int .i64 2, .int .i64 (S.size : Int), .string ⟨#[]⟩] 32) := ⟨_, rfl⟩
  obtain ⟨x24, hx24⟩ : ∃ z, z = wn16.heap.size := ⟨_, rfl⟩
  rw [← hw5] at D17
  rw [← hx24] at D17
  simp only [← hw5, ← hx24]
  clear hw5 hx24
  have hBE : Below w5.heap.size w5 ({ w5 with drawn := w5.drawn + 1 } : World) := ⟨rfl, rfl, rfl, Nat.le_refl _, fun _ _ => rfl⟩
  refine wp_region_held (S := Below w5.heap.size w5) (by kernel_rfl) ?_
  have hSE := hBE
  generalize ({ w5 with drawn := w5.drawn + 1 } : World) = wE at hSE hBE ⊢
  have hleE := D17.out.bel.size
  have hslE := hSE.size
  have naE0 : ∀ W, Below w5.heap.size w5 W → W.cell? ⟨x24, 0, none⟩ = some (.int .i64 2) := fun W hW => ((D17.out.on hW).blk _ (List.mem_cons_self)).2.cell 0 _ rfl
  have naE1 : ∀ W, Below w5.heap.size w5 W → W.cell? ⟨x24, 1, none⟩ = some (.int .i64 (S.size : Int)) := fun W hW => ((D17.out.on hW).blk _ (List.mem_cons_self)).2.cell 1 _ rfl
  have naE2 : ∀ W, Below w5.heap.size w5 W → W.cell? ⟨x24, 2, none⟩ = some (.string ⟨#[]⟩) := fun W hW => ((D17.out.on hW).blk _ (List.mem_cons_self)).2.cell 2 _ rfl
  refine takeH 0 (oi := ⟨some 147, _, _, _, _, _⟩) (v := ?_) rfl (by kernel_rfl) (by kernel_rfl) (by kernel_rfl) (fun _ _ _ h => h) (Or.inl ⟨by rfl, ?hyE472⟩) hSE ?restE472
  case hyE472 => (intro W hW; (try dsimp only at hW); go_simp; try with_reducible rfl)
  try simp only [Act.put, List.setIfInBounds_toArray, List.set_cons_zero, List.set_cons_succ]
  refine takeH 1 (oi := ⟨some 148, _, _, _, _, _⟩) (v := ?_) rfl (by kernel_rfl) (by kernel_rfl) (by kernel_rfl) (fun _ _ _ h => h) (Or.inl ⟨by rfl, ?hyE473⟩) hSE ?restE473
  case hyE473 => (intro W hW; (try dsimp only at hW); go_simp; try with_reducible rfl)
  try simp only [Act.put, List.setIfInBounds_toArray, List.set_cons_zero, List.set_cons_succ]
  refine takeH 2 (oi := ⟨some 149, _, _, _, _, _⟩) (v := ?_) rfl (by kernel_rfl) (by kernel_rfl) (by kernel_rfl) (fun _ _ _ h => h) (Or.inl ⟨by rfl, ?hyE474⟩) hSE ?restE474
  case hyE474 => (intro W hW; (try dsimp only at hW); go_simp; try with_reducible rfl)
  try simp only [Act.put, List.setIfInBounds_toArray, List.set_cons_zero, List.set_cons_succ]
  refine takeH 3 (oi := ⟨some 150, _, _, _, _, _⟩) (v := ?_) rfl (by kernel_rfl) (by kernel_rfl) (by kernel_rfl) (fun _ _ _ h => h) (Or.inl ⟨by rfl, ?hyE475⟩) hSE ?restE475
  case hyE475 => (intro W hW; (try dsimp only at hW); go_simp; try with_reducible rfl)
  try simp only [Act.put, List.setIfInBounds_toArray, List.set_cons_zero, List.set_cons_succ]
  refine takeH 4 (oi := ⟨some 151, _, _, _, _, _⟩) (v := ?_) rfl (by kernel_rfl) (by kernel_rfl) (by kernel_rfl) (fun _ _ _ h => h) (Or.inl ⟨by rfl, ?hyE476⟩) hSE ?restE476
  case hyE476 => (intro W hW; (try dsimp only at hW); go_simp; try with_reducible rfl)
  try simp only [Act.put, List.setIfInBounds_toArray, List.set_cons_zero, List.set_cons_succ]
  refine takeH 5 (oi := ⟨some 152, _, _, _, _, _⟩) (v := ?_) rfl (by kernel_rfl) (by kernel_rfl) (by kernel_rfl) (fun _ _ _ h => h) (Or.inl ⟨by rfl, ?hyE477⟩) hSE ?restE477
  case hyE477 => (intro W hW; (try dsimp only at hW); go_simp; try with_reducible rfl)
  try simp only [Act.put, List.setIfInBounds_toArray, List.set_cons_zero, List.set_cons_succ]
  refine takeH 6 (oi := ⟨some 153, _, _, _, _, _⟩) (v := ?_) rfl (by kernel_rfl) (by kernel_rfl) (by kernel_rfl) (fun _ _ _ h => h) (Or.inl ⟨by rfl, ?hyE478⟩) hSE ?restE478
  case hyE478 => (intro W hW; (try dsimp only at hW); go_simp; try with_reducible rfl)
  try simp only [Act.put, List.setIfInBounds_toArray, List.set_cons_zero, List.set_cons_succ]
  refine takeH 7 (oi := ⟨some 154, _, _, _, _, _⟩) (v := ?_) rfl (by kernel_rfl) (by kernel_rfl) (by kernel_rfl) (fun _ _ _ h => h) (Or.inl ⟨by rfl, ?hyE479⟩) hSE ?restE479
  case hyE479 => (intro W hW; (try dsimp only at hW); go_simp; try with_reducible rfl)
  try simp only [Act.put, List.setIfInBounds_toArray, List.set_cons_zero, List.set_cons_succ]
  refine takeH 8 (oi := ⟨some 155, _, _, _, _, _⟩) (v := ?_) rfl (by kernel_rfl) (by kernel_rfl) (by kernel_rfl) (fun _ _ _ h => h) (Or.inl ⟨by rfl, ?hyE480⟩) hSE ?restE480
  case hyE480 => (intro W hW; (try dsimp only at hW); go_simp; try with_reducible rfl)
  try simp only [Act.put, List.setIfInBounds_toArray, List.set_cons_zero, List.set_cons_succ]
  refine takeH 9 (oi := ⟨some 156, _, _, _, _, _⟩) (v := ?_) rfl (by kernel_rfl) (by kernel_rfl) (by kernel_rfl) (fun _ _ _ h => h) (Or.inl ⟨by rfl, ?hyE481⟩) hSE ?restE481
  case hyE481 => (intro W hW; (try dsimp only at hW); go_simp; try with_reducible rfl)
  try simp only [Act.put, List.setIfInBounds_toArray, List.set_cons_zero, List.set_cons_succ]
  refine takeH 10 (oi := ⟨some 157, _, _, _, _, _⟩) (v := ?_) rfl (by kernel_rfl) (by kernel_rfl) (by kernel_rfl) (fun _ _ _ h => h) (Or.inl ⟨by rfl, ?hyE482⟩) hSE ?restE482
  case hyE482 => (intro W hW; (try dsimp only at hW); go_simp; try with_reducible rfl)
  try simp only [Act.put, List.setIfInBounds_toArray, List.set_cons_zero, List.set_cons_succ]
  refine takeH 11 (oi := ⟨some 158, _, _, _, _, _⟩) (v := ?_) rfl (by kernel_rfl) (by kernel_rfl) (by kernel_rfl) (fun _ _ _ h => h) (Or.inl ⟨by rfl, ?hyE483⟩) hSE ?restE483
  case hyE483 => (intro W hW; (try dsimp only at hW); go_simp; try with_reducible rfl)
  try simp only [Act.put, List.setIfInBounds_toArray, List.set_cons_zero, List.set_cons_succ]
  refine takeH 12 (oi := ⟨some 159, _, _, _, _, _⟩) (v := ?_) rfl (by kernel_rfl) (by kernel_rfl) (by kernel_rfl) (fun _ _ _ h => h) (Or.inl ⟨by rfl, ?hyE484⟩) hSE ?restE484
  case hyE484 => (intro W hW; (try dsimp only at hW); go_simp; try with_reducible rfl)
  try simp only [Act.put, List.setIfInBounds_toArray, List.set_cons_zero, List.set_cons_succ]
  refine takeH 13 (oi := ⟨some 160, _, _, _, _, _⟩) (v := ?_) rfl (by kernel_rfl) (by kernel_rfl) (by kernel_rfl) (fun _ _ _ h => h) (Or.inl ⟨by rfl, ?hyE485⟩) hSE ?restE485
  case hyE485 => (intro W hW; (try dsimp only at hW); go_simp; try with_reducible rfl)
  try simp only [Act.put, List.setIfInBounds_toArray, List.set_cons_zero, List.set_cons_succ]
  refine takeH 14 (oi := ⟨some 161, _, _, _, _, _⟩) (v := ?_) rfl (by kernel_rfl) (by kernel_rfl) (by kernel_rfl) (fun _ _ _ h => h) (Or.inl ⟨by rfl, ?hyE486⟩) hSE ?restE486
  case hyE486 => (intro W hW; (try dsimp only at hW); go_simp; try with_reducible rfl)
  try simp only [Act.put, List.setIfInBounds_toArray, List.set_cons_zero, List.set_cons_succ]
  refine takeH 15 (oi := ⟨some 162, _, _, _, _, _⟩) (v := ?_) rfl (by kernel_rfl) (by kernel_rfl) (by kernel_rfl) (fun _ _ _ h => h) (Or.inl ⟨by rfl, ?hyE487⟩) hSE ?restE487
  case hyE487 => (intro W hW; (try dsimp only at hW); go_simp; try with_reducible rfl)
  try simp only [Act.put, List.setIfInBounds_toArray, List.set_cons_zero, List.set_cons_succ]
  refine takeH 16 (oi := ⟨some 163, _, _, _, _, _⟩) (v := ?_) rfl (by kernel_rfl) (by kernel_rfl) (by kernel_rfl) (fun _ _ _ h => h) (Or.inl ⟨by rfl, ?hyE488⟩) hSE ?restE488
  case hyE488 => (intro W hW; (try dsimp only at hW); go_simp; try with_reducible rfl)
  try simp only [Act.put, List.setIfInBounds_toArray, List.set_cons_zero, List.set_cons_succ]
  refine takeH 17 (oi := ⟨some 164, _, _, _, _, _⟩) (v := ?_) rfl (by kernel_rfl) (by kernel_rfl) (by kernel_rfl) (fun _ _ _ h => h) (Or.inl ⟨by rfl, ?hyE489⟩) hSE ?restE489
  case hyE489 => (intro W hW; (try dsimp only at hW); go_simp; try with_reducible rfl)
  try simp only [Act.put, List.setIfInBounds_toArray, List.set_cons_zero, List.set_cons_succ]
  refine takeH 18 (oi := ⟨some 165, _, _, _, _, _⟩) (v := ?_) rfl (by kernel_rfl) (by kernel_rfl) (by kernel_rfl) (fun _ _ _ h => h) (Or.inl ⟨by rfl, ?hyE490⟩) hSE ?restE490
  case hyE490 => (intro W hW; (try dsimp only at hW); go_simp; try with_reducible rfl)
  try simp only [Act.put, List.setIfInBounds_toArray, List.set_cons_zero, List.set_cons_succ]
  refine takeH 19 (oi := ⟨some 166, _, _, _, _, _⟩) (v := ?_) rfl (by kernel_rfl) (by kernel_rfl) (by kernel_rfl) (fun _ _ _ h => h) (Or.inl ⟨by rfl, ?hyE491⟩) hSE ?restE491
  case hyE491 => (intro W hW; (try dsimp only at hW); go_simp; try with_reducible rfl)
  try simp only [Act.put, List.setIfInBounds_toArray, List.set_cons_zero, List.set_cons_succ]
  refine takeH 20 (oi := ⟨some 167, _, _, _, _, _⟩) (v := ?_) rfl (by kernel_rfl) (by kernel_rfl) (by kernel_rfl) (fun _ _ _ h => h) (Or.inl ⟨by rfl, ?hyE492⟩) hSE ?restE492
  case hyE492 => (intro W hW; (try dsimp only at hW); go_simp; try with_reducible rfl)
  try simp only [Act.put, List.setIfInBounds_toArray, List.set_cons_zero, List.set_cons_succ]
  refine takeH 21 (oi := ⟨some 168, _, _, _, _, _⟩) (v := ?_) rfl (by kernel_rfl) (by kernel_rfl) (by kernel_rfl) (fun _ _ _ h => h) (Or.inl ⟨by rfl, ?hyE493⟩) hSE ?restE493
  case hyE493 => (intro W hW; (try dsimp only at hW); go_simp; try with_reducible rfl)
  try simp only [Act.put, List.setIfInBounds_toArray, List.set_cons_zero, List.set_cons_succ]
  refine takeH 22 (oi := ⟨some 169, _, _, _, _, _⟩) (v := ?_) rfl (by kernel_rfl) (by kernel_rfl) (by kernel_rfl) (fun _ _ _ h => h) (Or.inl ⟨by rfl, ?hyE494⟩) hSE ?restE494
  case hyE494 => (intro W hW; (try dsimp only at hW); go_simp; try with_reducible rfl)
  try simp only [Act.put, List.setIfInBounds_toArray, List.set_cons_zero, List.set_cons_succ]
  refine takeH 23 (oi := ⟨some 170, _, _, _, _, _⟩) (v := ?_) rfl (by kernel_rfl) (by kernel_rfl) (by kernel_rfl) (fun _ _ _ h => h) (Or.inl ⟨by rfl, ?hyE495⟩) hSE ?restE495
  case hyE495 => (intro W hW; (try dsimp only at hW); go_simp; try with_reducible rfl)
  try simp only [Act.put, List.setIfInBounds_toArray, List.set_cons_zero, List.set_cons_succ]
  refine takeH 24 (oi := ⟨some 171, _, _, _, _, _⟩) (v := ?_) rfl (by kernel_rfl) (by kernel_rfl) (by kernel_rfl) (fun _ _ _ h => h) (Or.inl ⟨by rfl, ?hyE496⟩) hSE ?restE496
  case hyE496 => (intro W hW; (try dsimp only at hW); go_simp; try with_reducible rfl)
  try simp only [Act.put, List.setIfInBounds_toArray, List.set_cons_zero, List.set_cons_succ]
  refine one (i := 25) (by kernel_rfl) ?_
  refine wpOp_wanted rfl (by rfl) fun K hK => ?_
  go_simp
  with_reducible refine (hInt _ _).mono ?_
  rintro e wE497 ⟨rfl, hb⟩
  have SE497 : Below w5.heap.size w5 wE497 := hSE.trans (hb.mono hSE.size)
  clear hb
  refine hK _ _ ⟨SE497, ?_⟩
  clear hK K
  try simp only [Act.put, List.setIfInBounds_toArray, List.set_cons_zero, List.set_cons_succ]
  refine takeH 26 (oi := ⟨some 173, _, _, _, _, _⟩) (v := ?_) rfl (by kernel_rfl) (by kernel_rfl) (by kernel_rfl) (fun _ _ _ h => h) (Or.inl ⟨by rfl, ?hyE498⟩) SE497 ?restE498
  case hyE498 => (intro W hW; (try dsimp only at hW); go_simp; try with_reducible rfl)
  try simp only [Act.put, List.setIfInBounds_toArray, List.set_cons_zero, List.set_cons_succ]
  refine takeH 27 (oi := ⟨some 174, _, _, _, _, _⟩) (v := ?_) rfl (by kernel_rfl) (by kernel_rfl) (by kernel_rfl) (fun _ _ _ h => h) (Or.inl ⟨by rfl, ?hyE499⟩) SE497 ?restE499
  case hyE499 => (intro W hW; (try dsimp only at hW); go_simp; try with_reducible rfl)
  try simp only [Act.put, List.setIfInBounds_toArray, List.set_cons_zero, List.set_cons_succ]
  refine takeH 28 (oi := ⟨some 6, _, _, _, _, _⟩) (v := ?_) rfl (by kernel_rfl) (by kernel_rfl) (by kernel_rfl) (fun _ _ _ h => h) (Or.inl ⟨by rfl, ?hyE500⟩) SE497 ?restE500
  case hyE500 => (intro W hW; (try dsimp only at hW); go_simp; try with_reducible rfl)
  try simp only [Act.put, List.setIfInBounds_toArray, List.set_cons_zero, List.set_cons_succ]
  refine wpAnyH_done (by kernel_rfl) ?_ _
  clear naE0 naE1 naE2
  go_wp2_with fail
  go_ret
  exact ⟨rfl, (D17.out.on SE497).bel⟩
set_option maxHeartbeats 16000000 in
set_option maxRecDepth 20000 in
theorem nu33 (m op : Int) (k0 n0 : Int) (s0 : ByteArray) (k1 n1 : Int) (s1 : ByteArray) (x y : Int) (z2 : Bool) (S T : ByteArray) (y1 y2 : Int) (y3 : ByteArray) (y4 : Int) (hg : ∀ b W, Blk W b 32 [.int .i64 k0, .int .i64 n0, .string s0, .int .i64 k1, .int .i64 n1, .string s1] → Calls Tryd.prog 44 #[.slice (some ⟨b, 0, none⟩) 2 2] W fun e w' => e = .returned (.bool false) ∧ Below W.heap.size W w') (hop : wrap64 (1 + (wrap64 m).tmod 10) = op) (hx : numberF k0 n0 s0 = some (x, true)) (hy : numberF k1 n1 s1 = some (y, false)) (d1 : doF op k0 n0 s0 k1 n1 s1 0 = some (0, 0, ⟨#[]⟩, 18)) (d2 : doF op 2 x ⟨#[]⟩ 2 y ⟨#[]⟩ 0 = some (y1, y2, y3, y4)) (hs : stringF k0 n0 s0 = some (S, false)) (ht : stringF k1 n1 s1 = some (T, z2)) (d3 : doF 11 k0 n0 s0 k1 n1 s1 ((S.size : Int) + (T.size : Int)) = some (0, 0, ⟨#[]⟩, 18)) (d4 : doF 11 k0 n0 s0 k1 n1 s1 ((S.size : Int) + (T.size : Int) - 1) = some (0, 0, ⟨#[]⟩, 18)) (o1 : oneF 23 3 0 S = some (2, (S.size : Int), ⟨#[]⟩, 0)) (hw1 : IntKind.i64.wrap ((S.size : Int) + (T.size : Int)) = (S.size : Int) + (T.size : Int)) (hw2 : IntKind.i64.wrap ((S.size : Int) + (T.size : Int) - 1) = (S.size : Int) + (T.size : Int) - 1) (hv1 : wrap64 ((S.size : Int) + (T.size : Int)) = (S.size : Int) + (T.size : Int)) (hv2 : wrap64 ((S.size : Int) + (T.size : Int) - 1) = (S.size : Int) + (T.size : Int) - 1) (hz2 : (9223372036854775807 < S.size + T.size) = False) (w : World) (hT : Tab w) : Calls Tryd.prog 10 #[.int .u8 m, .agg #[.int .i64 k0, .int .i64 n0, .string s0], .agg #[.int .i64 k1, .int .i64 n1, .string s1]] w fun e w' => e = .returned (.bool true) ∧ Below w.heap.size w w' := by
  have T0 := Lib.hid hT
  have D0 := Lib.hid (OD.start2 w 32 [.int .i64 k0, .int .i64 n0, .string s0] [.int .i64 k1, .int .i64 n1, .string s1])
  have AL := Lib.hid (fun W hW => alive_calls true W hW rfl)
  have GR := Lib.hid hg
  have NX := Lib.hid (fun W hW => number_calls k0 n0 s0 x true W hW hx)
  have NY := Lib.hid (fun W hW => number_calls k1 n1 s1 y false W hW hy)
  have E1 := Lib.hid (fun W hW => do_calls op k0 n0 s0 k1 n1 s1 0 (0) (0) (⟨#[]⟩) (18) W hW d1)
  have E2 := Lib.hid (fun W hW => do_calls op 2 x ⟨#[]⟩ 2 y ⟨#[]⟩ 0 (y1) (y2) (y3) (y4) W hW d2)
  have SX := Lib.hid (fun W hW => string_calls k0 n0 s0 S false W hW hs)
  have SY := Lib.hid (fun W hW => string_calls k1 n1 s1 T z2 W hW ht)
  have E3 := Lib.hid (fun W hW => do_calls 11 k0 n0 s0 k1 n1 s1 ((S.size : Int) + (T.size : Int)) (0) (0) (⟨#[]⟩) (18) W hW d3)
  have E4 := Lib.hid (fun W hW => do_calls 11 k0 n0 s0 k1 n1 s1 ((S.size : Int) + (T.size : Int) - 1) (0) (0) (⟨#[]⟩) (18) W hW d4)
  have ON := Lib.hid (fun W hW => one_calls 23 3 0 S 2 (S.size : Int) ⟨#[]⟩ 0 W hW o1)
  clear hT hg hx hy d1 d2 hs ht d3 d4 o1
  go_enter Tryd.func10, Tryd.ntmps10
  go_upto_region 15 with (first | (go_at_call 43; go_loud (with_reducible refine (AL.out _ (T0.out.on D0.out.bel)).mono ?_; rintro e wn1 ⟨rfl, hb⟩; have D1 := Lib.hid ((D0.out).on hb); clear hb; have u0 := (D1.out.blk _ (List.mem_cons_self)).2.cell 0 _ rfl; have uz0 := (D1.out.blk _ (List.mem_cons_self)).2.frozen 0; have u1 := (D1.out.blk _ (List.mem_cons_self)).2.cell 1 _ rfl; have uz1 := (D1.out.blk _ (List.mem_cons_self)).2.frozen 1; have u2 := (D1.out.blk _ (List.mem_cons_self)).2.cell 2 _ rfl; have uz2 := (D1.out.blk _ (List.mem_cons_self)).2.frozen 2; have ult := (D1.out).bl (List.mem_cons_self); have q0 := (D1.out.blk _ (List.mem_cons_of_mem _ (List.mem_cons_self))).2.cell 0 _ rfl; have qz0 := (D1.out.blk _ (List.mem_cons_of_mem _ (List.mem_cons_self))).2.frozen 0; have q1 := (D1.out.blk _ (List.mem_cons_of_mem _ (List.mem_cons_self))).2.cell 1 _ rfl; have qz1 := (D1.out.blk _ (List.mem_cons_of_mem _ (List.mem_cons_self))).2.frozen 1; have q2 := (D1.out.blk _ (List.mem_cons_of_mem _ (List.mem_cons_self))).2.cell 2 _ rfl; have qz2 := (D1.out.blk _ (List.mem_cons_of_mem _ (List.mem_cons_self))).2.frozen 2; have qlt := (D1.out).bl (List.mem_cons_of_mem _ (List.mem_cons_self)))) | (go_at_call 44; go_loud (with_reducible refine (GR.out _ _ (Blk.new _ [.int .i64 k0, .int .i64 n0, .string s0, .int .i64 k1, .int .i64 n1, .string s1] 32)).mono ?_; rintro e wn2 ⟨rfl, hb⟩; have D2 := Lib.hid ((D1.out.new 32 [.int .i64 k0, .int .i64 n0, .string s0, .int .i64 k1, .int .i64 n1, .string s1]).on hb); clear hb; have u0 := (D2.out.blk _ (List.mem_cons_of_mem _ (List.mem_cons_self))).2.cell 0 _ rfl; have uz0 := (D2.out.blk _ (List.mem_cons_of_mem _ (List.mem_cons_self))).2.frozen 0; have u1 := (D2.out.blk _ (List.mem_cons_of_mem _ (List.mem_cons_self))).2.cell 1 _ rfl; have uz1 := (D2.out.blk _ (List.mem_cons_of_mem _ (List.mem_cons_self))).2.frozen 1; have u2 := (D2.out.blk _ (List.mem_cons_of_mem _ (List.mem_cons_self))).2.cell 2 _ rfl; have uz2 := (D2.out.blk _ (List.mem_cons_of_mem _ (List.mem_cons_self))).2.frozen 2; have ult := (D2.out).bl (List.mem_cons_of_mem _ (List.mem_cons_self)); have q0 := (D2.out.blk _ (List.mem_cons_of_mem _ (List.mem_cons_of_mem _ (List.mem_cons_self)))).2.cell 0 _ rfl; have qz0 := (D2.out.blk _ (List.mem_cons_of_mem _ (List.mem_cons_of_mem _ (List.mem_cons_self)))).2.frozen 0; have q1 := (D2.out.blk _ (List.mem_cons_of_mem _ (List.mem_cons_of_mem _ (List.mem_cons_self)))).2.cell 1 _ rfl; have qz1 := (D2.out.blk _ (List.mem_cons_of_mem _ (List.mem_cons_of_mem _ (List.mem_cons_self)))).2.frozen 1; have q2 := (D2.out.blk _ (List.mem_cons_of_mem _ (List.mem_cons_of_mem _ (List.mem_cons_self)))).2.cell 2 _ rfl; have qz2 := (D2.out.blk _ (List.mem_cons_of_mem _ (List.mem_cons_of_mem _ (List.mem_cons_self)))).2.frozen 2; have qlt := (D2.out).bl (List.mem_cons_of_mem _ (List.mem_cons_of_mem _ (List.mem_cons_self))))) | (go_at_call 52; go_loud (with_reducible refine (NX.out _ (T0.out.on (D2.out).bel)).mono ?_; rintro e wn3 ⟨rfl, hb⟩; have D3 := Lib.hid ((D2.out).on hb); clear hb; have u0 := (D3.out.blk _ (List.mem_cons_of_mem _ (List.mem_cons_self))).2.cell 0 _ rfl; have uz0 := (D3.out.blk _ (List.mem_cons_of_mem _ (List.mem_cons_self))).2.frozen 0; have u1 := (D3.out.blk _ (List.mem_cons_of_mem _ (List.mem_cons_self))).2.cell 1 _ rfl; have uz1 := (D3.out.blk _ (List.mem_cons_of_mem _ (List.mem_cons_self))).2.frozen 1; have u2 := (D3.out.blk _ (List.mem_cons_of_mem _ (List.mem_cons_self))).2.cell 2 _ rfl; have uz2 := (D3.out.blk _ (List.mem_cons_of_mem _ (List.mem_cons_self))).2.frozen 2; have ult := (D3.out).bl (List.mem_cons_of_mem _ (List.mem_cons_self)); have q0 := (D3.out.blk _ (List.mem_cons_of_mem _ (List.mem_cons_of_mem _ (List.mem_cons_self)))).2.cell 0 _ rfl; have qz0 := (D3.out.blk _ (List.mem_cons_of_mem _ (List.mem_cons_of_mem _ (List.mem_cons_self)))).2.frozen 0; have q1 := (D3.out.blk _ (List.mem_cons_of_mem _ (List.mem_cons_of_mem _ (List.mem_cons_self)))).2.cell 1 _ rfl; have qz1 := (D3.out.blk _ (List.mem_cons_of_mem _ (List.mem_cons_of_mem _ (List.mem_cons_self)))).2.frozen 1; have q2 := (D3.out.blk _ (List.mem_cons_of_mem _ (List.mem_cons_of_mem _ (List.mem_cons_self)))).2.cell 2 _ rfl; have qz2 := (D3.out.blk _ (List.mem_cons_of_mem _ (List.mem_cons_of_mem _ (List.mem_cons_self)))).2.frozen 2; have qlt := (D3.out).bl (List.mem_cons_of_mem _ (List.mem_cons_of_mem _ (List.mem_cons_self))))) | (go_at_call 52; go_loud (with_reducible refine (NY.out _ (T0.out.on (D3.out).bel)).mono ?_; rintro e wn4 ⟨rfl, hb⟩; have D4 := Lib.hid ((D3.out).on hb); clear hb; have u0 := (D4.out.blk _ (List.mem_cons_of_mem _ (List.mem_cons_self))).2.cell 0 _ rfl; have uz0 := (D4.out.blk _ (List.mem_cons_of_mem _ (List.mem_cons_self))).2.frozen 0; have u1 := (D4.out.blk _ (List.mem_cons_of_mem _ (List.mem_cons_self))).2.cell 1 _ rfl; have uz1 := (D4.out.blk _ (List.mem_cons_of_mem _ (List.mem_cons_self))).2.frozen 1; have u2 := (D4.out.blk _ (List.mem_cons_of_mem _ (List.mem_cons_self))).2.cell 2 _ rfl; have uz2 := (D4.out.blk _ (List.mem_cons_of_mem _ (List.mem_cons_self))).2.frozen 2; have ult := (D4.out).bl (List.mem_cons_of_mem _ (List.mem_cons_self)); have q0 := (D4.out.blk _ (List.mem_cons_of_mem _ (List.mem_cons_of_mem _ (List.mem_cons_self)))).2.cell 0 _ rfl; have qz0 := (D4.out.blk _ (List.mem_cons_of_mem _ (List.mem_cons_of_mem _ (List.mem_cons_self)))).2.frozen 0; have q1 := (D4.out.blk _ (List.mem_cons_of_mem _ (List.mem_cons_of_mem _ (List.mem_cons_self)))).2.cell 1 _ rfl; have qz1 := (D4.out.blk _ (List.mem_cons_of_mem _ (List.mem_cons_of_mem _ (List.mem_cons_self)))).2.frozen 1; have q2 := (D4.out.blk _ (List.mem_cons_of_mem _ (List.mem_cons_of_mem _ (List.mem_cons_self)))).2.cell 2 _ rfl; have qz2 := (D4.out.blk _ (List.mem_cons_of_mem _ (List.mem_cons_of_mem _ (List.mem_cons_self)))).2.frozen 2; have qlt := (D4.out).bl (List.mem_cons_of_mem _ (List.mem_cons_of_mem _ (List.mem_cons_self))))) | (go_at_call 46; go_loud (with_reducible refine (E1.out _ (T0.out.on (D4.out).bel)).mono ?_; rintro e wn5 ⟨rfl, hb⟩; have D5 := Lib.hid ((D4.out).on hb); clear hb)) | (go_at_call 53; go_loud (with_reducible refine (hInt x _).mono ?_; rintro e wn6 ⟨rfl, hb⟩; have D6 := Lib.hid ((D5.out.new 32 [.int .i64 0, .int .i64 0, .string ⟨#[]⟩]).on hb); clear hb)) | (go_at_call 53; go_loud (with_reducible refine (hInt y _).mono ?_; rintro e wn7 ⟨rfl, hb⟩; have D7 := Lib.hid ((D6.out).on hb); clear hb)) | (go_at_call 46; go_loud (with_reducible refine (E2.out _ (T0.out.on (D7.out).bel)).mono ?_; rintro e wn8 ⟨rfl, hb⟩; have D8 := Lib.hid ((D7.out).on hb); clear hb; have r0 := (D8.out.blk _ (List.mem_cons_self)).2.cell 0 _ rfl; have rz0 := (D8.out.blk _ (List.mem_cons_self)).2.frozen 0; have r1 := (D8.out.blk _ (List.mem_cons_self)).2.cell 1 _ rfl; have rz1 := (D8.out.blk _ (List.mem_cons_self)).2.frozen 1; have r2 := (D8.out.blk _ (List.mem_cons_self)).2.cell 2 _ rfl; have rz2 := (D8.out.blk _ (List.mem_cons_self)).2.frozen 2; have rlt := (D8.out).bl (List.mem_cons_self); have u0 := (D8.out.blk _ (List.mem_cons_of_mem _ (List.mem_cons_of_mem _ (List.mem_cons_self)))).2.cell 0 _ rfl; have uz0 := (D8.out.blk _ (List.mem_cons_of_mem _ (List.mem_cons_of_mem _ (List.mem_cons_self)))).2.frozen 0; have u1 := (D8.out.blk _ (List.mem_cons_of_mem _ (List.mem_cons_of_mem _ (List.mem_cons_self)))).2.cell 1 _ rfl; have uz1 := (D8.out.blk _ (List.mem_cons_of_mem _ (List.mem_cons_of_mem _ (List.mem_cons_self)))).2.frozen 1; have u2 := (D8.out.blk _ (List.mem_cons_of_mem _ (List.mem_cons_of_mem _ (List.mem_cons_self)))).2.cell 2 _ rfl; have uz2 := (D8.out.blk _ (List.mem_cons_of_mem _ (List.mem_cons_of_mem _ (List.mem_cons_self)))).2.frozen 2; have ult := (D8.out).bl (List.mem_cons_of_mem _ (List.mem_cons_of_mem _ (List.mem_cons_self))); have q0 := (D8.out.blk _ (List.mem_cons_of_mem _ (List.mem_cons_of_mem _ (List.mem_cons_of_mem _ (List.mem_cons_self))))).2.cell 0 _ rfl; have qz0 := (D8.out.blk _ (List.mem_cons_of_mem _ (List.mem_cons_of_mem _ (List.mem_cons_of_mem _ (List.mem_cons_self))))).2.frozen 0; have q1 := (D8.out.blk _ (List.mem_cons_of_mem _ (List.mem_cons_of_mem _ (List.mem_cons_of_mem _ (List.mem_cons_self))))).2.cell 1 _ rfl; have qz1 := (D8.out.blk _ (List.mem_cons_of_mem _ (List.mem_cons_of_mem _ (List.mem_cons_of_mem _ (List.mem_cons_self))))).2.frozen 1; have q2 := (D8.out.blk _ (List.mem_cons_of_mem _ (List.mem_cons_of_mem _ (List.mem_cons_of_mem _ (List.mem_cons_self))))).2.cell 2 _ rfl; have qz2 := (D8.out.blk _ (List.mem_cons_of_mem _ (List.mem_cons_of_mem _ (List.mem_cons_of_mem _ (List.mem_cons_self))))).2.frozen 2; have qlt := (D8.out).bl (List.mem_cons_of_mem _ (List.mem_cons_of_mem _ (List.mem_cons_of_mem _ (List.mem_cons_self)))))) | (go_at_call 54; go_loud (with_reducible refine (SX.out _ (T0.out.on (D8.out.new 32 [.int .i64 y1, .int .i64 y2, .string y3]).bel)).mono ?_; rintro e wn9 ⟨rfl, hb⟩; have D9 := Lib.hid ((D8.out.new 32 [.int .i64 y1, .int .i64 y2, .string y3]).on hb); clear hb; have u0 := (D9.out.blk _ (List.mem_cons_of_mem _ (List.mem_cons_of_mem _ (List.mem_cons_of_mem _ (List.mem_cons_self))))).2.cell 0 _ rfl; have uz0 := (D9.out.blk _ (List.mem_cons_of_mem _ (List.mem_cons_of_mem _ (List.mem_cons_of_mem _ (List.mem_cons_self))))).2.frozen 0; have u1 := (D9.out.blk _ (List.mem_cons_of_mem _ (List.mem_cons_of_mem _ (List.mem_cons_of_mem _ (List.mem_cons_self))))).2.cell 1 _ rfl; have uz1 := (D9.out.blk _ (List.mem_cons_of_mem _ (List.mem_cons_of_mem _ (List.mem_cons_of_mem _ (List.mem_cons_self))))).2.frozen 1; have u2 := (D9.out.blk _ (List.mem_cons_of_mem _ (List.mem_cons_of_mem _ (List.mem_cons_of_mem _ (List.mem_cons_self))))).2.cell 2 _ rfl; have uz2 := (D9.out.blk _ (List.mem_cons_of_mem _ (List.mem_cons_of_mem _ (List.mem_cons_of_mem _ (List.mem_cons_self))))).2.frozen 2; have ult := (D9.out).bl (List.mem_cons_of_mem _ (List.mem_cons_of_mem _ (List.mem_cons_of_mem _ (List.mem_cons_self)))); have q0 := (D9.out.blk _ (List.mem_cons_of_mem _ (List.mem_cons_of_mem _ (List.mem_cons_of_mem _ (List.mem_cons_of_mem _ (List.mem_cons_self)))))).2.cell 0 _ rfl; have qz0 := (D9.out.blk _ (List.mem_cons_of_mem _ (List.mem_cons_of_mem _ (List.mem_cons_of_mem _ (List.mem_cons_of_mem _ (List.mem_cons_self)))))).2.frozen 0; have q1 := (D9.out.blk _ (List.mem_cons_of_mem _ (List.mem_cons_of_mem _ (List.mem_cons_of_mem _ (List.mem_cons_of_mem _ (List.mem_cons_self)))))).2.cell 1 _ rfl; have qz1 := (D9.out.blk _ (List.mem_cons_of_mem _ (List.mem_cons_of_mem _ (List.mem_cons_of_mem _ (List.mem_cons_of_mem _ (List.mem_cons_self)))))).2.frozen 1; have q2 := (D9.out.blk _ (List.mem_cons_of_mem _ (List.mem_cons_of_mem _ (List.mem_cons_of_mem _ (List.mem_cons_of_mem _ (List.mem_cons_self)))))).2.cell 2 _ rfl; have qz2 := (D9.out.blk _ (List.mem_cons_of_mem _ (List.mem_cons_of_mem _ (List.mem_cons_of_mem _ (List.mem_cons_of_mem _ (List.mem_cons_self)))))).2.frozen 2; have qlt := (D9.out).bl (List.mem_cons_of_mem _ (List.mem_cons_of_mem _ (List.mem_cons_of_mem _ (List.mem_cons_of_mem _ (List.mem_cons_self))))))) | (go_at_call 54; go_loud (with_reducible refine (SY.out _ (T0.out.on (D9.out).bel)).mono ?_; rintro e wn10 ⟨rfl, hb⟩; have D10 := Lib.hid ((D9.out).on hb); clear hb; have u0 := (D10.out.blk _ (List.mem_cons_of_mem _ (List.mem_cons_of_mem _ (List.mem_cons_of_mem _ (List.mem_cons_self))))).2.cell 0 _ rfl; have uz0 := (D10.out.blk _ (List.mem_cons_of_mem _ (List.mem_cons_of_mem _ (List.mem_cons_of_mem _ (List.mem_cons_self))))).2.frozen 0; have u1 := (D10.out.blk _ (List.mem_cons_of_mem _ (List.mem_cons_of_mem _ (List.mem_cons_of_mem _ (List.mem_cons_self))))).2.cell 1 _ rfl; have uz1 := (D10.out.blk _ (List.mem_cons_of_mem _ (List.mem_cons_of_mem _ (List.mem_cons_of_mem _ (List.mem_cons_self))))).2.frozen 1; have u2 := (D10.out.blk _ (List.mem_cons_of_mem _ (List.mem_cons_of_mem _ (List.mem_cons_of_mem _ (List.mem_cons_self))))).2.cell 2 _ rfl; have uz2 := (D10.out.blk _ (List.mem_cons_of_mem _ (List.mem_cons_of_mem _ (List.mem_cons_of_mem _ (List.mem_cons_self))))).2.frozen 2; have ult := (D10.out).bl (List.mem_cons_of_mem _ (List.mem_cons_of_mem _ (List.mem_cons_of_mem _ (List.mem_cons_self)))); have q0 := (D10.out.blk _ (List.mem_cons_of_mem _ (List.mem_cons_of_mem _ (List.mem_cons_of_mem _ (List.mem_cons_of_mem _ (List.mem_cons_self)))))).2.cell 0 _ rfl; have qz0 := (D10.out.blk _ (List.mem_cons_of_mem _ (List.mem_cons_of_mem _ (List.mem_cons_of_mem _ (List.mem_cons_of_mem _ (List.mem_cons_self)))))).2.frozen 0; have q1 := (D10.out.blk _ (List.mem_cons_of_mem _ (List.mem_cons_of_mem _ (List.mem_cons_of_mem _ (List.mem_cons_of_mem _ (List.mem_cons_self)))))).2.cell 1 _ rfl; have qz1 := (D10.out.blk _ (List.mem_cons_of_mem _ (List.mem_cons_of_mem _ (List.mem_cons_of_mem _ (List.mem_cons_of_mem _ (List.mem_cons_self)))))).2.frozen 1; have q2 := (D10.out.blk _ (List.mem_cons_of_mem _ (List.mem_cons_of_mem _ (List.mem_cons_of_mem _ (List.mem_cons_of_mem _ (List.mem_cons_self)))))).2.cell 2 _ rfl; have qz2 := (D10.out.blk _ (List.mem_cons_of_mem _ (List.mem_cons_of_mem _ (List.mem_cons_of_mem _ (List.mem_cons_of_mem _ (List.mem_cons_self)))))).2.frozen 2; have qlt := (D10.out).bl (List.mem_cons_of_mem _ (List.mem_cons_of_mem _ (List.mem_cons_of_mem _ (List.mem_cons_of_mem _ (List.mem_cons_self))))))) | (go_at_call 46; go_loud (with_reducible refine (E3.out _ (T0.out.on (D10.out).bel)).mono ?_; rintro e wn11 ⟨rfl, hb⟩; have D11 := Lib.hid ((D10.out).on hb); clear hb)))
  have hu := Tryd.underlying32
  have D12 := Lib.hid (D11.out.new 32 [.int .i64 0, .int .i64 0, .string ⟨#[]⟩])
  obtain ⟨w1, hw1⟩ : ∃ z, z = wn11.alloc (.cells #[.int .i64 0, .int .i64 0, .string ⟨#[]⟩] 32) := ⟨_, rfl⟩
  obtain ⟨x20, hx20⟩ : ∃ z, z = wn11.heap.size := ⟨_, rfl⟩
  rw [← hw1] at D12
  rw [← hx20] at D12
  simp only [← hw1, ← hx20]
  clear hw1 hx20
  have hBB : Below w1.heap.size w1 ({ w1 with drawn := w1.drawn + 1 } : World) := ⟨rfl, rfl, rfl, Nat.le_refl _, fun _ _ => rfl⟩
  refine wp_region_held (S := Below w1.heap.size w1) (by kernel_rfl) ?_
  have hSB := hBB
  generalize ({ w1 with drawn := w1.drawn + 1 } : World) = wB at hSB hBB ⊢
  have hleB := D12.out.bel.size
  have hslB := hSB.size
  have caB0 : ∀ W, Below w1.heap.size w1 W → W.cell? ⟨x20, 0, none⟩ = some (.int .i64 0) := fun W hW => ((D12.out.on hW).blk _ (List.mem_cons_self)).2.cell 0 _ rfl
  have caB1 : ∀ W, Below w1.heap.size w1 W → W.cell? ⟨x20, 1, none⟩ = some (.int .i64 0) := fun W hW => ((D12.out.on hW).blk _ (List.mem_cons_self)).2.cell 1 _ rfl
  have caB2 : ∀ W, Below w1.heap.size w1 W → W.cell? ⟨x20, 2, none⟩ = some (.string ⟨#[]⟩) := fun W hW => ((D12.out.on hW).blk _ (List.mem_cons_self)).2.cell 2 _ rfl
  refine takeH 0 (oi := ⟨some 108, _, _, _, _, _⟩) (v := ?_) rfl (by kernel_rfl) (by kernel_rfl) (by kernel_rfl) (fun _ _ _ h => h) (Or.inl ⟨by rfl, ?hyB501⟩) hSB ?restB501
  case hyB501 => (intro W hW; (try dsimp only at hW); go_simp; try with_reducible rfl)
  try simp only [Act.put, List.setIfInBounds_toArray, List.set_cons_zero, List.set_cons_succ]
  refine takeH 1 (oi := ⟨some 109, _, _, _, _, _⟩) (v := ?_) rfl (by kernel_rfl) (by kernel_rfl) (by kernel_rfl) (fun _ _ _ h => h) (Or.inl ⟨by rfl, ?hyB502⟩) hSB ?restB502
  case hyB502 => (intro W hW; (try dsimp only at hW); go_simp; try with_reducible rfl)
  try simp only [Act.put, List.setIfInBounds_toArray, List.set_cons_zero, List.set_cons_succ]
  refine takeH 2 (oi := ⟨some 110, _, _, _, _, _⟩) (v := undef) rfl (by kernel_rfl) (by kernel_rfl) (by kernel_rfl) (fun _ _ _ h => h) (Or.inr ⟨by rfl, rfl⟩) hSB ?restB503
  try simp only [Act.put, List.setIfInBounds_toArray, List.set_cons_zero, List.set_cons_succ]
  refine takeH 3 (oi := ⟨some 111, _, _, _, _, _⟩) (v := ?_) rfl (by kernel_rfl) (by kernel_rfl) (by kernel_rfl) (fun _ _ _ h => h) (Or.inl ⟨by rfl, ?hyB504⟩) hSB ?restB504
  case hyB504 => (intro W hW; (try dsimp only at hW); go_simp; try with_reducible rfl)
  try simp only [Act.put, List.setIfInBounds_toArray, List.set_cons_zero, List.set_cons_succ]
  refine takeH 4 (oi := ⟨some 112, _, _, _, _, _⟩) (v := ?_) rfl (by kernel_rfl) (by kernel_rfl) (by kernel_rfl) (fun _ _ _ h => h) (Or.inl ⟨by rfl, ?hyB505⟩) hSB ?restB505
  case hyB505 => (intro W hW; (try dsimp only at hW); go_simp; try with_reducible rfl)
  try simp only [Act.put, List.setIfInBounds_toArray, List.set_cons_zero, List.set_cons_succ]
  refine takeH 5 (oi := ⟨some 113, _, _, _, _, _⟩) (v := ?_) rfl (by kernel_rfl) (by kernel_rfl) (by kernel_rfl) (fun _ _ _ h => h) (Or.inl ⟨by rfl, ?hyB506⟩) hSB ?restB506
  case hyB506 => (intro W hW; (try dsimp only at hW); go_simp; try with_reducible rfl)
  try simp only [Act.put, List.setIfInBounds_toArray, List.set_cons_zero, List.set_cons_succ]
  refine takeH 6 (oi := ⟨some 114, _, _, _, _, _⟩) (v := ?_) rfl (by kernel_rfl) (by kernel_rfl) (by kernel_rfl) (fun _ _ _ h => h) (Or.inl ⟨by rfl, ?hyB507⟩) hSB ?restB507
  case hyB507 => (intro W hW; (try dsimp only at hW); go_simp; try with_reducible rfl)
  try simp only [Act.put, List.setIfInBounds_toArray, List.set_cons_zero, List.set_cons_succ]
  refine takeH 7 (oi := ⟨some 115, _, _, _, _, _⟩) (v := ?_) rfl (by kernel_rfl) (by kernel_rfl) (by kernel_rfl) (fun _ _ _ h => h) (Or.inl ⟨by rfl, ?hyB508⟩) hSB ?restB508
  case hyB508 => (intro W hW; (try dsimp only at hW); go_simp; try with_reducible rfl)
  try simp only [Act.put, List.setIfInBounds_toArray, List.set_cons_zero, List.set_cons_succ]
  refine takeH 8 (oi := ⟨some 116, _, _, _, _, _⟩) (v := ?_) rfl (by kernel_rfl) (by kernel_rfl) (by kernel_rfl) (fun _ _ _ h => h) (Or.inl ⟨by rfl, ?hyB509⟩) hSB ?restB509
  case hyB509 => (intro W hW; (try dsimp only at hW); go_simp; try with_reducible rfl)
  try simp only [Act.put, List.setIfInBounds_toArray, List.set_cons_zero, List.set_cons_succ]
  refine takeH 9 (oi := ⟨some 117, _, _, _, _, _⟩) (v := ?_) rfl (by kernel_rfl) (by kernel_rfl) (by kernel_rfl) (fun _ _ _ h => h) (Or.inl ⟨by rfl, ?hyB510⟩) hSB ?restB510
  case hyB510 => (intro W hW; (try dsimp only at hW); go_simp; try with_reducible rfl)
  try simp only [Act.put, List.setIfInBounds_toArray, List.set_cons_zero, List.set_cons_succ]
  refine takeH 10 (oi := ⟨some 118, _, _, _, _, _⟩) (v := undef) rfl (by kernel_rfl) (by kernel_rfl) (by kernel_rfl) (fun _ _ _ h => h) (Or.inr ⟨by rfl, rfl⟩) hSB ?restB511
  try simp only [Act.put, List.setIfInBounds_toArray, List.set_cons_zero, List.set_cons_succ]
  refine takeH 11 (oi := ⟨some 119, _, _, _, _, _⟩) (v := ?_) rfl (by kernel_rfl) (by kernel_rfl) (by kernel_rfl) (fun _ _ _ h => h) (Or.inl ⟨by rfl, ?hyB512⟩) hSB ?restB512
  case hyB512 => (intro W hW; (try dsimp only at hW); go_simp; try with_reducible rfl)
  try simp only [Act.put, List.setIfInBounds_toArray, List.set_cons_zero, List.set_cons_succ]
  refine takeH 12 (oi := ⟨some 120, _, _, _, _, _⟩) (v := ?_) rfl (by kernel_rfl) (by kernel_rfl) (by kernel_rfl) (fun _ _ _ h => h) (Or.inl ⟨by rfl, ?hyB513⟩) hSB ?restB513
  case hyB513 => (intro W hW; (try dsimp only at hW); go_simp; try with_reducible rfl)
  try simp only [Act.put, List.setIfInBounds_toArray, List.set_cons_zero, List.set_cons_succ]
  refine takeH 13 (oi := ⟨some 121, _, _, _, _, _⟩) (v := undef) rfl (by kernel_rfl) (by kernel_rfl) (by kernel_rfl) (fun _ _ _ h => h) (Or.inr ⟨by rfl, rfl⟩) hSB ?restB514
  try simp only [Act.put, List.setIfInBounds_toArray, List.set_cons_zero, List.set_cons_succ]
  refine takeH 14 (oi := ⟨some 122, _, _, _, _, _⟩) (v := undef) rfl (by kernel_rfl) (by kernel_rfl) (by kernel_rfl) (fun _ _ _ h => h) (Or.inr ⟨by rfl, rfl⟩) hSB ?restB515
  try simp only [Act.put, List.setIfInBounds_toArray, List.set_cons_zero, List.set_cons_succ]
  refine takeH 15 (oi := ⟨some 123, _, _, _, _, _⟩) (v := undef) rfl (by kernel_rfl) (by kernel_rfl) (by kernel_rfl) (fun _ _ _ h => h) (Or.inr ⟨by rfl, rfl⟩) hSB ?restB516
  try simp only [Act.put, List.setIfInBounds_toArray, List.set_cons_zero, List.set_cons_succ]
  refine takeH 16 (oi := ⟨some 124, _, _, _, _, _⟩) (v := undef) rfl (by kernel_rfl) (by kernel_rfl) (by kernel_rfl) (fun _ _ _ h => h) (Or.inr ⟨by rfl, rfl⟩) hSB ?restB517
  try simp only [Act.put, List.setIfInBounds_toArray, List.set_cons_zero, List.set_cons_succ]
  refine takeH 17 (oi := ⟨some 125, _, _, _, _, _⟩) (v := undef) rfl (by kernel_rfl) (by kernel_rfl) (by kernel_rfl) (fun _ _ _ h => h) (Or.inr ⟨by rfl, rfl⟩) hSB ?restB518
  try simp only [Act.put, List.setIfInBounds_toArray, List.set_cons_zero, List.set_cons_succ]
  refine takeH 18 (oi := ⟨some 126, _, _, _, _, _⟩) (v := undef) rfl (by kernel_rfl) (by kernel_rfl) (by kernel_rfl) (fun _ _ _ h => h) (Or.inr ⟨by rfl, rfl⟩) hSB ?restB519
  try simp only [Act.put, List.setIfInBounds_toArray, List.set_cons_zero, List.set_cons_succ]
  refine takeH 19 (oi := ⟨some 127, _, _, _, _, _⟩) (v := ?_) rfl (by kernel_rfl) (by kernel_rfl) (by kernel_rfl) (fun _ _ _ h => h) (Or.inl ⟨by rfl, ?hyB520⟩) hSB ?restB520
  case hyB520 => (intro W hW; (try dsimp only at hW); go_simp; try with_reducible rfl)
  try simp only [Act.put, List.setIfInBounds_toArray, List.set_cons_zero, List.set_cons_succ]
  refine takeH 20 (oi := ⟨some 128, _, _, _, _, _⟩) (v := ?_) rfl (by kernel_rfl) (by kernel_rfl) (by kernel_rfl) (fun _ _ _ h => h) (Or.inl ⟨by rfl, ?hyB521⟩) hSB ?restB521
  case hyB521 => (intro W hW; (try dsimp only at hW); go_simp; try with_reducible rfl)
  try simp only [Act.put, List.setIfInBounds_toArray, List.set_cons_zero, List.set_cons_succ]
  refine wpAnyH_done (by kernel_rfl) ?_ _
  clear caB0 caB1 caB2
  have D13 := Lib.hid (D12.out.on hSB)
  generalize wB = W4 at D13 ⊢
  have u0 := (D13.out.blk _ (List.mem_cons_of_mem _ (List.mem_cons_of_mem _ (List.mem_cons_of_mem _ (List.mem_cons_of_mem _ (List.mem_cons_self)))))).2.cell 0 _ rfl; have uz0 := (D13.out.blk _ (List.mem_cons_of_mem _ (List.mem_cons_of_mem _ (List.mem_cons_of_mem _ (List.mem_cons_of_mem _ (List.mem_cons_self)))))).2.frozen 0; have u1 := (D13.out.blk _ (List.mem_cons_of_mem _ (List.mem_cons_of_mem _ (List.mem_cons_of_mem _ (List.mem_cons_of_mem _ (List.mem_cons_self)))))).2.cell 1 _ rfl; have uz1 := (D13.out.blk _ (List.mem_cons_of_mem _ (List.mem_cons_of_mem _ (List.mem_cons_of_mem _ (List.mem_cons_of_mem _ (List.mem_cons_self)))))).2.frozen 1; have u2 := (D13.out.blk _ (List.mem_cons_of_mem _ (List.mem_cons_of_mem _ (List.mem_cons_of_mem _ (List.mem_cons_of_mem _ (List.mem_cons_self)))))).2.cell 2 _ rfl; have uz2 := (D13.out.blk _ (List.mem_cons_of_mem _ (List.mem_cons_of_mem _ (List.mem_cons_of_mem _ (List.mem_cons_of_mem _ (List.mem_cons_self)))))).2.frozen 2; have ult := (D13.out).bl (List.mem_cons_of_mem _ (List.mem_cons_of_mem _ (List.mem_cons_of_mem _ (List.mem_cons_of_mem _ (List.mem_cons_self))))); have q0 := (D13.out.blk _ (List.mem_cons_of_mem _ (List.mem_cons_of_mem _ (List.mem_cons_of_mem _ (List.mem_cons_of_mem _ (List.mem_cons_of_mem _ (List.mem_cons_self))))))).2.cell 0 _ rfl; have qz0 := (D13.out.blk _ (List.mem_cons_of_mem _ (List.mem_cons_of_mem _ (List.mem_cons_of_mem _ (List.mem_cons_of_mem _ (List.mem_cons_of_mem _ (List.mem_cons_self))))))).2.frozen 0; have q1 := (D13.out.blk _ (List.mem_cons_of_mem _ (List.mem_cons_of_mem _ (List.mem_cons_of_mem _ (List.mem_cons_of_mem _ (List.mem_cons_of_mem _ (List.mem_cons_self))))))).2.cell 1 _ rfl; have qz1 := (D13.out.blk _ (List.mem_cons_of_mem _ (List.mem_cons_of_mem _ (List.mem_cons_of_mem _ (List.mem_cons_of_mem _ (List.mem_cons_of_mem _ (List.mem_cons_self))))))).2.frozen 1; have q2 := (D13.out.blk _ (List.mem_cons_of_mem _ (List.mem_cons_of_mem _ (List.mem_cons_of_mem _ (List.mem_cons_of_mem _ (List.mem_cons_of_mem _ (List.mem_cons_self))))))).2.cell 2 _ rfl; have qz2 := (D13.out.blk _ (List.mem_cons_of_mem _ (List.mem_cons_of_mem _ (List.mem_cons_of_mem _ (List.mem_cons_of_mem _ (List.mem_cons_of_mem _ (List.mem_cons_self))))))).2.frozen 2; have qlt := (D13.out).bl (List.mem_cons_of_mem _ (List.mem_cons_of_mem _ (List.mem_cons_of_mem _ (List.mem_cons_of_mem _ (List.mem_cons_of_mem _ (List.mem_cons_self))))))
  go_upto_region 19 with (first | (go_at_call 46; go_loud (with_reducible refine (E4.out _ (T0.out.on (D13.out).bel)).mono ?_; rintro e wn14 ⟨rfl, hb⟩; have D14 := Lib.hid ((D13.out).on hb); clear hb)) | (go_at_call 55; go_loud (with_reducible refine (hStr _ _).mono ?_; rintro e wn15 ⟨rfl, hb⟩; have D15 := Lib.hid ((D14.out.new 32 [.int .i64 0, .int .i64 0, .string ⟨#[]⟩]).on hb); clear hb)) | (go_at_call 56; go_loud (with_reducible refine (ON.out _ (T0.out.on (D15.out).bel)).mono ?_; rintro e wn16 ⟨rfl, hb⟩; have D16 := Lib.hid ((D15.out).on hb); clear hb)))
  have D17 := Lib.hid (D16.out.new 32 [.int .i64 2, .int .i64 (S.size : Int), .string ⟨#[]⟩])
  obtain ⟨w5, hw5⟩ : ∃ z, z = wn16.alloc (.cells #[.int .i64 2, .int .i64 (S.size : Int), .string ⟨#[]⟩] 32) := ⟨_, rfl⟩
  obtain ⟨x24, hx24⟩ : ∃ z, z = wn16.heap.size := ⟨_, rfl⟩
  rw [← hw5] at D17
  rw [← hx24] at D17
  simp only [← hw5, ← hx24]
  clear hw5 hx24
  have hBE : Below w5.heap.size w5 ({ w5 with drawn := w5.drawn + 1 } : World) := ⟨rfl, rfl, rfl, Nat.le_refl _, fun _ _ => rfl⟩
  refine wp_region_held (S := Below w5.heap.size w5) (by kernel_rfl) ?_
  have hSE := hBE
  generalize ({ w5 with drawn := w5.drawn + 1 } : World) = wE at hSE hBE ⊢
  have hleE := D17.out.bel.size
  have hslE := hSE.size
  have naE0 : ∀ W, Below w5.heap.size w5 W → W.cell? ⟨x24, 0, none⟩ = some (.int .i64 2) := fun W hW => ((D17.out.on hW).blk _ (List.mem_cons_self)).2.cell 0 _ rfl
  have naE1 : ∀ W, Below w5.heap.size w5 W → W.cell? ⟨x24, 1, none⟩ = some (.int .i64 (S.size : Int)) := fun W hW => ((D17.out.on hW).blk _ (List.mem_cons_self)).2.cell 1 _ rfl
  have naE2 : ∀ W, Below w5.heap.size w5 W → W.cell? ⟨x24, 2, none⟩ = some (.string ⟨#[]⟩) := fun W hW => ((D17.out.on hW).blk _ (List.mem_cons_self)).2.cell 2 _ rfl
  refine takeH 0 (oi := ⟨some 147, _, _, _, _, _⟩) (v := ?_) rfl (by kernel_rfl) (by kernel_rfl) (by kernel_rfl) (fun _ _ _ h => h) (Or.inl ⟨by rfl, ?hyE522⟩) hSE ?restE522
  case hyE522 => (intro W hW; (try dsimp only at hW); go_simp; try with_reducible rfl)
  try simp only [Act.put, List.setIfInBounds_toArray, List.set_cons_zero, List.set_cons_succ]
  refine takeH 1 (oi := ⟨some 148, _, _, _, _, _⟩) (v := ?_) rfl (by kernel_rfl) (by kernel_rfl) (by kernel_rfl) (fun _ _ _ h => h) (Or.inl ⟨by rfl, ?hyE523⟩) hSE ?restE523
  case hyE523 => (intro W hW; (try dsimp only at hW); go_simp; try with_reducible rfl)
  try simp only [Act.put, List.setIfInBounds_toArray, List.set_cons_zero, List.set_cons_succ]
  refine takeH 2 (oi := ⟨some 149, _, _, _, _, _⟩) (v := undef) rfl (by kernel_rfl) (by kernel_rfl) (by kernel_rfl) (fun _ _ _ h => h) (Or.inr ⟨by rfl, rfl⟩) hSE ?restE524
  try simp only [Act.put, List.setIfInBounds_toArray, List.set_cons_zero, List.set_cons_succ]
  refine takeH 3 (oi := ⟨some 150, _, _, _, _, _⟩) (v := ?_) rfl (by kernel_rfl) (by kernel_rfl) (by kernel_rfl) (fun _ _ _ h => h) (Or.inl ⟨by rfl, ?hyE525⟩) hSE ?restE525
  case hyE525 => (intro W hW; (try dsimp only at hW); go_simp; try with_reducible rfl)
  try simp only [Act.put, List.setIfInBounds_toArray, List.set_cons_zero, List.set_cons_succ]
  refine takeH 4 (oi := ⟨some 151, _, _, _, _, _⟩) (v := ?_) rfl (by kernel_rfl) (by kernel_rfl) (by kernel_rfl) (fun _ _ _ h => h) (Or.inl ⟨by rfl, ?hyE526⟩) hSE ?restE526
  case hyE526 => (intro W hW; (try dsimp only at hW); go_simp; try with_reducible rfl)
  try simp only [Act.put, List.setIfInBounds_toArray, List.set_cons_zero, List.set_cons_succ]
  refine takeH 5 (oi := ⟨some 152, _, _, _, _, _⟩) (v := ?_) rfl (by kernel_rfl) (by kernel_rfl) (by kernel_rfl) (fun _ _ _ h => h) (Or.inl ⟨by rfl, ?hyE527⟩) hSE ?restE527
  case hyE527 => (intro W hW; (try dsimp only at hW); go_simp; try with_reducible rfl)
  try simp only [Act.put, List.setIfInBounds_toArray, List.set_cons_zero, List.set_cons_succ]
  refine takeH 6 (oi := ⟨some 153, _, _, _, _, _⟩) (v := undef) rfl (by kernel_rfl) (by kernel_rfl) (by kernel_rfl) (fun _ _ _ h => h) (Or.inr ⟨by rfl, rfl⟩) hSE ?restE528
  try simp only [Act.put, List.setIfInBounds_toArray, List.set_cons_zero, List.set_cons_succ]
  refine takeH 7 (oi := ⟨some 154, _, _, _, _, _⟩) (v := undef) rfl (by kernel_rfl) (by kernel_rfl) (by kernel_rfl) (fun _ _ _ h => h) (Or.inr ⟨by rfl, rfl⟩) hSE ?restE529
  try simp only [Act.put, List.setIfInBounds_toArray, List.set_cons_zero, List.set_cons_succ]
  refine takeH 8 (oi := ⟨some 155, _, _, _, _, _⟩) (v := undef) rfl (by kernel_rfl) (by kernel_rfl) (by kernel_rfl) (fun _ _ _ h => h) (Or.inr ⟨by rfl, rfl⟩) hSE ?restE530
  try simp only [Act.put, List.setIfInBounds_toArray, List.set_cons_zero, List.set_cons_succ]
  refine takeH 9 (oi := ⟨some 156, _, _, _, _, _⟩) (v := undef) rfl (by kernel_rfl) (by kernel_rfl) (by kernel_rfl) (fun _ _ _ h => h) (Or.inr ⟨by rfl, rfl⟩) hSE ?restE531
  try simp only [Act.put, List.setIfInBounds_toArray, List.set_cons_zero, List.set_cons_succ]
  refine takeH 10 (oi := ⟨some 157, _, _, _, _, _⟩) (v := undef) rfl (by kernel_rfl) (by kernel_rfl) (by kernel_rfl) (fun _ _ _ h => h) (Or.inr ⟨by rfl, rfl⟩) hSE ?restE532
  try simp only [Act.put, List.setIfInBounds_toArray, List.set_cons_zero, List.set_cons_succ]
  refine takeH 11 (oi := ⟨some 158, _, _, _, _, _⟩) (v := undef) rfl (by kernel_rfl) (by kernel_rfl) (by kernel_rfl) (fun _ _ _ h => h) (Or.inr ⟨by rfl, rfl⟩) hSE ?restE533
  try simp only [Act.put, List.setIfInBounds_toArray, List.set_cons_zero, List.set_cons_succ]
  refine takeH 12 (oi := ⟨some 159, _, _, _, _, _⟩) (v := ?_) rfl (by kernel_rfl) (by kernel_rfl) (by kernel_rfl) (fun _ _ _ h => h) (Or.inl ⟨by rfl, ?hyE534⟩) hSE ?restE534
  case hyE534 => (intro W hW; (try dsimp only at hW); go_simp; try with_reducible rfl)
  try simp only [Act.put, List.setIfInBounds_toArray, List.set_cons_zero, List.set_cons_succ]
  refine takeH 13 (oi := ⟨some 160, _, _, _, _, _⟩) (v := ?_) rfl (by kernel_rfl) (by kernel_rfl) (by kernel_rfl) (fun _ _ _ h => h) (Or.inl ⟨by rfl, ?hyE535⟩) hSE ?restE535
  case hyE535 => (intro W hW; (try dsimp only at hW); go_simp; try with_reducible rfl)
  try simp only [Act.put, List.setIfInBounds_toArray, List.set_cons_zero, List.set_cons_succ]
  refine takeH 14 (oi := ⟨some 161, _, _, _, _, _⟩) (v := undef) rfl (by kernel_rfl) (by kernel_rfl) (by kernel_rfl) (fun _ _ _ h => h) (Or.inr ⟨by rfl, rfl⟩) hSE ?restE536
  try simp only [Act.put, List.setIfInBounds_toArray, List.set_cons_zero, List.set_cons_succ]
  refine takeH 15 (oi := ⟨some 162, _, _, _, _, _⟩) (v := undef) rfl (by kernel_rfl) (by kernel_rfl) (by kernel_rfl) (fun _ _ _ h => h) (Or.inr ⟨by rfl, rfl⟩) hSE ?restE537
  try simp only [Act.put, List.setIfInBounds_toArray, List.set_cons_zero, List.set_cons_succ]
  refine takeH 16 (oi := ⟨some 163, _, _, _, _, _⟩) (v := ?_) rfl (by kernel_rfl) (by kernel_rfl) (by kernel_rfl) (fun _ _ _ h => h) (Or.inl ⟨by rfl, ?hyE538⟩) hSE ?restE538
  case hyE538 => (intro W hW; (try dsimp only at hW); go_simp; try with_reducible rfl)
  try simp only [Act.put, List.setIfInBounds_toArray, List.set_cons_zero, List.set_cons_succ]
  refine takeH 17 (oi := ⟨some 164, _, _, _, _, _⟩) (v := ?_) rfl (by kernel_rfl) (by kernel_rfl) (by kernel_rfl) (fun _ _ _ h => h) (Or.inl ⟨by rfl, ?hyE539⟩) hSE ?restE539
  case hyE539 => (intro W hW; (try dsimp only at hW); go_simp; try with_reducible rfl)
  try simp only [Act.put, List.setIfInBounds_toArray, List.set_cons_zero, List.set_cons_succ]
  refine takeH 18 (oi := ⟨some 165, _, _, _, _, _⟩) (v := ?_) rfl (by kernel_rfl) (by kernel_rfl) (by kernel_rfl) (fun _ _ _ h => h) (Or.inl ⟨by rfl, ?hyE540⟩) hSE ?restE540
  case hyE540 => (intro W hW; (try dsimp only at hW); go_simp; try with_reducible rfl)
  try simp only [Act.put, List.setIfInBounds_toArray, List.set_cons_zero, List.set_cons_succ]
  refine takeH 19 (oi := ⟨some 166, _, _, _, _, _⟩) (v := ?_) rfl (by kernel_rfl) (by kernel_rfl) (by kernel_rfl) (fun _ _ _ h => h) (Or.inl ⟨by rfl, ?hyE541⟩) hSE ?restE541
  case hyE541 => (intro W hW; (try dsimp only at hW); go_simp; try with_reducible rfl)
  try simp only [Act.put, List.setIfInBounds_toArray, List.set_cons_zero, List.set_cons_succ]
  refine takeH 20 (oi := ⟨some 167, _, _, _, _, _⟩) (v := ?_) rfl (by kernel_rfl) (by kernel_rfl) (by kernel_rfl) (fun _ _ _ h => h) (Or.inl ⟨by rfl, ?hyE542⟩) hSE ?restE542
  case hyE542 => (intro W hW; (try dsimp only at hW); go_simp; try with_reducible rfl)
  try simp only [Act.put, List.setIfInBounds_toArray, List.set_cons_zero, List.set_cons_succ]
  refine takeH 21 (oi := ⟨some 168, _, _, _, _, _⟩) (v := ?_) rfl (by kernel_rfl) (by kernel_rfl) (by kernel_rfl) (fun _ _ _ h => h) (Or.inl ⟨by rfl, ?hyE543⟩) hSE ?restE543
  case hyE543 => (intro W hW; (try dsimp only at hW); go_simp; try with_reducible rfl)
  try simp only [Act.put, List.setIfInBounds_toArray, List.set_cons_zero, List.set_cons_succ]
  refine takeH 22 (oi := ⟨some 169, _, _, _, _, _⟩) (v := ?_) rfl (by kernel_rfl) (by kernel_rfl) (by kernel_rfl) (fun _ _ _ h => h) (Or.inl ⟨by rfl, ?hyE544⟩) hSE ?restE544
  case hyE544 => (intro W hW; (try dsimp only at hW); go_simp; try with_reducible rfl)
  try simp only [Act.put, List.setIfInBounds_toArray, List.set_cons_zero, List.set_cons_succ]
  refine takeH 23 (oi := ⟨some 170, _, _, _, _, _⟩) (v := ?_) rfl (by kernel_rfl) (by kernel_rfl) (by kernel_rfl) (fun _ _ _ h => h) (Or.inl ⟨by rfl, ?hyE545⟩) hSE ?restE545
  case hyE545 => (intro W hW; (try dsimp only at hW); go_simp; try with_reducible rfl)
  try simp only [Act.put, List.setIfInBounds_toArray, List.set_cons_zero, List.set_cons_succ]
  refine takeH 24 (oi := ⟨some 171, _, _, _, _, _⟩) (v := ?_) rfl (by kernel_rfl) (by kernel_rfl) (by kernel_rfl) (fun _ _ _ h => h) (Or.inl ⟨by rfl, ?hyE546⟩) hSE ?restE546
  case hyE546 => (intro W hW; (try dsimp only at hW); go_simp; try with_reducible rfl)
  try simp only [Act.put, List.setIfInBounds_toArray, List.set_cons_zero, List.set_cons_succ]
  refine one (i := 25) (by kernel_rfl) ?_
  refine wpOp_wanted rfl (by rfl) fun K hK => ?_
  go_simp
  with_reducible refine (hInt _ _).mono ?_
  rintro e wE547 ⟨rfl, hb⟩
  have SE547 : Below w5.heap.size w5 wE547 := hSE.trans (hb.mono hSE.size)
  clear hb
  refine hK _ _ ⟨SE547, ?_⟩
  clear hK K
  try simp only [Act.put, List.setIfInBounds_toArray, List.set_cons_zero, List.set_cons_succ]
  refine takeH 26 (oi := ⟨some 173, _, _, _, _, _⟩) (v := ?_) rfl (by kernel_rfl) (by kernel_rfl) (by kernel_rfl) (fun _ _ _ h => h) (Or.inl ⟨by rfl, ?hyE548⟩) SE547 ?restE548
  case hyE548 => (intro W hW; (try dsimp only at hW); go_simp; try with_reducible rfl)
  try simp only [Act.put, List.setIfInBounds_toArray, List.set_cons_zero, List.set_cons_succ]
  refine takeH 27 (oi := ⟨some 174, _, _, _, _, _⟩) (v := ?_) rfl (by kernel_rfl) (by kernel_rfl) (by kernel_rfl) (fun _ _ _ h => h) (Or.inl ⟨by rfl, ?hyE549⟩) SE547 ?restE549
  case hyE549 => (intro W hW; (try dsimp only at hW); go_simp; try with_reducible rfl)
  try simp only [Act.put, List.setIfInBounds_toArray, List.set_cons_zero, List.set_cons_succ]
  refine takeH 28 (oi := ⟨some 6, _, _, _, _, _⟩) (v := ?_) rfl (by kernel_rfl) (by kernel_rfl) (by kernel_rfl) (fun _ _ _ h => h) (Or.inl ⟨by rfl, ?hyE550⟩) SE547 ?restE550
  case hyE550 => (intro W hW; (try dsimp only at hW); go_simp; try with_reducible rfl)
  try simp only [Act.put, List.setIfInBounds_toArray, List.set_cons_zero, List.set_cons_succ]
  refine wpAnyH_done (by kernel_rfl) ?_ _
  clear naE0 naE1 naE2
  go_wp2_with fail
  go_ret
  exact ⟨rfl, (D17.out.on SE547).bel⟩
set_option maxHeartbeats 16000000 in
set_option maxRecDepth 20000 in
theorem nu34 (m op : Int) (k0 n0 : Int) (s0 : ByteArray) (k1 n1 : Int) (s1 : ByteArray) (x y : Int) (S T : ByteArray) (y1 y2 : Int) (y3 : ByteArray) (y4 : Int) (hg : ∀ b W, Blk W b 32 [.int .i64 k0, .int .i64 n0, .string s0, .int .i64 k1, .int .i64 n1, .string s1] → Calls Tryd.prog 44 #[.slice (some ⟨b, 0, none⟩) 2 2] W fun e w' => e = .returned (.bool false) ∧ Below W.heap.size W w') (hop : wrap64 (1 + (wrap64 m).tmod 10) = op) (hx : numberF k0 n0 s0 = some (x, true)) (hy : numberF k1 n1 s1 = some (y, false)) (d1 : doF op k0 n0 s0 k1 n1 s1 0 = some (0, 0, ⟨#[]⟩, 18)) (d2 : doF op 2 x ⟨#[]⟩ 2 y ⟨#[]⟩ 0 = some (y1, y2, y3, y4)) (hs : stringF k0 n0 s0 = some (S, true)) (ht : stringF k1 n1 s1 = some (T, false)) (d3 : doF 11 k0 n0 s0 k1 n1 s1 ((S.size : Int) + (T.size : Int)) = some (0, 0, ⟨#[]⟩, 18)) (d4 : doF 11 k0 n0 s0 k1 n1 s1 ((S.size : Int) + (T.size : Int) - 1) = some (0, 0, ⟨#[]⟩, 18)) (o1 : oneF 23 3 0 S = some (2, (S.size : Int), ⟨#[]⟩, 0)) (hw1 : IntKind.i64.wrap ((S.size : Int) + (T.size : Int)) = (S.size : Int) + (T.size : Int)) (hw2 : IntKind.i64.wrap ((S.size : Int) + (T.size : Int) - 1) = (S.size : Int) + (T.size : Int) - 1) (hv1 : wrap64 ((S.size : Int) + (T.size : Int)) = (S.size : Int) + (T.size : Int)) (hv2 : wrap64 ((S.size : Int) + (T.size : Int) - 1) = (S.size : Int) + (T.size : Int) - 1) (hz2 : (9223372036854775807 < S.size + T.size) = False) (w : World) (hT : Tab w) : Calls Tryd.prog 10 #[.int .u8 m, .agg #[.int .i64 k0, .int .i64 n0, .string s0], .agg #[.int .i64 k1, .int .i64 n1, .string s1]] w fun e w' => e = .returned (.bool true) ∧ Below w.heap.size w w' := by
  have T0 := Lib.hid hT
  have D0 := Lib.hid (OD.start2 w 32 [.int .i64 k0, .int .i64 n0, .string s0] [.int .i64 k1, .int .i64 n1, .string s1])
  have AL := Lib.hid (fun W hW => alive_calls true W hW rfl)
  have GR := Lib.hid hg
  have NX := Lib.hid (fun W hW => number_calls k0 n0 s0 x true W hW hx)
  have NY := Lib.hid (fun W hW => number_calls k1 n1 s1 y false W hW hy)
  have E1 := Lib.hid (fun W hW => do_calls op k0 n0 s0 k1 n1 s1 0 (0) (0) (⟨#[]⟩) (18) W hW d1)
  have E2 := Lib.hid (fun W hW => do_calls op 2 x ⟨#[]⟩ 2 y ⟨#[]⟩ 0 (y1) (y2) (y3) (y4) W hW d2)
  have SX := Lib.hid (fun W hW => string_calls k0 n0 s0 S true W hW hs)
  have SY := Lib.hid (fun W hW => string_calls k1 n1 s1 T false W hW ht)
  have E3 := Lib.hid (fun W hW => do_calls 11 k0 n0 s0 k1 n1 s1 ((S.size : Int) + (T.size : Int)) (0) (0) (⟨#[]⟩) (18) W hW d3)
  have E4 := Lib.hid (fun W hW => do_calls 11 k0 n0 s0 k1 n1 s1 ((S.size : Int) + (T.size : Int) - 1) (0) (0) (⟨#[]⟩) (18) W hW d4)
  have ON := Lib.hid (fun W hW => one_calls 23 3 0 S 2 (S.size : Int) ⟨#[]⟩ 0 W hW o1)
  clear hT hg hx hy d1 d2 hs ht d3 d4 o1
  go_enter Tryd.func10, Tryd.ntmps10
  go_upto_region 15 with (first | (go_at_call 43; go_loud (with_reducible refine (AL.out _ (T0.out.on D0.out.bel)).mono ?_; rintro e wn1 ⟨rfl, hb⟩; have D1 := Lib.hid ((D0.out).on hb); clear hb; have u0 := (D1.out.blk _ (List.mem_cons_self)).2.cell 0 _ rfl; have uz0 := (D1.out.blk _ (List.mem_cons_self)).2.frozen 0; have u1 := (D1.out.blk _ (List.mem_cons_self)).2.cell 1 _ rfl; have uz1 := (D1.out.blk _ (List.mem_cons_self)).2.frozen 1; have u2 := (D1.out.blk _ (List.mem_cons_self)).2.cell 2 _ rfl; have uz2 := (D1.out.blk _ (List.mem_cons_self)).2.frozen 2; have ult := (D1.out).bl (List.mem_cons_self); have q0 := (D1.out.blk _ (List.mem_cons_of_mem _ (List.mem_cons_self))).2.cell 0 _ rfl; have qz0 := (D1.out.blk _ (List.mem_cons_of_mem _ (List.mem_cons_self))).2.frozen 0; have q1 := (D1.out.blk _ (List.mem_cons_of_mem _ (List.mem_cons_self))).2.cell 1 _ rfl; have qz1 := (D1.out.blk _ (List.mem_cons_of_mem _ (List.mem_cons_self))).2.frozen 1; have q2 := (D1.out.blk _ (List.mem_cons_of_mem _ (List.mem_cons_self))).2.cell 2 _ rfl; have qz2 := (D1.out.blk _ (List.mem_cons_of_mem _ (List.mem_cons_self))).2.frozen 2; have qlt := (D1.out).bl (List.mem_cons_of_mem _ (List.mem_cons_self)))) | (go_at_call 44; go_loud (with_reducible refine (GR.out _ _ (Blk.new _ [.int .i64 k0, .int .i64 n0, .string s0, .int .i64 k1, .int .i64 n1, .string s1] 32)).mono ?_; rintro e wn2 ⟨rfl, hb⟩; have D2 := Lib.hid ((D1.out.new 32 [.int .i64 k0, .int .i64 n0, .string s0, .int .i64 k1, .int .i64 n1, .string s1]).on hb); clear hb; have u0 := (D2.out.blk _ (List.mem_cons_of_mem _ (List.mem_cons_self))).2.cell 0 _ rfl; have uz0 := (D2.out.blk _ (List.mem_cons_of_mem _ (List.mem_cons_self))).2.frozen 0; have u1 := (D2.out.blk _ (List.mem_cons_of_mem _ (List.mem_cons_self))).2.cell 1 _ rfl; have uz1 := (D2.out.blk _ (List.mem_cons_of_mem _ (List.mem_cons_self))).2.frozen 1; have u2 := (D2.out.blk _ (List.mem_cons_of_mem _ (List.mem_cons_self))).2.cell 2 _ rfl; have uz2 := (D2.out.blk _ (List.mem_cons_of_mem _ (List.mem_cons_self))).2.frozen 2; have ult := (D2.out).bl (List.mem_cons_of_mem _ (List.mem_cons_self)); have q0 := (D2.out.blk _ (List.mem_cons_of_mem _ (List.mem_cons_of_mem _ (List.mem_cons_self)))).2.cell 0 _ rfl; have qz0 := (D2.out.blk _ (List.mem_cons_of_mem _ (List.mem_cons_of_mem _ (List.mem_cons_self)))).2.frozen 0; have q1 := (D2.out.blk _ (List.mem_cons_of_mem _ (List.mem_cons_of_mem _ (List.mem_cons_self)))).2.cell 1 _ rfl; have qz1 := (D2.out.blk _ (List.mem_cons_of_mem _ (List.mem_cons_of_mem _ (List.mem_cons_self)))).2.frozen 1; have q2 := (D2.out.blk _ (List.mem_cons_of_mem _ (List.mem_cons_of_mem _ (List.mem_cons_self)))).2.cell 2 _ rfl; have qz2 := (D2.out.blk _ (List.mem_cons_of_mem _ (List.mem_cons_of_mem _ (List.mem_cons_self)))).2.frozen 2; have qlt := (D2.out).bl (List.mem_cons_of_mem _ (List.mem_cons_of_mem _ (List.mem_cons_self))))) | (go_at_call 52; go_loud (with_reducible refine (NX.out _ (T0.out.on (D2.out).bel)).mono ?_; rintro e wn3 ⟨rfl, hb⟩; have D3 := Lib.hid ((D2.out).on hb); clear hb; have u0 := (D3.out.blk _ (List.mem_cons_of_mem _ (List.mem_cons_self))).2.cell 0 _ rfl; have uz0 := (D3.out.blk _ (List.mem_cons_of_mem _ (List.mem_cons_self))).2.frozen 0; have u1 := (D3.out.blk _ (List.mem_cons_of_mem _ (List.mem_cons_self))).2.cell 1 _ rfl; have uz1 := (D3.out.blk _ (List.mem_cons_of_mem _ (List.mem_cons_self))).2.frozen 1; have u2 := (D3.out.blk _ (List.mem_cons_of_mem _ (List.mem_cons_self))).2.cell 2 _ rfl; have uz2 := (D3.out.blk _ (List.mem_cons_of_mem _ (List.mem_cons_self))).2.frozen 2; have ult := (D3.out).bl (List.mem_cons_of_mem _ (List.mem_cons_self)); have q0 := (D3.out.blk _ (List.mem_cons_of_mem _ (List.mem_cons_of_mem _ (List.mem_cons_self)))).2.cell 0 _ rfl; have qz0 := (D3.out.blk _ (List.mem_cons_of_mem _ (List.mem_cons_of_mem _ (List.mem_cons_self)))).2.frozen 0; have q1 := (D3.out.blk _ (List.mem_cons_of_mem _ (List.mem_cons_of_mem _ (List.mem_cons_self)))).2.cell 1 _ rfl; have qz1 := (D3.out.blk _ (List.mem_cons_of_mem _ (List.mem_cons_of_mem _ (List.mem_cons_self)))).2.frozen 1; have q2 := (D3.out.blk _ (List.mem_cons_of_mem _ (List.mem_cons_of_mem _ (List.mem_cons_self)))).2.cell 2 _ rfl; have qz2 := (D3.out.blk _ (List.mem_cons_of_mem _ (List.mem_cons_of_mem _ (List.mem_cons_self)))).2.frozen 2; have qlt := (D3.out).bl (List.mem_cons_of_mem _ (List.mem_cons_of_mem _ (List.mem_cons_self))))) | (go_at_call 52; go_loud (with_reducible refine (NY.out _ (T0.out.on (D3.out).bel)).mono ?_; rintro e wn4 ⟨rfl, hb⟩; have D4 := Lib.hid ((D3.out).on hb); clear hb; have u0 := (D4.out.blk _ (List.mem_cons_of_mem _ (List.mem_cons_self))).2.cell 0 _ rfl; have uz0 := (D4.out.blk _ (List.mem_cons_of_mem _ (List.mem_cons_self))).2.frozen 0; have u1 := (D4.out.blk _ (List.mem_cons_of_mem _ (List.mem_cons_self))).2.cell 1 _ rfl; have uz1 := (D4.out.blk _ (List.mem_cons_of_mem _ (List.mem_cons_self))).2.frozen 1; have u2 := (D4.out.blk _ (List.mem_cons_of_mem _ (List.mem_cons_self))).2.cell 2 _ rfl; have uz2 := (D4.out.blk _ (List.mem_cons_of_mem _ (List.mem_cons_self))).2.frozen 2; have ult := (D4.out).bl (List.mem_cons_of_mem _ (List.mem_cons_self)); have q0 := (D4.out.blk _ (List.mem_cons_of_mem _ (List.mem_cons_of_mem _ (List.mem_cons_self)))).2.cell 0 _ rfl; have qz0 := (D4.out.blk _ (List.mem_cons_of_mem _ (List.mem_cons_of_mem _ (List.mem_cons_self)))).2.frozen 0; have q1 := (D4.out.blk _ (List.mem_cons_of_mem _ (List.mem_cons_of_mem _ (List.mem_cons_self)))).2.cell 1 _ rfl; have qz1 := (D4.out.blk _ (List.mem_cons_of_mem _ (List.mem_cons_of_mem _ (List.mem_cons_self)))).2.frozen 1; have q2 := (D4.out.blk _ (List.mem_cons_of_mem _ (List.mem_cons_of_mem _ (List.mem_cons_self)))).2.cell 2 _ rfl; have qz2 := (D4.out.blk _ (List.mem_cons_of_mem _ (List.mem_cons_of_mem _ (List.mem_cons_self)))).2.frozen 2; have qlt := (D4.out).bl (List.mem_cons_of_mem _ (List.mem_cons_of_mem _ (List.mem_cons_self))))) | (go_at_call 46; go_loud (with_reducible refine (E1.out _ (T0.out.on (D4.out).bel)).mono ?_; rintro e wn5 ⟨rfl, hb⟩; have D5 := Lib.hid ((D4.out).on hb); clear hb)) | (go_at_call 53; go_loud (with_reducible refine (hInt x _).mono ?_; rintro e wn6 ⟨rfl, hb⟩; have D6 := Lib.hid ((D5.out.new 32 [.int .i64 0, .int .i64 0, .string ⟨#[]⟩]).on hb); clear hb)) | (go_at_call 53; go_loud (with_reducible refine (hInt y _).mono ?_; rintro e wn7 ⟨rfl, hb⟩; have D7 := Lib.hid ((D6.out).on hb); clear hb)) | (go_at_call 46; go_loud (with_reducible refine (E2.out _ (T0.out.on (D7.out).bel)).mono ?_; rintro e wn8 ⟨rfl, hb⟩; have D8 := Lib.hid ((D7.out).on hb); clear hb; have r0 := (D8.out.blk _ (List.mem_cons_self)).2.cell 0 _ rfl; have rz0 := (D8.out.blk _ (List.mem_cons_self)).2.frozen 0; have r1 := (D8.out.blk _ (List.mem_cons_self)).2.cell 1 _ rfl; have rz1 := (D8.out.blk _ (List.mem_cons_self)).2.frozen 1; have r2 := (D8.out.blk _ (List.mem_cons_self)).2.cell 2 _ rfl; have rz2 := (D8.out.blk _ (List.mem_cons_self)).2.frozen 2; have rlt := (D8.out).bl (List.mem_cons_self); have u0 := (D8.out.blk _ (List.mem_cons_of_mem _ (List.mem_cons_of_mem _ (List.mem_cons_self)))).2.cell 0 _ rfl; have uz0 := (D8.out.blk _ (List.mem_cons_of_mem _ (List.mem_cons_of_mem _ (List.mem_cons_self)))).2.frozen 0; have u1 := (D8.out.blk _ (List.mem_cons_of_mem _ (List.mem_cons_of_mem _ (List.mem_cons_self)))).2.cell 1 _ rfl; have uz1 := (D8.out.blk _ (List.mem_cons_of_mem _ (List.mem_cons_of_mem _ (List.mem_cons_self)))).2.frozen 1; have u2 := (D8.out.blk _ (List.mem_cons_of_mem _ (List.mem_cons_of_mem _ (List.mem_cons_self)))).2.cell 2 _ rfl; have uz2 := (D8.out.blk _ (List.mem_cons_of_mem _ (List.mem_cons_of_mem _ (List.mem_cons_self)))).2.frozen 2; have ult := (D8.out).bl (List.mem_cons_of_mem _ (List.mem_cons_of_mem _ (List.mem_cons_self))); have q0 := (D8.out.blk _ (List.mem_cons_of_mem _ (List.mem_cons_of_mem _ (List.mem_cons_of_mem _ (List.mem_cons_self))))).2.cell 0 _ rfl; have qz0 := (D8.out.blk _ (List.mem_cons_of_mem _ (List.mem_cons_of_mem _ (List.mem_cons_of_mem _ (List.mem_cons_self))))).2.frozen 0; have q1 := (D8.out.blk _ (List.mem_cons_of_mem _ (List.mem_cons_of_mem _ (List.mem_cons_of_mem _ (List.mem_cons_self))))).2.cell 1 _ rfl; have qz1 := (D8.out.blk _ (List.mem_cons_of_mem _ (List.mem_cons_of_mem _ (List.mem_cons_of_mem _ (List.mem_cons_self))))).2.frozen 1; have q2 := (D8.out.blk _ (List.mem_cons_of_mem _ (List.mem_cons_of_mem _ (List.mem_cons_of_mem _ (List.mem_cons_self))))).2.cell 2 _ rfl; have qz2 := (D8.out.blk _ (List.mem_cons_of_mem _ (List.mem_cons_of_mem _ (List.mem_cons_of_mem _ (List.mem_cons_self))))).2.frozen 2; have qlt := (D8.out).bl (List.mem_cons_of_mem _ (List.mem_cons_of_mem _ (List.mem_cons_of_mem _ (List.mem_cons_self)))))) | (go_at_call 54; go_loud (with_reducible refine (SX.out _ (T0.out.on (D8.out.new 32 [.int .i64 y1, .int .i64 y2, .string y3]).bel)).mono ?_; rintro e wn9 ⟨rfl, hb⟩; have D9 := Lib.hid ((D8.out.new 32 [.int .i64 y1, .int .i64 y2, .string y3]).on hb); clear hb; have u0 := (D9.out.blk _ (List.mem_cons_of_mem _ (List.mem_cons_of_mem _ (List.mem_cons_of_mem _ (List.mem_cons_self))))).2.cell 0 _ rfl; have uz0 := (D9.out.blk _ (List.mem_cons_of_mem _ (List.mem_cons_of_mem _ (List.mem_cons_of_mem _ (List.mem_cons_self))))).2.frozen 0; have u1 := (D9.out.blk _ (List.mem_cons_of_mem _ (List.mem_cons_of_mem _ (List.mem_cons_of_mem _ (List.mem_cons_self))))).2.cell 1 _ rfl; have uz1 := (D9.out.blk _ (List.mem_cons_of_mem _ (List.mem_cons_of_mem _ (List.mem_cons_of_mem _ (List.mem_cons_self))))).2.frozen 1; have u2 := (D9.out.blk _ (List.mem_cons_of_mem _ (List.mem_cons_of_mem _ (List.mem_cons_of_mem _ (List.mem_cons_self))))).2.cell 2 _ rfl; have uz2 := (D9.out.blk _ (List.mem_cons_of_mem _ (List.mem_cons_of_mem _ (List.mem_cons_of_mem _ (List.mem_cons_self))))).2.frozen 2; have ult := (D9.out).bl (List.mem_cons_of_mem _ (List.mem_cons_of_mem _ (List.mem_cons_of_mem _ (List.mem_cons_self)))); have q0 := (D9.out.blk _ (List.mem_cons_of_mem _ (List.mem_cons_of_mem _ (List.mem_cons_of_mem _ (List.mem_cons_of_mem _ (List.mem_cons_self)))))).2.cell 0 _ rfl; have qz0 := (D9.out.blk _ (List.mem_cons_of_mem _ (List.mem_cons_of_mem _ (List.mem_cons_of_mem _ (List.mem_cons_of_mem _ (List.mem_cons_self)))))).2.frozen 0; have q1 := (D9.out.blk _ (List.mem_cons_of_mem _ (List.mem_cons_of_mem _ (List.mem_cons_of_mem _ (List.mem_cons_of_mem _ (List.mem_cons_self)))))).2.cell 1 _ rfl; have qz1 := (D9.out.blk _ (List.mem_cons_of_mem _ (List.mem_cons_of_mem _ (List.mem_cons_of_mem _ (List.mem_cons_of_mem _ (List.mem_cons_self)))))).2.frozen 1; have q2 := (D9.out.blk _ (List.mem_cons_of_mem _ (List.mem_cons_of_mem _ (List.mem_cons_of_mem _ (List.mem_cons_of_mem _ (List.mem_cons_self)))))).2.cell 2 _ rfl; have qz2 := (D9.out.blk _ (List.mem_cons_of_mem _ (List.mem_cons_of_mem _ (List.mem_cons_of_mem _ (List.mem_cons_of_mem _ (List.mem_cons_self)))))).2.frozen 2; have qlt := (D9.out).bl (List.mem_cons_of_mem _ (List.mem_cons_of_mem _ (List.mem_cons_of_mem _ (List.mem_cons_of_mem _ (List.mem_cons_self))))))) | (go_at_call 54; go_loud (with_reducible refine (SY.out _ (T0.out.on (D9.out).bel)).mono ?_; rintro e wn10 ⟨rfl, hb⟩; have D10 := Lib.hid ((D9.out).on hb); clear hb; have u0 := (D10.out.blk _ (List.mem_cons_of_mem _ (List.mem_cons_of_mem _ (List.mem_cons_of_mem _ (List.mem_cons_self))))).2.cell 0 _ rfl; have uz0 := (D10.out.blk _ (List.mem_cons_of_mem _ (List.mem_cons_of_mem _ (List.mem_cons_of_mem _ (List.mem_cons_self))))).2.frozen 0; have u1 := (D10.out.blk _ (List.mem_cons_of_mem _ (List.mem_cons_of_mem _ (List.mem_cons_of_mem _ (List.mem_cons_self))))).2.cell 1 _ rfl; have uz1 := (D10.out.blk _ (List.mem_cons_of_mem _ (List.mem_cons_of_mem _ (List.mem_cons_of_mem _ (List.mem_cons_self))))).2.frozen 1; have u2 := (D10.out.blk _ (List.mem_cons_of_mem _ (List.mem_cons_of_mem _ (List.mem_cons_of_mem _ (List.mem_cons_self))))).2.cell 2 _ rfl; have uz2 := (D10.out.blk _ (List.mem_cons_of_mem _ (List.mem_cons_of_mem _ (List.mem_cons_of_mem _ (List.mem_cons_self))))).2.frozen 2; have ult := (D10.out).bl (List.mem_cons_of_mem _ (List.mem_cons_of_mem _ (List.mem_cons_of_mem _ (List.mem_cons_self)))); have q0 := (D10.out.blk _ (List.mem_cons_of_mem _ (List.mem_cons_of_mem _ (List.mem_cons_of_mem _ (List.mem_cons_of_mem _ (List.mem_cons_self)))))).2.cell 0 _ rfl; have qz0 := (D10.out.blk _ (List.mem_cons_of_mem _ (List.mem_cons_of_mem _ (List.mem_cons_of_mem _ (List.mem_cons_of_mem _ (List.mem_cons_self)))))).2.frozen 0; have q1 := (D10.out.blk _ (List.mem_cons_of_mem _ (List.mem_cons_of_mem _ (List.mem_cons_of_mem _ (List.mem_cons_of_mem _ (List.mem_cons_self)))))).2.cell 1 _ rfl; have qz1 := (D10.out.blk _ (List.mem_cons_of_mem _ (List.mem_cons_of_mem _ (List.mem_cons_of_mem _ (List.mem_cons_of_mem _ (List.mem_cons_self)))))).2.frozen 1; have q2 := (D10.out.blk _ (List.mem_cons_of_mem _ (List.mem_cons_of_mem _ (List.mem_cons_of_mem _ (List.mem_cons_of_mem _ (List.mem_cons_self)))))).2.cell 2 _ rfl; have qz2 := (D10.out.blk _ (List.mem_cons_of_mem _ (List.mem_cons_of_mem _ (List.mem_cons_of_mem _ (List.mem_cons_of_mem _ (List.mem_cons_self)))))).2.frozen 2; have qlt := (D10.out).bl (List.mem_cons_of_mem _ (List.mem_cons_of_mem _ (List.mem_cons_of_mem _ (List.mem_cons_of_mem _ (List.mem_cons_self))))))) | (go_at_call 46; go_loud (with_reducible refine (E3.out _ (T0.out.on (D10.out).bel)).mono ?_; rintro e wn11 ⟨rfl, hb⟩; have D11 := Lib.hid ((D10.out).on hb); clear hb)))
  have hu := Tryd.underlying32
  have D12 := Lib.hid (D11.out.new 32 [.int .i64 0, .int .i64 0, .string ⟨#[]⟩])
  obtain ⟨w1, hw1⟩ : ∃ z, z = wn11.alloc (.cells #[.int .i64 0, .int .i64 0, .string ⟨#[]⟩] 32) := ⟨_, rfl⟩
  obtain ⟨x20, hx20⟩ : ∃ z, z = wn11.heap.size := ⟨_, rfl⟩
  rw [← hw1] at D12
  rw [← hx20] at D12
  simp only [← hw1, ← hx20]
  clear hw1 hx20
  have hBB : Below w1.heap.size w1 ({ w1 with drawn := w1.drawn + 1 } : World) := ⟨rfl, rfl, rfl, Nat.le_refl _, fun _ _ => rfl⟩
  refine wp_region_held (S := Below w1.heap.size w1) (by kernel_rfl) ?_
  have hSB := hBB
  generalize ({ w1 with drawn := w1.drawn + 1 } : World) = wB at hSB hBB ⊢
  have hleB := D12.out.bel.size
  have hslB := hSB.size
  have caB0 : ∀ W, Below w1.heap.size w1 W → W.cell? ⟨x20, 0, none⟩ = some (.int .i64 0) := fun W hW => ((D12.out.on hW).blk _ (List.mem_cons_self)).2.cell 0 _ rfl
  have caB1 : ∀ W, Below w1.heap.size w1 W → W.cell? ⟨x20, 1, none⟩ = some (.int .i64 0) := fun W hW => ((D12.out.on hW).blk _ (List.mem_cons_self)).2.cell 1 _ rfl
  have caB2 : ∀ W, Below w1.heap.size w1 W → W.cell? ⟨x20, 2, none⟩ = some (.string ⟨#[]⟩) := fun W hW => ((D12.out.on hW).blk _ (List.mem_cons_self)).2.cell 2 _ rfl
  refine takeH 0 (oi := ⟨some 108, _, _, _, _, _⟩) (v := ?_) rfl (by kernel_rfl) (by kernel_rfl) (by kernel_rfl) (fun _ _ _ h => h) (Or.inl ⟨by rfl, ?hyB551⟩) hSB ?restB551
  case hyB551 => (intro W hW; (try dsimp only at hW); go_simp; try with_reducible rfl)
  try simp only [Act.put, List.setIfInBounds_toArray, List.set_cons_zero, List.set_cons_succ]
  refine takeH 1 (oi := ⟨some 109, _, _, _, _, _⟩) (v := ?_) rfl (by kernel_rfl) (by kernel_rfl) (by kernel_rfl) (fun _ _ _ h => h) (Or.inl ⟨by rfl, ?hyB552⟩) hSB ?restB552
  case hyB552 => (intro W hW; (try dsimp only at hW); go_simp; try with_reducible rfl)
  try simp only [Act.put, List.setIfInBounds_toArray, List.set_cons_zero, List.set_cons_succ]
  refine takeH 2 (oi := ⟨some 110, _, _, _, _, _⟩) (v := ?_) rfl (by kernel_rfl) (by kernel_rfl) (by kernel_rfl) (fun _ _ _ h => h) (Or.inl ⟨by rfl, ?hyB553⟩) hSB ?restB553
  case hyB553 => (intro W hW; (try dsimp only at hW); go_simp; try with_reducible rfl)
  try simp only [Act.put, List.setIfInBounds_toArray, List.set_cons_zero, List.set_cons_succ]
  refine takeH 3 (oi := ⟨some 111, _, _, _, _, _⟩) (v := ?_) rfl (by kernel_rfl) (by kernel_rfl) (by kernel_rfl) (fun _ _ _ h => h) (Or.inl ⟨by rfl, ?hyB554⟩) hSB ?restB554
  case hyB554 => (intro W hW; (try dsimp only at hW); go_simp; try with_reducible rfl)
  try simp only [Act.put, List.setIfInBounds_toArray, List.set_cons_zero, List.set_cons_succ]
  refine takeH 4 (oi := ⟨some 112, _, _, _, _, _⟩) (v := ?_) rfl (by kernel_rfl) (by kernel_rfl) (by kernel_rfl) (fun _ _ _ h => h) (Or.inl ⟨by rfl, ?hyB555⟩) hSB ?restB555
  case hyB555 => (intro W hW; (try dsimp only at hW); go_simp; try with_reducible rfl)
  try simp only [Act.put, List.setIfInBounds_toArray, List.set_cons_zero, List.set_cons_succ]
  refine takeH 5 (oi := ⟨some 113, _, _, _, _, _⟩) (v := ?_) rfl (by kernel_rfl) (by kernel_rfl) (by kernel_rfl) (fun _ _ _ h => h) (Or.inl ⟨by rfl, ?hyB556⟩) hSB ?restB556
  case hyB556 => (intro W hW; (try dsimp only at hW); go_simp; try with_reducible rfl)
  try simp only [Act.put, List.setIfInBounds_toArray, List.set_cons_zero, List.set_cons_succ]
  refine takeH 6 (oi := ⟨some 114, _, _, _, _, _⟩) (v := ?_) rfl (by kernel_rfl) (by kernel_rfl) (by kernel_rfl) (fun _ _ _ h => h) (Or.inl ⟨by rfl, ?hyB557⟩) hSB ?restB557
  case hyB557 => (intro W hW; (try dsimp only at hW); go_simp; try with_reducible rfl)
  try simp only [Act.put, List.setIfInBounds_toArray, List.set_cons_zero, List.set_cons_succ]
  refine takeH 7 (oi := ⟨some 115, _, _, _, _, _⟩) (v := ?_) rfl (by kernel_rfl) (by kernel_rfl) (by kernel_rfl) (fun _ _ _ h => h) (Or.inl ⟨by rfl, ?hyB558⟩) hSB ?restB558
  case hyB558 => (intro W hW; (try dsimp only at hW); go_simp; try with_reducible rfl)
  try simp only [Act.put, List.setIfInBounds_toArray, List.set_cons_zero, List.set_cons_succ]
  refine takeH 8 (oi := ⟨some 116, _, _, _, _, _⟩) (v := ?_) rfl (by kernel_rfl) (by kernel_rfl) (by kernel_rfl) (fun _ _ _ h => h) (Or.inl ⟨by rfl, ?hyB559⟩) hSB ?restB559
  case hyB559 => (intro W hW; (try dsimp only at hW); go_simp; try with_reducible rfl)
  try simp only [Act.put, List.setIfInBounds_toArray, List.set_cons_zero, List.set_cons_succ]
  refine takeH 9 (oi := ⟨some 117, _, _, _, _, _⟩) (v := ?_) rfl (by kernel_rfl) (by kernel_rfl) (by kernel_rfl) (fun _ _ _ h => h) (Or.inl ⟨by rfl, ?hyB560⟩) hSB ?restB560
  case hyB560 => (intro W hW; (try dsimp only at hW); go_simp; try with_reducible rfl)
  try simp only [Act.put, List.setIfInBounds_toArray, List.set_cons_zero, List.set_cons_succ]
  refine takeH 10 (oi := ⟨some 118, _, _, _, _, _⟩) (v := ?_) rfl (by kernel_rfl) (by kernel_rfl) (by kernel_rfl) (fun _ _ _ h => h) (Or.inl ⟨by rfl, ?hyB561⟩) hSB ?restB561
  case hyB561 => (intro W hW; (try dsimp only at hW); go_simp; try with_reducible rfl)
  try simp only [Act.put, List.setIfInBounds_toArray, List.set_cons_zero, List.set_cons_succ]
  refine takeH 11 (oi := ⟨some 119, _, _, _, _, _⟩) (v := ?_) rfl (by kernel_rfl) (by kernel_rfl) (by kernel_rfl) (fun _ _ _ h => h) (Or.inl ⟨by rfl, ?hyB562⟩) hSB ?restB562
  case hyB562 => (intro W hW; (try dsimp only at hW); go_simp; try with_reducible rfl)
  try simp only [Act.put, List.setIfInBounds_toArray, List.set_cons_zero, List.set_cons_succ]
  refine takeH 12 (oi := ⟨some 120, _, _, _, _, _⟩) (v := ?_) rfl (by kernel_rfl) (by kernel_rfl) (by kernel_rfl) (fun _ _ _ h => h) (Or.inl ⟨by rfl, ?hyB563⟩) hSB ?restB563
  case hyB563 => (intro W hW; (try dsimp only at hW); go_simp; try with_reducible rfl)
  try simp only [Act.put, List.setIfInBounds_toArray, List.set_cons_zero, List.set_cons_succ]
  refine takeH 13 (oi := ⟨some 121, _, _, _, _, _⟩) (v := undef) rfl (by kernel_rfl) (by kernel_rfl) (by kernel_rfl) (fun _ _ _ h => h) (Or.inr ⟨by rfl, rfl⟩) hSB ?restB564
  try simp only [Act.put, List.setIfInBounds_toArray, List.set_cons_zero, List.set_cons_succ]
  refine takeH 14 (oi := ⟨some 122, _, _, _, _, _⟩) (v := undef) rfl (by kernel_rfl) (by kernel_rfl) (by kernel_rfl) (fun _ _ _ h => h) (Or.inr ⟨by rfl, rfl⟩) hSB ?restB565
  try simp only [Act.put, List.setIfInBounds_toArray, List.set_cons_zero, List.set_cons_succ]
  refine takeH 15 (oi := ⟨some 123, _, _, _, _, _⟩) (v := undef) rfl (by kernel_rfl) (by kernel_rfl) (by kernel_rfl) (fun _ _ _ h => h) (Or.inr ⟨by rfl, rfl⟩) hSB ?restB566
  try simp only [Act.put, List.setIfInBounds_toArray, List.set_cons_zero, List.set_cons_succ]
  refine takeH 16 (oi := ⟨some 124, _, _, _, _, _⟩) (v := undef) rfl (by kernel_rfl) (by kernel_rfl) (by kernel_rfl) (fun _ _ _ h => h) (Or.inr ⟨by rfl, rfl⟩) hSB ?restB567
  try simp only [Act.put, List.setIfInBounds_toArray, List.set_cons_zero, List.set_cons_succ]
  refine takeH 17 (oi := ⟨some 125, _, _, _, _, _⟩) (v := undef) rfl (by kernel_rfl) (by kernel_rfl) (by kernel_rfl) (fun _ _ _ h => h) (Or.inr ⟨by rfl, rfl⟩) hSB ?restB568
  try simp only [Act.put, List.setIfInBounds_toArray, List.set_cons_zero, List.set_cons_succ]
  refine takeH 18 (oi := ⟨some 126, _, _, _, _, _⟩) (v := undef) rfl (by kernel_rfl) (by kernel_rfl) (by kernel_rfl) (fun _ _ _ h => h) (Or.inr ⟨by rfl, rfl⟩) hSB ?restB569
  try simp only [Act.put, List.setIfInBounds_toArray, List.set_cons_zero, List.set_cons_succ]
  refine takeH 19 (oi := ⟨some 127, _, _, _, _, _⟩) (v := ?_) rfl (by kernel_rfl) (by kernel_rfl) (by kernel_rfl) (fun _ _ _ h => h) (Or.inl ⟨by rfl, ?hyB570⟩) hSB ?restB570
  case hyB570 => (intro W hW; (try dsimp only at hW); go_simp; try with_reducible rfl)
  try simp only [Act.put, List.setIfInBounds_toArray, List.set_cons_zero, List.set_cons_succ]
  refine takeH 20 (oi := ⟨some 128, _, _, _, _, _⟩) (v := ?_) rfl (by kernel_rfl) (by kernel_rfl) (by kernel_rfl) (fun _ _ _ h => h) (Or.inl ⟨by rfl, ?hyB571⟩) hSB ?restB571
  case hyB571 => (intro W hW; (try dsimp only at hW); go_simp; try with_reducible rfl)
  try simp only [Act.put, List.setIfInBounds_toArray, List.set_cons_zero, List.set_cons_succ]
  refine wpAnyH_done (by kernel_rfl) ?_ _
  clear caB0 caB1 caB2
  have D13 := Lib.hid (D12.out.on hSB)
  generalize wB = W4 at D13 ⊢
  have u0 := (D13.out.blk _ (List.mem_cons_of_mem _ (List.mem_cons_of_mem _ (List.mem_cons_of_mem _ (List.mem_cons_of_mem _ (List.mem_cons_self)))))).2.cell 0 _ rfl; have uz0 := (D13.out.blk _ (List.mem_cons_of_mem _ (List.mem_cons_of_mem _ (List.mem_cons_of_mem _ (List.mem_cons_of_mem _ (List.mem_cons_self)))))).2.frozen 0; have u1 := (D13.out.blk _ (List.mem_cons_of_mem _ (List.mem_cons_of_mem _ (List.mem_cons_of_mem _ (List.mem_cons_of_mem _ (List.mem_cons_self)))))).2.cell 1 _ rfl; have uz1 := (D13.out.blk _ (List.mem_cons_of_mem _ (List.mem_cons_of_mem _ (List.mem_cons_of_mem _ (List.mem_cons_of_mem _ (List.mem_cons_self)))))).2.frozen 1; have u2 := (D13.out.blk _ (List.mem_cons_of_mem _ (List.mem_cons_of_mem _ (List.mem_cons_of_mem _ (List.mem_cons_of_mem _ (List.mem_cons_self)))))).2.cell 2 _ rfl; have uz2 := (D13.out.blk _ (List.mem_cons_of_mem _ (List.mem_cons_of_mem _ (List.mem_cons_of_mem _ (List.mem_cons_of_mem _ (List.mem_cons_self)))))).2.frozen 2; have ult := (D13.out).bl (List.mem_cons_of_mem _ (List.mem_cons_of_mem _ (List.mem_cons_of_mem _ (List.mem_cons_of_mem _ (List.mem_cons_self))))); have q0 := (D13.out.blk _ (List.mem_cons_of_mem _ (List.mem_cons_of_mem _ (List.mem_cons_of_mem _ (List.mem_cons_of_mem _ (List.mem_cons_of_mem _ (List.mem_cons_self))))))).2.cell 0 _ rfl; have qz0 := (D13.out.blk _ (List.mem_cons_of_mem _ (List.mem_cons_of_mem _ (List.mem_cons_of_mem _ (List.mem_cons_of_mem _ (List.mem_cons_of_mem _ (List.mem_cons_self))))))).2.frozen 0; have q1 := (D13.out.blk _ (List.mem_cons_of_mem _ (List.mem_cons_of_mem _ (List.mem_cons_of_mem _ (List.mem_cons_of_mem _ (List.mem_cons_of_mem _ (List.mem_cons_self))))))).2.cell 1 _ rfl; have qz1 := (D13.out.blk _ (List.mem_cons_of_mem _ (List.mem_cons_of_mem _ (List.mem_cons_of_mem _ (List.mem_cons_of_mem _ (List.mem_cons_of_mem _ (List.mem_cons_self))))))).2.frozen 1; have q2 := (D13.out.blk _ (List.mem_cons_of_mem _ (List.mem_cons_of_mem _ (List.mem_cons_of_mem _ (List.mem_cons_of_mem _ (List.mem_cons_of_mem _ (List.mem_cons_self))))))).2.cell 2 _ rfl; have qz2 := (D13.out.blk _ (List.mem_cons_of_mem _ (List.mem_cons_of_mem _ (List.mem_cons_of_mem _ (List.mem_cons_of_mem _ (List.mem_cons_of_mem _ (List.mem_cons_self))))))).2.frozen 2; have qlt := (D13.out).bl (List.mem_cons_of_mem _ (List.mem_cons_of_mem _ (List.mem_cons_of_mem _ (List.mem_cons_of_mem _ (List.mem_cons_of_mem _ (List.mem_cons_self))))))
  go_upto_region 19 with (first | (go_at_call 46; go_loud (with_reducible refine (E4.out _ (T0.out.on (D13.out).bel)).mono ?_; rintro e wn14 ⟨rfl, hb⟩; have D14 := Lib.hid ((D13.out).on hb); clear hb)) | (go_at_call 55; go_loud (with_reducible refine (hStr _ _).mono ?_; rintro e wn15 ⟨rfl, hb⟩; have D15 := Lib.hid ((D14.out.new 32 [.int .i64 0, .int .i64 0, .string ⟨#[]⟩]).on hb); clear hb)) | (go_at_call 56; go_loud (with_reducible refine (ON.out _ (T0.out.on (D15.out).bel)).mono ?_; rintro e wn16 ⟨rfl, hb⟩; have D16 := Lib.hid ((D15.out).on hb); clear hb)))
  have D17 := Lib.hid (D16.out.new 32 [.int .i64 2, .int .i64 (S.size : Int), .string ⟨#[]⟩])
  obtain ⟨w5, hw5⟩ : ∃ z, z = wn16.alloc (.cells #[.int .i64 2, .int .i64 (S.size : Int), .string ⟨#[]⟩] 32) := ⟨_, rfl⟩
  obtain ⟨x24, hx24⟩ : ∃ z, z = wn16.heap.size := ⟨_, rfl⟩
  rw [← hw5] at D17
  rw [← hx24] at D17
  simp only [← hw5, ← hx24]
  clear hw5 hx24
  have hBE : Below w5.heap.size w5 ({ w5 with drawn := w5.drawn + 1 } : World) := ⟨rfl, rfl, rfl, Nat.le_refl _, fun _ _ => rfl⟩
  refine wp_region_held (S := Below w5.heap.size w5) (by kernel_rfl) ?_
  have hSE := hBE
  generalize ({ w5 with drawn := w5.drawn + 1 } : World) = wE at hSE hBE ⊢
  have hleE := D17.out.bel.size
  have hslE := hSE.size
  have naE0 : ∀ W, Below w5.heap.size w5 W → W.cell? ⟨x24, 0, none⟩ = some (.int .i64 2) := fun W hW => ((D17.out.on hW).blk _ (List.mem_cons_self)).2.cell 0 _ rfl
  have naE1 : ∀ W, Below w5.heap.size w5 W → W.cell? ⟨x24, 1, none⟩ = some (.int .i64 (S.size : Int)) := fun W hW => ((D17.out.on hW).blk _ (List.mem_cons_self)).2.cell 1 _ rfl
  have naE2 : ∀ W, Below w5.heap.size w5 W → W.cell? ⟨x24, 2, none⟩ = some (.string ⟨#[]⟩) := fun W hW => ((D17.out.on hW).blk _ (List.mem_cons_self)).2.cell 2 _ rfl
  refine takeH 0 (oi := ⟨some 147, _, _, _, _, _⟩) (v := ?_) rfl (by kernel_rfl) (by kernel_rfl) (by kernel_rfl) (fun _ _ _ h => h) (Or.inl ⟨by rfl, ?hyE572⟩) hSE ?restE572
  case hyE572 => (intro W hW; (try dsimp only at hW); go_simp; try with_reducible rfl)
  try simp only [Act.put, List.setIfInBounds_toArray, List.set_cons_zero, List.set_cons_succ]
  refine takeH 1 (oi := ⟨some 148, _, _, _, _, _⟩) (v := ?_) rfl (by kernel_rfl) (by kernel_rfl) (by kernel_rfl) (fun _ _ _ h => h) (Or.inl ⟨by rfl, ?hyE573⟩) hSE ?restE573
  case hyE573 => (intro W hW; (try dsimp only at hW); go_simp; try with_reducible rfl)
  try simp only [Act.put, List.setIfInBounds_toArray, List.set_cons_zero, List.set_cons_succ]
  refine takeH 2 (oi := ⟨some 149, _, _, _, _, _⟩) (v := ?_) rfl (by kernel_rfl) (by kernel_rfl) (by kernel_rfl) (fun _ _ _ h => h) (Or.inl ⟨by rfl, ?hyE574⟩) hSE ?restE574
  case hyE574 => (intro W hW; (try dsimp only at hW); go_simp; try with_reducible rfl)
  try simp only [Act.put, List.setIfInBounds_toArray, List.set_cons_zero, List.set_cons_succ]
  refine takeH 3 (oi := ⟨some 150, _, _, _, _, _⟩) (v := ?_) rfl (by kernel_rfl) (by kernel_rfl) (by kernel_rfl) (fun _ _ _ h => h) (Or.inl ⟨by rfl, ?hyE575⟩) hSE ?restE575
  case hyE575 => (intro W hW; (try dsimp only at hW); go_simp; try with_reducible rfl)
  try simp only [Act.put, List.setIfInBounds_toArray, List.set_cons_zero, List.set_cons_succ]
  refine takeH 4 (oi := ⟨some 151, _, _, _, _, _⟩) (v := ?_) rfl (by kernel_rfl) (by kernel_rfl) (by kernel_rfl) (fun _ _ _ h => h) (Or.inl ⟨by rfl, ?hyE576⟩) hSE ?restE576
  case hyE576 => (intro W hW; (try dsimp only at hW); go_simp; try with_reducible rfl)
  try simp only [Act.put, List.setIfInBounds_toArray, List.set_cons_zero, List.set_cons_succ]
  refine takeH 5 (oi := ⟨some 152, _, _, _, _, _⟩) (v := ?_) rfl (by kernel_rfl) (by kernel_rfl) (by kernel_rfl) (fun _ _ _ h => h) (Or.inl ⟨by rfl, ?hyE577⟩) hSE ?restE577
  case hyE577 => (intro W hW; (try dsimp only at hW); go_simp; try with_reducible rfl)
  try simp only [Act.put, List.setIfInBounds_toArray, List.set_cons_zero, List.set_cons_succ]
  refine takeH 6 (oi := ⟨some 153, _, _, _, _, _⟩) (v := undef) rfl (by kernel_rfl) (by kernel_rfl) (by kernel_rfl) (fun _ _ _ h => h) (Or.inr ⟨by rfl, rfl⟩) hSE ?restE578
  try simp only [Act.put, List.setIfInBounds_toArray, List.set_cons_zero, List.set_cons_succ]
  refine takeH 7 (oi := ⟨some 154, _, _, _, _, _⟩) (v := undef) rfl (by kernel_rfl) (by kernel_rfl) (by kernel_rfl) (fun _ _ _ h => h) (Or.inr ⟨by rfl, rfl⟩) hSE ?restE579
  try simp only [Act.put, List.setIfInBounds_toArray, List.set_cons_zero, List.set_cons_succ]
  refine takeH 8 (oi := ⟨some 155, _, _, _, _, _⟩) (v := undef) rfl (by kernel_rfl) (by kernel_rfl) (by kernel_rfl) (fun _ _ _ h => h) (Or.inr ⟨by rfl, rfl⟩) hSE ?restE580
  try simp only [Act.put, List.setIfInBounds_toArray, List.set_cons_zero, List.set_cons_succ]
  refine takeH 9 (oi := ⟨some 156, _, _, _, _, _⟩) (v := undef) rfl (by kernel_rfl) (by kernel_rfl) (by kernel_rfl) (fun _ _ _ h => h) (Or.inr ⟨by rfl, rfl⟩) hSE ?restE581
  try simp only [Act.put, List.setIfInBounds_toArray, List.set_cons_zero, List.set_cons_succ]
  refine takeH 10 (oi := ⟨some 157, _, _, _, _, _⟩) (v := undef) rfl (by kernel_rfl) (by kernel_rfl) (by kernel_rfl) (fun _ _ _ h => h) (Or.inr ⟨by rfl, rfl⟩) hSE ?restE582
  try simp only [Act.put, List.setIfInBounds_toArray, List.set_cons_zero, List.set_cons_succ]
  refine takeH 11 (oi := ⟨some 158, _, _, _, _, _⟩) (v := undef) rfl (by kernel_rfl) (by kernel_rfl) (by kernel_rfl) (fun _ _ _ h => h) (Or.inr ⟨by rfl, rfl⟩) hSE ?restE583
  try simp only [Act.put, List.setIfInBounds_toArray, List.set_cons_zero, List.set_cons_succ]
  refine takeH 12 (oi := ⟨some 159, _, _, _, _, _⟩) (v := ?_) rfl (by kernel_rfl) (by kernel_rfl) (by kernel_rfl) (fun _ _ _ h => h) (Or.inl ⟨by rfl, ?hyE584⟩) hSE ?restE584
  case hyE584 => (intro W hW; (try dsimp only at hW); go_simp; try with_reducible rfl)
  try simp only [Act.put, List.setIfInBounds_toArray, List.set_cons_zero, List.set_cons_succ]
  refine takeH 13 (oi := ⟨some 160, _, _, _, _, _⟩) (v := ?_) rfl (by kernel_rfl) (by kernel_rfl) (by kernel_rfl) (fun _ _ _ h => h) (Or.inl ⟨by rfl, ?hyE585⟩) hSE ?restE585
  case hyE585 => (intro W hW; (try dsimp only at hW); go_simp; try with_reducible rfl)
  try simp only [Act.put, List.setIfInBounds_toArray, List.set_cons_zero, List.set_cons_succ]
  refine takeH 14 (oi := ⟨some 161, _, _, _, _, _⟩) (v := undef) rfl (by kernel_rfl) (by kernel_rfl) (by kernel_rfl) (fun _ _ _ h => h) (Or.inr ⟨by rfl, rfl⟩) hSE ?restE586
  try simp only [Act.put, List.setIfInBounds_toArray, List.set_cons_zero, List.set_cons_succ]
  refine takeH 15 (oi := ⟨some 162, _, _, _, _, _⟩) (v := undef) rfl (by kernel_rfl) (by kernel_rfl) (by kernel_rfl) (fun _ _ _ h => h) (Or.inr ⟨by rfl, rfl⟩) hSE ?restE587
  try simp only [Act.put, List.setIfInBounds_toArray, List.set_cons_zero, List.set_cons_succ]
  refine takeH 16 (oi := ⟨some 163, _, _, _, _, _⟩) (v := ?_) rfl (by kernel_rfl) (by kernel_rfl) (by kernel_rfl) (fun _ _ _ h => h) (Or.inl ⟨by rfl, ?hyE588⟩) hSE ?restE588
  case hyE588 => (intro W hW; (try dsimp only at hW); go_simp; try with_reducible rfl)
  try simp only [Act.put, List.setIfInBounds_toArray, List.set_cons_zero, List.set_cons_succ]
  refine takeH 17 (oi := ⟨some 164, _, _, _, _, _⟩) (v := ?_) rfl (by kernel_rfl) (by kernel_rfl) (by kernel_rfl) (fun _ _ _ h => h) (Or.inl ⟨by rfl, ?hyE589⟩) hSE ?restE589
  case hyE589 => (intro W hW; (try dsimp only at hW); go_simp; try with_reducible rfl)
  try simp only [Act.put, List.setIfInBounds_toArray, List.set_cons_zero, List.set_cons_succ]
  refine takeH 18 (oi := ⟨some 165, _, _, _, _, _⟩) (v := ?_) rfl (by kernel_rfl) (by kernel_rfl) (by kernel_rfl) (fun _ _ _ h => h) (Or.inl ⟨by rfl, ?hyE590⟩) hSE ?restE590
  case hyE590 => (intro W hW; (try dsimp only at hW); go_simp; try with_reducible rfl)
  try simp only [Act.put, List.setIfInBounds_toArray, List.set_cons_zero, List.set_cons_succ]
  refine takeH 19 (oi := ⟨some 166, _, _, _, _, _⟩) (v := ?_) rfl (by kernel_rfl) (by kernel_rfl) (by kernel_rfl) (fun _ _ _ h => h) (Or.inl ⟨by rfl, ?hyE591⟩) hSE ?restE591
  case hyE591 => (intro W hW; (try dsimp only at hW); go_simp; try with_reducible rfl)
  try simp only [Act.put, List.setIfInBounds_toArray, List.set_cons_zero, List.set_cons_succ]
  refine takeH 20 (oi := ⟨some 167, _, _, _, _, _⟩) (v := ?_) rfl (by kernel_rfl) (by kernel_rfl) (by kernel_rfl) (fun _ _ _ h => h) (Or.inl ⟨by rfl, ?hyE592⟩) hSE ?restE592
  case hyE592 => (intro W hW; (try dsimp only at hW); go_simp; try with_reducible rfl)
  try simp only [Act.put, List.setIfInBounds_toArray, List.set_cons_zero, List.set_cons_succ]
  refine takeH 21 (oi := ⟨some 168, _, _, _, _, _⟩) (v := ?_) rfl (by kernel_rfl) (by kernel_rfl) (by kernel_rfl) (fun _ _ _ h => h) (Or.inl ⟨by rfl, ?hyE593⟩) hSE ?restE593
  case hyE593 => (intro W hW; (try dsimp only at hW); go_simp; try with_reducible rfl)
  try simp only [Act.put, List.setIfInBounds_toArray, List.set_cons_zero, List.set_cons_succ]
  refine takeH 22 (oi := ⟨some 169, _, _, _, _, _⟩) (v := ?_) rfl (by kernel_rfl) (by kernel_rfl) (by kernel_rfl) (fun _ _ _ h => h) (Or.inl ⟨by rfl, ?hyE594⟩) hSE ?restE594
  case hyE594 => (intro W hW; (try dsimp only at hW); go_simp; try with_reducible rfl)
  try simp only [Act.put, List.setIfInBounds_toArray, List.set_cons_zero, List.set_cons_succ]
  refine takeH 23 (oi := ⟨some 170, _, _, _, _, _⟩) (v := ?_) rfl (by kernel_rfl) (by kernel_rfl) (by kernel_rfl) (fun _ _ _ h => h) (Or.inl ⟨by rfl, ?hyE595⟩) hSE ?restE595
  case hyE595 => (intro W hW; (try dsimp only at hW); go_simp; try with_reducible rfl)
  try simp only [Act.put, List.setIfInBounds_toArray, List.set_cons_zero, List.set_cons_succ]
  refine takeH 24 (oi := ⟨some 171, _, _, _, _, _⟩) (v := ?_) rfl (by kernel_rfl) (by kernel_rfl) (by kernel_rfl) (fun _ _ _ h => h) (Or.inl ⟨by rfl, ?hyE596⟩) hSE ?restE596
  case hyE596 => (intro W hW; (try dsimp only at hW); go_simp; try with_reducible rfl)
  try simp only [Act.put, List.setIfInBounds_toArray, List.set_cons_zero, List.set_cons_succ]
  refine one (i := 25) (by kernel_rfl) ?_
  refine wpOp_wanted rfl (by rfl) fun K hK => ?_
  go_simp
  with_reducible refine (hInt _ _).mono ?_
  rintro e wE597 ⟨rfl, hb⟩
  have SE597 : Below w5.heap.size w5 wE597 := hSE.trans (hb.mono hSE.size)
  clear hb
  refine hK _ _ ⟨SE597, ?_⟩
  clear hK K
  try simp only [Act.put, List.setIfInBounds_toArray, List.set_cons_zero, List.set_cons_succ]
  refine takeH 26 (oi := ⟨some 173, _, _, _, _, _⟩) (v := ?_) rfl (by kernel_rfl) (by kernel_rfl) (by kernel_rfl) (fun _ _ _ h => h) (Or.inl ⟨by rfl, ?hyE598⟩) SE597 ?restE598
  case hyE598 => (intro W hW; (try dsimp only at hW); go_simp; try with_reducible rfl)
  try simp only [Act.put, List.setIfInBounds_toArray, List.set_cons_zero, List.set_cons_succ]
  refine takeH 27 (oi := ⟨some 174, _, _, _, _, _⟩) (v := ?_) rfl (by kernel_rfl) (by kernel_rfl) (by kernel_rfl) (fun _ _ _ h => h) (Or.inl ⟨by rfl, ?hyE599⟩) SE597 ?restE599
  case hyE599 => (intro W hW; (try dsimp only at hW); go_simp; try with_reducible rfl)
  try simp only [Act.put, List.setIfInBounds_toArray, List.set_cons_zero, List.set_cons_succ]
  refine takeH 28 (oi := ⟨some 6, _, _, _, _, _⟩) (v := ?_) rfl (by kernel_rfl) (by kernel_rfl) (by kernel_rfl) (fun _ _ _ h => h) (Or.inl ⟨by rfl, ?hyE600⟩) SE597 ?restE600
  case hyE600 => (intro W hW; (try dsimp only at hW); go_simp; try with_reducible rfl)
  try simp only [Act.put, List.setIfInBounds_toArray, List.set_cons_zero, List.set_cons_succ]
  refine wpAnyH_done (by kernel_rfl) ?_ _
  clear naE0 naE1 naE2
  go_wp2_with fail
  go_ret
  exact ⟨rfl, (D17.out.on SE597).bel⟩
end Go.Proofs.YtpgpmldaggpciaaDoor.GW
