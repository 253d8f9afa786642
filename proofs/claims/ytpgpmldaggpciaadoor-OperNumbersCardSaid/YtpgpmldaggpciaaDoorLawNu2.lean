/- The statement OperNumbers, walked by hand. -/
import Derived.Test.YtpgpmldaggpciaaDoorLawNu1
import Derived.Test.YtpgpmldaggpciaaDoorGreat
import Derived.Test.YtpgpmldaggpciaaDoorOD
import Derived.Test.YtpgpmldaggpciaaDoorAliveE
set_option linter.unusedVariables false
set_option linter.unusedSimpArgs false
namespace Go.Proofs.YtpgpmldaggpciaaDoor.GW
open Go.RowKit Go.Proofs.YtpgpmldaggpciaaDoorW.PrintWords Go.Proofs.YtpgpmldaggpciaaDoorW.PrintLast Go.Proofs.YtpgpmldaggpciaaDoorW.PrintMore Go.Proofs.YtpgpmldaggpciaaDoor.Maths Go.Proofs.YtpgpmldaggpciaaDoor.TabW Go.Proofs.YtpgpmldaggpciaaDoor.HK Go.Proofs.YtpgpmldaggpciaaDoor.Val
set_option maxHeartbeats 16000000 in
set_option maxRecDepth 20000 in
theorem nu21 (m op : Int) (k0 n0 : Int) (s0 : ByteArray) (k1 n1 : Int) (s1 : ByteArray) (x y : Int) (z : Bool) (y1 y2 : Int) (y3 : ByteArray) (y4 : Int) (hg : ∀ b W, Blk W b 32 [.int .i64 k0, .int .i64 n0, .string s0, .int .i64 k1, .int .i64 n1, .string s1] → Calls Tryd.prog 44 #[.slice (some ⟨b, 0, none⟩) 2 2] W fun e w' => e = .returned (.bool false) ∧ Below W.heap.size W w') (hop : wrap64 (1 + (wrap64 m).tmod 10) = op) (hx : numberF k0 n0 s0 = some (x, false)) (hy : numberF k1 n1 s1 = some (y, z)) (d1 : doF op k0 n0 s0 k1 n1 s1 0 = some (0, 0, ⟨#[]⟩, 18)) (d2 : doF op 2 x ⟨#[]⟩ 2 y ⟨#[]⟩ 0 = some (y1, y2, y3, y4)) (hs : stringF k0 n0 s0 = some (⟨#[]⟩, true)) (ht : stringF k1 n1 s1 = some (⟨#[]⟩, true)) (d3 : doF 11 k0 n0 s0 k1 n1 s1 0 = some (3, 0, ⟨#[]⟩, 0)) (d4 : doF 11 k0 n0 s0 k1 n1 s1 (-1) = some (3, 0, ⟨#[]⟩, 0)) (o1 : oneF 23 3 0 ⟨#[]⟩ = some (2, 0, ⟨#[]⟩, 0)) (hcc : ((⟨#[]⟩ : ByteArray) ++ (⟨#[]⟩ : ByteArray)).toList = []) (hw0 : IntKind.i64.wrap 0 = 0) (w : World) (hT : Tab w) : Calls Tryd.prog 10 #[.int .u8 m, .agg #[.int .i64 k0, .int .i64 n0, .string s0], .agg #[.int .i64 k1, .int .i64 n1, .string s1]] w fun e w' => e = .returned (.bool true) ∧ Below w.heap.size w w' := by
  have T0 := Lib.hid hT
  have D0 := Lib.hid (OD.start2 w 32 [.int .i64 k0, .int .i64 n0, .string s0] [.int .i64 k1, .int .i64 n1, .string s1])
  have AL := Lib.hid (fun W hW => alive_calls true W hW rfl)
  have GR := Lib.hid hg
  have NX := Lib.hid (fun W hW => number_calls k0 n0 s0 x false W hW hx)
  have NY := Lib.hid (fun W hW => number_calls k1 n1 s1 y z W hW hy)
  have E1 := Lib.hid (fun W hW => do_calls op k0 n0 s0 k1 n1 s1 0 (0) (0) (⟨#[]⟩) (18) W hW d1)
  have E2 := Lib.hid (fun W hW => do_calls op 2 x ⟨#[]⟩ 2 y ⟨#[]⟩ 0 (y1) (y2) (y3) (y4) W hW d2)
  have SX := Lib.hid (fun W hW => string_calls k0 n0 s0 ⟨#[]⟩ true W hW hs)
  have SY := Lib.hid (fun W hW => string_calls k1 n1 s1 ⟨#[]⟩ true W hW ht)
  have E3 := Lib.hid (fun W hW => do_calls 11 k0 n0 s0 k1 n1 s1 0 (3) (0) (⟨#[]⟩) (0) W hW d3)
  have E4 := Lib.hid (fun W hW => do_calls 11 k0 n0 s0 k1 n1 s1 (-1) (3) (0) (⟨#[]⟩) (0) W hW d4)
  have ON := Lib.hid (fun W hW => one_calls 23 3 0 ⟨#[]⟩ 2 0 ⟨#[]⟩ 0 W hW o1)
  clear hT hg hx hy d1 d2 hs ht d3 d4 o1
  go_enter Tryd.func10, Tryd.ntmps10
  go_upto_region 15 with (first | (go_at_call 43; go_loud (with_reducible refine (AL.out _ (T0.out.on D0.out.bel)).mono ?_; rintro e wn1 ⟨rfl, hb⟩; have D1 := Lib.hid ((D0.out).on hb); clear hb; have u0 := (D1.out.blk _ (List.mem_cons_self)).2.cell 0 _ rfl; have uz0 := (D1.out.blk _ (List.mem_cons_self)).2.frozen 0; have u1 := (D1.out.blk _ (List.mem_cons_self)).2.cell 1 _ rfl; have uz1 := (D1.out.blk _ (List.mem_cons_self)).2.frozen 1; have u2 := (D1.out.blk _ (List.mem_cons_self)).2.cell 2 _ rfl; have uz2 := (D1.out.blk _ (List.mem_cons_self)).2.frozen 2; have ult := (D1.out).bl (List.mem_cons_self); have q0 := (D1.out.blk _ (List.mem_cons_of_mem _ (List.mem_cons_self))).2.cell 0 _ rfl; have qz0 := (D1.out.blk _ (List.mem_cons_of_mem _ (List.mem_cons_self))).2.frozen 0; have q1 := (D1.out.blk _ (List.mem_cons_of_mem _ (List.mem_cons_self))).2.cell 1 _ rfl; have qz1 := (D1.out.blk _ (List.mem_cons_of_mem _ (List.mem_cons_self))).2.frozen 1; have q2 := (D1.out.blk _ (List.mem_cons_of_mem _ (List.mem_cons_self))).2.cell 2 _ rfl; have qz2 := (D1.out.blk _ (List.mem_cons_of_mem _ (List.mem_cons_self))).2.frozen 2; have qlt := (D1.out).bl (List.mem_cons_of_mem _ (List.mem_cons_self)))) | (go_at_call 44; go_loud (with_reducible refine (GR.out _ _ (Blk.new _ [.int .i64 k0, .int .i64 n0, .string s0, .int .i64 k1, .int .i64 n1, .string s1] 32)).mono ?_; rintro e wn2 ⟨rfl, hb⟩; have D2 := Lib.hid ((D1.out.new 32 [.int .i64 k0, .int .i64 n0, .string s0, .int .i64 k1, .int .i64 n1, .string s1]).on hb); clear hb; have u0 := (D2.out.blk _ (List.mem_cons_of_mem _ (List.mem_cons_self))).2.cell 0 _ rfl; have uz0 := (D2.out.blk _ (List.mem_cons_of_mem _ (List.mem_cons_self))).2.frozen 0; have u1 := (D2.out.blk _ (List.mem_cons_of_mem _ (List.mem_cons_self))).2.cell 1 _ rfl; have uz1 := (D2.out.blk _ (List.mem_cons_of_mem _ (List.mem_cons_self))).2.frozen 1; have u2 := (D2.out.blk _ (List.mem_cons_of_mem _ (List.mem_cons_self))).2.cell 2 _ rfl; have uz2 := (D2.out.blk _ (List.mem_cons_of_mem _ (List.mem_cons_self))).2.frozen 2; have ult := (D2.out).bl (List.mem_cons_of_mem _ (List.mem_cons_self)); have q0 := (D2.out.blk _ (List.mem_cons_of_mem _ (List.mem_cons_of_mem _ (List.mem_cons_self)))).2.cell 0 _ rfl; have qz0 := (D2.out.blk _ (List.mem_cons_of_mem _ (List.mem_cons_of_mem _ (List.mem_cons_self)))).2.frozen 0; have q1 := (D2.out.blk _ (List.mem_cons_of_mem _ (List.mem_cons_of_mem _ (List.mem_cons_self)))).2.cell 1 _ rfl; have qz1 := (D2.out.blk _ (List.mem_cons_of_mem _ (List.mem_cons_of_mem _ (List.mem_cons_self)))).2.frozen 1; have q2 := (D2.out.blk _ (List.mem_cons_of_mem _ (List.mem_cons_of_mem _ (List.mem_cons_self)))).2.cell 2 _ rfl; have qz2 := (D2.out.blk _ (List.mem_cons_of_mem _ (List.mem_cons_of_mem _ (List.mem_cons_self)))).2.frozen 2; have qlt := (D2.out).bl (List.mem_cons_of_mem _ (List.mem_cons_of_mem _ (List.mem_cons_self))))) | (go_at_call 52; go_loud (with_reducible refine (NX.out _ (T0.out.on (D2.out).bel)).mono ?_; rintro e wn3 ⟨rfl, hb⟩; have D3 := Lib.hid ((D2.out).on hb); clear hb; have u0 := (D3.out.blk _ (List.mem_cons_of_mem _ (List.mem_cons_self))).2.cell 0 _ rfl; have uz0 := (D3.out.blk _ (List.mem_cons_of_mem _ (List.mem_cons_self))).2.frozen 0; have u1 := (D3.out.blk _ (List.mem_cons_of_mem _ (List.mem_cons_self))).2.cell 1 _ rfl; have uz1 := (D3.out.blk _ (List.mem_cons_of_mem _ (List.mem_cons_self))).2.frozen 1; have u2 := (D3.out.blk _ (List.mem_cons_of_mem _ (List.mem_cons_self))).2.cell 2 _ rfl; have uz2 := (D3.out.blk _ (List.mem_cons_of_mem _ (List.mem_cons_self))).2.frozen 2; have ult := (D3.out).bl (List.mem_cons_of_mem _ (List.mem_cons_self)); have q0 := (D3.out.blk _ (List.mem_cons_of_mem _ (List.mem_cons_of_mem _ (List.mem_cons_self)))).2.cell 0 _ rfl; have qz0 := (D3.out.blk _ (List.mem_cons_of_mem _ (List.mem_cons_of_mem _ (List.mem_cons_self)))).2.frozen 0; have q1 := (D3.out.blk _ (List.mem_cons_of_mem _ (List.mem_cons_of_mem _ (List.mem_cons_self)))).2.cell 1 _ rfl; have qz1 := (D3.out.blk _ (List.mem_cons_of_mem _ (List.mem_cons_of_mem _ (List.mem_cons_self)))).2.frozen 1; have q2 := (D3.out.blk _ (List.mem_cons_of_mem _ (List.mem_cons_of_mem _ (List.mem_cons_self)))).2.cell 2 _ rfl; have qz2 := (D3.out.blk _ (List.mem_cons_of_mem _ (List.mem_cons_of_mem _ (List.mem_cons_self)))).2.frozen 2; have qlt := (D3.out).bl (List.mem_cons_of_mem _ (List.mem_cons_of_mem _ (List.mem_cons_self))))) | (go_at_call 52; go_loud (with_reducible refine (NY.out _ (T0.out.on (D3.out).bel)).mono ?_; rintro e wn4 ⟨rfl, hb⟩; have D4 := Lib.hid ((D3.out).on hb); clear hb; have u0 := (D4.out.blk _ (List.mem_cons_of_mem _ (List.mem_cons_self))).2.cell 0 _ rfl; have uz0 := (D4.out.blk _ (List.mem_cons_of_mem _ (List.mem_cons_self))).2.frozen 0; have u1 := (D4.out.blk _ (List.mem_cons_of_mem _ (List.mem_cons_self))).2.cell 1 _ rfl; have uz1 := (D4.out.blk _ (List.mem_cons_of_mem _ (List.mem_cons_self))).2.frozen 1; have u2 := (D4.out.blk _ (List.mem_cons_of_mem _ (List.mem_cons_self))).2.cell 2 _ rfl; have uz2 := (D4.out.blk _ (List.mem_cons_of_mem _ (List.mem_cons_self))).2.frozen 2; have ult := (D4.out).bl (List.mem_cons_of_mem _ (List.mem_cons_self)); have q0 := (D4.out.blk _ (List.mem_cons_of_mem _ (List.mem_cons_of_mem _ (List.mem_cons_self)))).2.cell 0 _ rfl; have qz0 := (D4.out.blk _ (List.mem_cons_of_mem _ (List.mem_cons_of_mem _ (List.mem_cons_self)))).2.frozen 0; have q1 := (D4.out.blk _ (List.mem_cons_of_mem _ (List.mem_cons_of_mem _ (List.mem_cons_self)))).2.cell 1 _ rfl; have qz1 := (D4.out.blk _ (List.mem_cons_of_mem _ (List.mem_cons_of_mem _ (List.mem_cons_self)))).2.frozen 1; have q2 := (D4.out.blk _ (List.mem_cons_of_mem _ (List.mem_cons_of_mem _ (List.mem_cons_self)))).2.cell 2 _ rfl; have qz2 := (D4.out.blk _ (List.mem_cons_of_mem _ (List.mem_cons_of_mem _ (List.mem_cons_self)))).2.frozen 2; have qlt := (D4.out).bl (List.mem_cons_of_mem _ (List.mem_cons_of_mem _ (List.mem_cons_self))))) | (go_at_call 46; go_loud (with_reducible refine (E1.out _ (T0.out.on (D4.out).bel)).mono ?_; rintro e wn5 ⟨rfl, hb⟩; have D5 := Lib.hid ((D4.out).on hb); clear hb)) | (go_at_call 53; go_loud (with_reducible refine (hInt x _).mono ?_; rintro e wn6 ⟨rfl, hb⟩; have D6 := Lib.hid ((D5.out.new 32 [.int .i64 0, .int .i64 0, .string ⟨#[]⟩]).on hb); clear hb)) | (go_at_call 53; go_loud (with_reducible refine (hInt y _).mono ?_; rintro e wn7 ⟨rfl, hb⟩; have D7 := Lib.hid ((D6.out).on hb); clear hb)) | (go_at_call 46; go_loud (with_reducible refine (E2.out _ (T0.out.on (D7.out).bel)).mono ?_; rintro e wn8 ⟨rfl, hb⟩; have D8 := Lib.hid ((D7.out).on hb); clear hb; have r0 := (D8.out.blk _ (List.mem_cons_self)).2.cell 0 _ rfl; have rz0 := (D8.out.blk _ (List.mem_cons_self)).2.frozen 0; have r1 := (D8.out.blk _ (List.mem_cons_self)).2.cell 1 _ rfl; have rz1 := (D8.out.blk _ (List.mem_cons_self)).2.frozen 1; have r2 := (D8.out.blk _ (List.mem_cons_self)).2.cell 2 _ rfl; have rz2 := (D8.out.blk _ (List.mem_cons_self)).2.frozen 2; have rlt := (D8.out).bl (List.mem_cons_self); have u0 := (D8.out.blk _ (List.mem_cons_of_mem _ (List.mem_cons_of_mem _ (List.mem_cons_self)))).2.cell 0 _ rfl; have uz0 := (D8.out.blk _ (List.mem_cons_of_mem _ (List.mem_cons_of_mem _ (List.mem_cons_self)))).2.frozen 0; have u1 := (D8.out.blk _ (List.mem_cons_of_mem _ (List.mem_cons_of_mem _ (List.mem_cons_self)))).2.cell 1 _ rfl; have uz1 := (D8.out.blk _ (List.mem_cons_of_mem _ (List.mem_cons_of_mem _ (List.mem_cons_self)))).2.frozen 1; have u2 := (D8.out.blk _ (List.mem_cons_of_mem _ (List.mem_cons_of_mem _ (List.mem_cons_self)))).2.cell 2 _ rfl; have uz2 := (D8.out.blk _ (List.mem_cons_of_mem _ (List.mem_cons_of_mem _ (List.mem_cons_self)))).2.frozen 2; have ult := (D8.out).bl (List.mem_cons_of_mem _ (List.mem_cons_of_mem _ (List.mem_cons_self))); have q0 := (D8.out.blk _ (List.mem_cons_of_mem _ (List.mem_cons_of_mem _ (List.mem_cons_of_mem _ (List.mem_cons_self))))).2.cell 0 _ rfl; have qz0 := (D8.out.blk _ (List.mem_cons_of_mem _ (List.mem_cons_of_mem _ (List.mem_cons_of_mem _ (List.mem_cons_self))))).2.frozen 0; have q1 := (D8.out.blk _ (List.mem_cons_of_mem _ (List.mem_cons_of_mem _ (List.mem_cons_of_mem _ (List.mem_cons_self))))).2.cell 1 _ rfl; have qz1 := (D8.out.blk _ (List.mem_cons_of_mem _ (List.mem_cons_of_mem _ (List.mem_cons_of_mem _ (List.mem_cons_self))))).2.frozen 1; have q2 := (D8.out.blk _ (List.mem_cons_of_mem _ (List.mem_cons_of_mem _ (List.mem_cons_of_mem _ (List.mem_cons_self))))).2.cell 2 _ rfl; have qz2 := (D8.out.blk _ (List.mem_cons_of_mem _ (List.mem_cons_of_mem _ (List.mem_cons_of_mem _ (List.mem_cons_self))))).2.frozen 2; have qlt := (D8.out).bl (List.mem_cons_of_mem _ (List.mem_cons_of_mem _ (List.mem_cons_of_mem _ (List.mem_cons_self)))))) | (go_at_call 54; go_loud (with_reducible refine (SX.out _ (T0.out.on (D8.out.new 32 [.int .i64 y1, .int .i64 y2, .string y3]).bel)).mono ?_; rintro e wn9 ⟨rfl, hb⟩; have D9 := Lib.hid ((D8.out.new 32 [.int .i64 y1, .int .i64 y2, .string y3]).on hb); clear hb; have u0 := (D9.out.blk _ (List.mem_cons_of_mem _ (List.mem_cons_of_mem _ (List.mem_cons_of_mem _ (List.mem_cons_self))))).2.cell 0 _ rfl; have uz0 := (D9.out.blk _ (List.mem_cons_of_mem _ (List.mem_cons_of_mem _ (List.mem_cons_of_mem _ (List.mem_cons_self))))).2.frozen 0; have u1 := (D9.out.blk _ (List.mem_cons_of_mem _ (List.mem_cons_of_mem _ (List.mem_cons_of_mem _ (List.mem_cons_self))))).2.cell 1 _ rfl; have uz1 := (D9.out.blk _ (List.mem_cons_of_mem _ (List.mem_cons_of_mem _ (List.mem_cons_of_mem _ (List.mem_cons_self))))).2.frozen 1; have u2 := (D9.out.blk _ (List.mem_cons_of_mem _ (List.mem_cons_of_mem _ (List.mem_cons_of_mem _ (List.mem_cons_self))))).2.cell 2 _ rfl; have uz2 := (D9.out.blk _ (List.mem_cons_of_mem _ (List.mem_cons_of_mem _ (List.mem_cons_of_mem _ (List.mem_cons_self))))).2.frozen 2; have ult := (D9.out).bl (List.mem_cons_of_mem _ (List.mem_cons_of_mem _ (List.mem_cons_of_mem _ (List.mem_cons_self)))); have q0 := (D9.out.blk _ (List.mem_cons_of_mem _ (List.mem_cons_of_mem _ (List.mem_cons_of_mem _ (List.mem_cons_of_mem _ (List.mem_cons_self)))))).2.cell 0 _ rfl; have qz0 := (D9.out.blk _ (List.mem_cons_of_mem _ (List.mem_cons_of_mem _ (List.mem_cons_of_mem _ (List.mem_cons_of_mem _ (List.mem_cons_self)))))).2.frozen 0; have q1 := (D9.out.blk _ (List.mem_cons_of_mem _ (List.mem_cons_of_mem _ (List.mem_cons_of_mem _ (List.mem_cons_of_mem _ (List.mem_cons_self)))))).2.cell 1 _ rfl; have qz1 := (D9.out.blk _ (List.mem_cons_of_mem _ (List.mem_cons_of_mem _ (List.mem_cons_of_mem _ (List.mem_cons_of_mem _ (List.mem_cons_self)))))).2.frozen 1; have q2 := (D9.out.blk _ (List.mem_cons_of_mem _ (List.mem_cons_of_mem _ (List.mem_cons_of_mem _ (List.mem_cons_of_mem _ (List.mem_cons_self)))))).2.cell 2 _ rfl; have qz2 := (D9.out.blk _ (List.mem_cons_of_mem _ (List.mem_cons_of_mem _ (List.mem_cons_of_mem _ (List.mem_cons_of_mem _ (List.mem_cons_self)))))).2.frozen 2; have qlt := (D9.out).bl (List.mem_cons_of_mem _ (List.mem_cons_of_mem _ (List.mem_cons_of_mem _ (List.mem_cons_of_mem _ (List.mem_cons_self))))))) | (go_at_call 54; go_loud (with_reducible refine (SY.out _ (T0.out.on (D9.out).bel)).mono ?_; rintro e wn10 ⟨rfl, hb⟩; have D10 := Lib.hid ((D9.out).on hb); clear hb; have u0 := (D10.out.blk _ (List.mem_cons_of_mem _ (List.mem_cons_of_mem _ (List.mem_cons_of_mem _ (List.mem_cons_self))))).2.cell 0 _ rfl; have uz0 := (D10.out.blk _ (List.mem_cons_of_mem _ (List.mem_cons_of_mem _ (List.mem_cons_of_mem _ (List.mem_cons_self))))).2.frozen 0; have u1 := (D10.out.blk _ (List.mem_cons_of_mem _ (List.mem_cons_of_mem _ (List.mem_cons_of_mem _ (List.mem_cons_self))))).2.cell 1 _ rfl; have uz1 := (D10.out.blk _ (List.mem_cons_of_mem _ (List.mem_cons_of_mem _ (List.mem_cons_of_mem _ (List.mem_cons_self))))).2.frozen 1; have u2 := (D10.out.blk _ (List.mem_cons_of_mem _ (List.mem_cons_of_mem _ (List.mem_cons_of_mem _ (List.mem_cons_self))))).2.cell 2 _ rfl; have uz2 := (D10.out.blk _ (List.mem_cons_of_mem _ (List.mem_cons_of_mem _ (List.mem_cons_of_mem _ (List.mem_cons_self))))).2.frozen 2; have ult := (D10.out).bl (List.mem_cons_of_mem _ (List.mem_cons_of_mem _ (List.mem_cons_of_mem _ (List.mem_cons_self)))); have q0 := (D10.out.blk _ (List.mem_cons_of_mem _ (List.mem_cons_of_mem _ (List.mem_cons_of_mem _ (List.mem_cons_of_mem _ (List.mem_cons_self)))))).2.cell 0 _ rfl; have qz0 := (D10.out.blk _ (List.mem_cons_of_mem _ (List.mem_cons_of_mem _ (List.mem_cons_of_mem _ (List.mem_cons_of_mem _ (List.mem_cons_self)))))).2.frozen 0; have q1 := (D10.out.blk _ (List.mem_cons_of_mem _ (List.mem_cons_of_mem _ (List.mem_cons_of_mem _ (List.mem_cons_of_mem _ (List.mem_cons_self)))))).2.cell 1 _ rfl; have qz1 := (D10.out.blk _ (List.mem_cons_of_mem _ (List.mem_cons_of_mem _ (List.mem_cons_of_mem _ (List.mem_cons_of_mem _ (List.mem_cons_self)))))).2.frozen 1; have q2 := (D10.out.blk _ (List.mem_cons_of_mem _ (List.mem_cons_of_mem _ (List.mem_cons_of_mem _ (List.mem_cons_of_mem _ (List.mem_cons_self)))))).2.cell 2 _ rfl; have qz2 := (D10.out.blk _ (List.mem_cons_of_mem _ (List.mem_cons_of_mem _ (List.mem_cons_of_mem _ (List.mem_cons_of_mem _ (List.mem_cons_self)))))).2.frozen 2; have qlt := (D10.out).bl (List.mem_cons_of_mem _ (List.mem_cons_of_mem _ (List.mem_cons_of_mem _ (List.mem_cons_of_mem _ (List.mem_cons_self))))))) | (go_at_call 46; go_loud (with_reducible refine (E3.out _ (T0.out.on (D10.out).bel)).mono ?_; rintro e wn11 ⟨rfl, hb⟩; have D11 := Lib.hid ((D10.out).on hb); clear hb)))
  have hu := Tryd.underlying32
  have D12 := Lib.hid (D11.out.new 32 [.int .i64 3, .int .i64 0, .string ⟨#[]⟩])
  obtain ⟨w1, hw1⟩ : ∃ z, z = wn11.alloc (.cells #[.int .i64 3, .int .i64 0, .string ⟨#[]⟩] 32) := ⟨_, rfl⟩
  obtain ⟨x20, hx20⟩ : ∃ z, z = wn11.heap.size := ⟨_, rfl⟩
  rw [← hw1] at D12
  rw [← hx20] at D12
  simp only [← hw1, ← hx20]
  clear hw1 hx20
  have hBB : Below w1.heap.size w1 ({ w1 with drawn := w1.drawn + 1 } : World) := ⟨rfl, rfl, rfl, Nat.le_refl _, fun _ _ => rfl⟩
  refine wp_region_held (S := Below w1.heap.size w1) (by kernel_rfl) ?_
  have hSB := hBB
  generalize ({ w1 with drawn := w1.drawn + 1 } : World) = wB at hSB hBB ⊢
  have hleB := D12.out.bel.size
  have hslB := hSB.size
  have caB0 : ∀ W, Below w1.heap.size w1 W → W.cell? ⟨x20, 0, none⟩ = some (.int .i64 3) := fun W hW => ((D12.out.on hW).blk _ (List.mem_cons_self)).2.cell 0 _ rfl
  have caB1 : ∀ W, Below w1.heap.size w1 W → W.cell? ⟨x20, 1, none⟩ = some (.int .i64 0) := fun W hW => ((D12.out.on hW).blk _ (List.mem_cons_self)).2.cell 1 _ rfl
  have caB2 : ∀ W, Below w1.heap.size w1 W → W.cell? ⟨x20, 2, none⟩ = some (.string ⟨#[]⟩) := fun W hW => ((D12.out.on hW).blk _ (List.mem_cons_self)).2.cell 2 _ rfl
  refine takeH 0 (oi := ⟨some 108, _, _, _, _, _⟩) (v := ?_) rfl (by kernel_rfl) (by kernel_rfl) (by kernel_rfl) (fun _ _ _ h => h) (Or.inl ⟨by rfl, ?hyB201⟩) hSB ?restB201
  case hyB201 => (intro W hW; (try dsimp only at hW); go_simp; try with_reducible rfl)
  try simp only [Act.put, List.setIfInBounds_toArray, List.set_cons_zero, List.set_cons_succ]
  refine takeH 1 (oi := ⟨some 109, _, _, _, _, _⟩) (v := ?_) rfl (by kernel_rfl) (by kernel_rfl) (by kernel_rfl) (fun _ _ _ h => h) (Or.inl ⟨by rfl, ?hyB202⟩) hSB ?restB202
  case hyB202 => (intro W hW; (try dsimp only at hW); go_simp; try with_reducible rfl)
  try simp only [Act.put, List.setIfInBounds_toArray, List.set_cons_zero, List.set_cons_succ]
  refine takeH 2 (oi := ⟨some 110, _, _, _, _, _⟩) (v := ?_) rfl (by kernel_rfl) (by kernel_rfl) (by kernel_rfl) (fun _ _ _ h => h) (Or.inl ⟨by rfl, ?hyB203⟩) hSB ?restB203
  case hyB203 => (intro W hW; (try dsimp only at hW); go_simp; try with_reducible rfl)
  try simp only [Act.put, List.setIfInBounds_toArray, List.set_cons_zero, List.set_cons_succ]
  refine takeH 3 (oi := ⟨some 111, _, _, _, _, _⟩) (v := ?_) rfl (by kernel_rfl) (by kernel_rfl) (by kernel_rfl) (fun _ _ _ h => h) (Or.inl ⟨by rfl, ?hyB204⟩) hSB ?restB204
  case hyB204 => (intro W hW; (try dsimp only at hW); go_simp; try with_reducible rfl)
  try simp only [Act.put, List.setIfInBounds_toArray, List.set_cons_zero, List.set_cons_succ]
  refine takeH 4 (oi := ⟨some 112, _, _, _, _, _⟩) (v := ?_) rfl (by kernel_rfl) (by kernel_rfl) (by kernel_rfl) (fun _ _ _ h => h) (Or.inl ⟨by rfl, ?hyB205⟩) hSB ?restB205
  case hyB205 => (intro W hW; (try dsimp only at hW); go_simp; try with_reducible rfl)
  try simp only [Act.put, List.setIfInBounds_toArray, List.set_cons_zero, List.set_cons_succ]
  refine takeH 5 (oi := ⟨some 113, _, _, _, _, _⟩) (v := ?_) rfl (by kernel_rfl) (by kernel_rfl) (by kernel_rfl) (fun _ _ _ h => h) (Or.inl ⟨by rfl, ?hyB206⟩) hSB ?restB206
  case hyB206 => (intro W hW; (try dsimp only at hW); go_simp; try with_reducible rfl)
  try simp only [Act.put, List.setIfInBounds_toArray, List.set_cons_zero, List.set_cons_succ]
  refine takeH 6 (oi := ⟨some 114, _, _, _, _, _⟩) (v := ?_) rfl (by kernel_rfl) (by kernel_rfl) (by kernel_rfl) (fun _ _ _ h => h) (Or.inl ⟨by rfl, ?hyB207⟩) hSB ?restB207
  case hyB207 => (intro W hW; (try dsimp only at hW); go_simp; try with_reducible rfl)
  try simp only [Act.put, List.setIfInBounds_toArray, List.set_cons_zero, List.set_cons_succ]
  refine takeH 7 (oi := ⟨some 115, _, _, _, _, _⟩) (v := ?_) rfl (by kernel_rfl) (by kernel_rfl) (by kernel_rfl) (fun _ _ _ h => h) (Or.inl ⟨by rfl, ?hyB208⟩) hSB ?restB208
  case hyB208 => (intro W hW; (try dsimp only at hW); go_simp; try with_reducible rfl)
  try simp only [Act.put, List.setIfInBounds_toArray, List.set_cons_zero, List.set_cons_succ]
  refine takeH 8 (oi := ⟨some 116, _, _, _, _, _⟩) (v := ?_) rfl (by kernel_rfl) (by kernel_rfl) (by kernel_rfl) (fun _ _ _ h => h) (Or.inl ⟨by rfl, ?hyB209⟩) hSB ?restB209
  case hyB209 => (intro W hW; (try dsimp only at hW); go_simp; try with_reducible rfl)
  try simp only [Act.put, List.setIfInBounds_toArray, List.set_cons_zero, List.set_cons_succ]
  refine takeH 9 (oi := ⟨some 117, _, _, _, _, _⟩) (v := ?_) rfl (by kernel_rfl) (by kernel_rfl) (by kernel_rfl) (fun _ _ _ h => h) (Or.inl ⟨by rfl, ?hyB210⟩) hSB ?restB210
  case hyB210 => (intro W hW; (try dsimp only at hW); go_simp; try with_reducible rfl)
  try simp only [Act.put, List.setIfInBounds_toArray, List.set_cons_zero, List.set_cons_succ]
  refine takeH 10 (oi := ⟨some 118, _, _, _, _, _⟩) (v := ?_) rfl (by kernel_rfl) (by kernel_rfl) (by kernel_rfl) (fun _ _ _ h => h) (Or.inl ⟨by rfl, ?hyB211⟩) hSB ?restB211
  case hyB211 => (intro W hW; (try dsimp only at hW); go_simp; try with_reducible rfl)
  try simp only [Act.put, List.setIfInBounds_toArray, List.set_cons_zero, List.set_cons_succ]
  refine takeH 11 (oi := ⟨some 119, _, _, _, _, _⟩) (v := ?_) rfl (by kernel_rfl) (by kernel_rfl) (by kernel_rfl) (fun _ _ _ h => h) (Or.inl ⟨by rfl, ?hyB212⟩) hSB ?restB212
  case hyB212 => (intro W hW; (try dsimp only at hW); go_simp; try with_reducible rfl)
  try simp only [Act.put, List.setIfInBounds_toArray, List.set_cons_zero, List.set_cons_succ]
  refine takeH 12 (oi := ⟨some 120, _, _, _, _, _⟩) (v := ?_) rfl (by kernel_rfl) (by kernel_rfl) (by kernel_rfl) (fun _ _ _ h => h) (Or.inl ⟨by rfl, ?hyB213⟩) hSB ?restB213
  case hyB213 => (intro W hW; (try dsimp only at hW); go_simp; try with_reducible rfl)
  try simp only [Act.put, List.setIfInBounds_toArray, List.set_cons_zero, List.set_cons_succ]
  refine takeH 13 (oi := ⟨some 121, _, _, _, _, _⟩) (v := ?_) rfl (by kernel_rfl) (by kernel_rfl) (by kernel_rfl) (fun _ _ _ h => h) (Or.inl ⟨by rfl, ?hyB214⟩) hSB ?restB214
  case hyB214 => (intro W hW; (try dsimp only at hW); go_simp; try with_reducible rfl)
  try simp only [Act.put, List.setIfInBounds_toArray, List.set_cons_zero, List.set_cons_succ]
  refine takeH 14 (oi := ⟨some 122, _, _, _, _, _⟩) (v := ?_) rfl (by kernel_rfl) (by kernel_rfl) (by kernel_rfl) (fun _ _ _ h => h) (Or.inl ⟨by rfl, ?hyB215⟩) hSB ?restB215
  case hyB215 => (intro W hW; (try dsimp only at hW); go_simp; try with_reducible rfl)
  try simp only [Act.put, List.setIfInBounds_toArray, List.set_cons_zero, List.set_cons_succ]
  refine takeH 15 (oi := ⟨some 123, _, _, _, _, _⟩) (v := ?_) rfl (by kernel_rfl) (by kernel_rfl) (by kernel_rfl) (fun _ _ _ h => h) (Or.inl ⟨by rfl, ?hyB216⟩) hSB ?restB216
  case hyB216 => (intro W hW; (try dsimp only at hW); go_simp; try with_reducible rfl)
  try simp only [Act.put, List.setIfInBounds_toArray, List.set_cons_zero, List.set_cons_succ]
  refine takeH 16 (oi := ⟨some 124, _, _, _, _, _⟩) (v := ?_) rfl (by kernel_rfl) (by kernel_rfl) (by kernel_rfl) (fun _ _ _ h => h) (Or.inl ⟨by rfl, ?hyB217⟩) hSB ?restB217
  case hyB217 => (intro W hW; (try dsimp only at hW); go_simp; try with_reducible rfl)
  try simp only [Act.put, List.setIfInBounds_toArray, List.set_cons_zero, List.set_cons_succ]
  refine one (i := 17) (by kernel_rfl) ?_
  refine wpOp_wanted rfl (by rfl) fun K hK => ?_
  go_simp
  with_reducible refine (hStr _ _).mono ?_
  rintro e wB218 ⟨rfl, hb⟩
  have SB218 : Below w1.heap.size w1 wB218 := hSB.trans (hb.mono hSB.size)
  clear hb
  refine hK _ _ ⟨SB218, ?_⟩
  clear hK K
  try simp only [Act.put, List.setIfInBounds_toArray, List.set_cons_zero, List.set_cons_succ]
  refine takeH 18 (oi := ⟨some 126, _, _, _, _, _⟩) (v := ?_) rfl (by kernel_rfl) (by kernel_rfl) (by kernel_rfl) (fun _ _ _ h => h) (Or.inl ⟨by rfl, ?hyB219⟩) SB218 ?restB219
  case hyB219 => (intro W hW; (try dsimp only at hW); go_simp; try with_reducible rfl)
  try simp only [Act.put, List.setIfInBounds_toArray, List.set_cons_zero, List.set_cons_succ]
  refine takeH 19 (oi := ⟨some 127, _, _, _, _, _⟩) (v := ?_) rfl (by kernel_rfl) (by kernel_rfl) (by kernel_rfl) (fun _ _ _ h => h) (Or.inl ⟨by rfl, ?hyB220⟩) SB218 ?restB220
  case hyB220 => (intro W hW; (try dsimp only at hW); go_simp; try with_reducible rfl)
  try simp only [Act.put, List.setIfInBounds_toArray, List.set_cons_zero, List.set_cons_succ]
  refine takeH 20 (oi := ⟨some 128, _, _, _, _, _⟩) (v := ?_) rfl (by kernel_rfl) (by kernel_rfl) (by kernel_rfl) (fun _ _ _ h => h) (Or.inl ⟨by rfl, ?hyB221⟩) SB218 ?restB221
  case hyB221 => (intro W hW; (try dsimp only at hW); go_simp; try with_reducible rfl)
  try simp only [Act.put, List.setIfInBounds_toArray, List.set_cons_zero, List.set_cons_succ]
  refine wpAnyH_done (by kernel_rfl) ?_ _
  clear caB0 caB1 caB2
  have D13 := Lib.hid (D12.out.on SB218)
  generalize wB218 = W4 at D13 ⊢
  have u0 := (D13.out.blk _ (List.mem_cons_of_mem _ (List.mem_cons_of_mem _ (List.mem_cons_of_mem _ (List.mem_cons_of_mem _ (List.mem_cons_self)))))).2.cell 0 _ rfl; have uz0 := (D13.out.blk _ (List.mem_cons_of_mem _ (List.mem_cons_of_mem _ (List.mem_cons_of_mem _ (List.mem_cons_of_mem _ (List.mem_cons_self)))))).2.frozen 0; have u1 := (D13.out.blk _ (List.mem_cons_of_mem _ (List.mem_cons_of_mem _ (List.mem_cons_of_mem _ (List.mem_cons_of_mem _ (List.mem_cons_self)))))).2.cell 1 _ rfl; have uz1 := (D13.out.blk _ (List.mem_cons_of_mem _ (List.mem_cons_of_mem _ (List.mem_cons_of_mem _ (List.mem_cons_of_mem _ (List.mem_cons_self)))))).2.frozen 1; have u2 := (D13.out.blk _ (List.mem_cons_of_mem _ (List.mem_cons_of_mem _ (List.mem_cons_of_mem _ (List.mem_cons_of_mem _ (List.mem_cons_self)))))).2.cell 2 _ rfl; have uz2 := (D13.out.blk _ (List.mem_cons_of_mem _ (List.mem_cons_of_mem _ (List.mem_cons_of_mem _ (List.mem_cons_of_mem _ (List.mem_cons_self)))))).2.frozen 2; have ult := (D13.out).bl (List.mem_cons_of_mem _ (List.mem_cons_of_mem _ (List.mem_cons_of_mem _ (List.mem_cons_of_mem _ (List.mem_cons_self))))); have q0 := (D13.out.blk _ (List.mem_cons_of_mem _ (List.mem_cons_of_mem _ (List.mem_cons_of_mem _ (List.mem_cons_of_mem _ (List.mem_cons_of_mem _ (List.mem_cons_self))))))).2.cell 0 _ rfl; have qz0 := (D13.out.blk _ (List.mem_cons_of_mem _ (List.mem_cons_of_mem _ (List.mem_cons_of_mem _ (List.mem_cons_of_mem _ (List.mem_cons_of_mem _ (List.mem_cons_self))))))).2.frozen 0; have q1 := (D13.out.blk _ (List.mem_cons_of_mem _ (List.mem_cons_of_mem _ (List.mem_cons_of_mem _ (List.mem_cons_of_mem _ (List.mem_cons_of_mem _ (List.mem_cons_self))))))).2.cell 1 _ rfl; have qz1 := (D13.out.blk _ (List.mem_cons_of_mem _ (List.mem_cons_of_mem _ (List.mem_cons_of_mem _ (List.mem_cons_of_mem _ (List.mem_cons_of_mem _ (List.mem_cons_self))))))).2.frozen 1; have q2 := (D13.out.blk _ (List.mem_cons_of_mem _ (List.mem_cons_of_mem _ (List.mem_cons_of_mem _ (List.mem_cons_of_mem _ (List.mem_cons_of_mem _ (List.mem_cons_self))))))).2.cell 2 _ rfl; have qz2 := (D13.out.blk _ (List.mem_cons_of_mem _ (List.mem_cons_of_mem _ (List.mem_cons_of_mem _ (List.mem_cons_of_mem _ (List.mem_cons_of_mem _ (List.mem_cons_self))))))).2.frozen 2; have qlt := (D13.out).bl (List.mem_cons_of_mem _ (List.mem_cons_of_mem _ (List.mem_cons_of_mem _ (List.mem_cons_of_mem _ (List.mem_cons_of_mem _ (List.mem_cons_self))))))
  go_upto_region 19 with (first | (go_at_call 46; go_loud (with_reducible refine (E4.out _ (T0.out.on (D13.out).bel)).mono ?_; rintro e wn14 ⟨rfl, hb⟩; have D14 := Lib.hid ((D13.out).on hb); clear hb)) | (go_at_call 55; go_loud (with_reducible refine (hStr _ _).mono ?_; rintro e wn15 ⟨rfl, hb⟩; have D15 := Lib.hid ((D14.out.new 32 [.int .i64 3, .int .i64 0, .string ⟨#[]⟩]).on hb); clear hb)) | (go_at_call 56; go_loud (with_reducible refine (ON.out _ (T0.out.on (D15.out).bel)).mono ?_; rintro e wn16 ⟨rfl, hb⟩; have D16 := Lib.hid ((D15.out).on hb); clear hb)))
  have D17 := Lib.hid (D16.out.new 32 [.int .i64 2, .int .i64 0, .string ⟨#[]⟩])
  obtain ⟨w5, hw5⟩ : ∃ z, z = wn16.alloc (.cells #[.int .i64 2, .int .i64 0, .string ⟨#[]⟩] 32) := ⟨_, rfl⟩
  obtain ⟨x24, hx24⟩ : ∃ z, z = wn16.heap.size := ⟨_, rfl⟩
  rw [← hw5] at D17
  rw [← hx24] at D17
  simp only [← hw5, ← hx24]
  clear hw5 hx24
  have hBE : Below w5.heap.size w5 ({ w5 with drawn := w5.drawn + 1 } : World) := ⟨rfl, rfl, rfl, Nat.le_refl _, fun _ _ => rfl⟩
  refine wp_region_held (S := Below w5.heap.size w5) (by kernel_rfl) ?_
  have hSE := hBE
  generalize ({ w5 with drawn := w5.drawn + 1 } : World) = wE at hSE hBE ⊢
  have hleE := D17.out.bel.size
  have hslE := hSE.size
  have naE0 : ∀ W, Below w5.heap.size w5 W → W.cell? ⟨x24, 0, none⟩ = some (.int .i64 2) := fun W hW => ((D17.out.on hW).blk _ (List.mem_cons_self)).2.cell 0 _ rfl
  have naE1 : ∀ W, Below w5.heap.size w5 W → W.cell? ⟨x24, 1, none⟩ = some (.int .i64 0) := fun W hW => ((D17.out.on hW).blk _ (List.mem_cons_self)).2.cell 1 _ rfl
  have naE2 : ∀ W, Below w5.heap.size w5 W → W.cell? ⟨x24, 2, none⟩ = some (.string ⟨#[]⟩) := fun W hW => ((D17.out.on hW).blk _ (List.mem_cons_self)).2.cell 2 _ rfl
  refine takeH 0 (oi := ⟨some 147, _, _, _, _, _⟩) (v := ?_) rfl (by kernel_rfl) (by kernel_rfl) (by kernel_rfl) (fun _ _ _ h => h) (Or.inl ⟨by rfl, ?hyE222⟩) hSE ?restE222
  case hyE222 => (intro W hW; (try dsimp only at hW); go_simp; try with_reducible rfl)
  try simp only [Act.put, List.setIfInBounds_toArray, List.set_cons_zero, List.set_cons_succ]
  refine takeH 1 (oi := ⟨some 148, _, _, _, _, _⟩) (v := ?_) rfl (by kernel_rfl) (by kernel_rfl) (by kernel_rfl) (fun _ _ _ h => h) (Or.inl ⟨by rfl, ?hyE223⟩) hSE ?restE223
  case hyE223 => (intro W hW; (try dsimp only at hW); go_simp; try with_reducible rfl)
  try simp only [Act.put, List.setIfInBounds_toArray, List.set_cons_zero, List.set_cons_succ]
  refine takeH 2 (oi := ⟨some 149, _, _, _, _, _⟩) (v := ?_) rfl (by kernel_rfl) (by kernel_rfl) (by kernel_rfl) (fun _ _ _ h => h) (Or.inl ⟨by rfl, ?hyE224⟩) hSE ?restE224
  case hyE224 => (intro W hW; (try dsimp only at hW); go_simp; try with_reducible rfl)
  try simp only [Act.put, List.setIfInBounds_toArray, List.set_cons_zero, List.set_cons_succ]
  refine takeH 3 (oi := ⟨some 150, _, _, _, _, _⟩) (v := ?_) rfl (by kernel_rfl) (by kernel_rfl) (by kernel_rfl) (fun _ _ _ h => h) (Or.inl ⟨by rfl, ?hyE225⟩) hSE ?restE225
  case hyE225 => (intro W hW; (try dsimp only at hW); go_simp; try with_reducible rfl)
  try simp only [Act.put, List.setIfInBounds_toArray, List.set_cons_zero, List.set_cons_succ]
  refine takeH 4 (oi := ⟨some 151, _, _, _, _, _⟩) (v := ?_) rfl (by kernel_rfl) (by kernel_rfl) (by kernel_rfl) (fun _ _ _ h => h) (Or.inl ⟨by rfl, ?hyE226⟩) hSE ?restE226
  case hyE226 => (intro W hW; (try dsimp only at hW); go_simp; try with_reducible rfl)
  try simp only [Act.put, List.setIfInBounds_toArray, List.set_cons_zero, List.set_cons_succ]
  refine takeH 5 (oi := ⟨some 152, _, _, _, _, _⟩) (v := ?_) rfl (by kernel_rfl) (by kernel_rfl) (by kernel_rfl) (fun _ _ _ h => h) (Or.inl ⟨by rfl, ?hyE227⟩) hSE ?restE227
  case hyE227 => (intro W hW; (try dsimp only at hW); go_simp; try with_reducible rfl)
  try simp only [Act.put, List.setIfInBounds_toArray, List.set_cons_zero, List.set_cons_succ]
  refine takeH 6 (oi := ⟨some 153, _, _, _, _, _⟩) (v := ?_) rfl (by kernel_rfl) (by kernel_rfl) (by kernel_rfl) (fun _ _ _ h => h) (Or.inl ⟨by rfl, ?hyE228⟩) hSE ?restE228
  case hyE228 => (intro W hW; (try dsimp only at hW); go_simp; try with_reducible rfl)
  try simp only [Act.put, List.setIfInBounds_toArray, List.set_cons_zero, List.set_cons_succ]
  refine takeH 7 (oi := ⟨some 154, _, _, _, _, _⟩) (v := ?_) rfl (by kernel_rfl) (by kernel_rfl) (by kernel_rfl) (fun _ _ _ h => h) (Or.inl ⟨by rfl, ?hyE229⟩) hSE ?restE229
  case hyE229 => (intro W hW; (try dsimp only at hW); go_simp; try with_reducible rfl)
  try simp only [Act.put, List.setIfInBounds_toArray, List.set_cons_zero, List.set_cons_succ]
  refine takeH 8 (oi := ⟨some 155, _, _, _, _, _⟩) (v := ?_) rfl (by kernel_rfl) (by kernel_rfl) (by kernel_rfl) (fun _ _ _ h => h) (Or.inl ⟨by rfl, ?hyE230⟩) hSE ?restE230
  case hyE230 => (intro W hW; (try dsimp only at hW); go_simp; try with_reducible rfl)
  try simp only [Act.put, List.setIfInBounds_toArray, List.set_cons_zero, List.set_cons_succ]
  refine takeH 9 (oi := ⟨some 156, _, _, _, _, _⟩) (v := ?_) rfl (by kernel_rfl) (by kernel_rfl) (by kernel_rfl) (fun _ _ _ h => h) (Or.inl ⟨by rfl, ?hyE231⟩) hSE ?restE231
  case hyE231 => (intro W hW; (try dsimp only at hW); go_simp; try with_reducible rfl)
  try simp only [Act.put, List.setIfInBounds_toArray, List.set_cons_zero, List.set_cons_succ]
  refine takeH 10 (oi := ⟨some 157, _, _, _, _, _⟩) (v := ?_) rfl (by kernel_rfl) (by kernel_rfl) (by kernel_rfl) (fun _ _ _ h => h) (Or.inl ⟨by rfl, ?hyE232⟩) hSE ?restE232
  case hyE232 => (intro W hW; (try dsimp only at hW); go_simp; try with_reducible rfl)
  try simp only [Act.put, List.setIfInBounds_toArray, List.set_cons_zero, List.set_cons_succ]
  refine takeH 11 (oi := ⟨some 158, _, _, _, _, _⟩) (v := ?_) rfl (by kernel_rfl) (by kernel_rfl) (by kernel_rfl) (fun _ _ _ h => h) (Or.inl ⟨by rfl, ?hyE233⟩) hSE ?restE233
  case hyE233 => (intro W hW; (try dsimp only at hW); go_simp; try with_reducible rfl)
  try simp only [Act.put, List.setIfInBounds_toArray, List.set_cons_zero, List.set_cons_succ]
  refine takeH 12 (oi := ⟨some 159, _, _, _, _, _⟩) (v := ?_) rfl (by kernel_rfl) (by kernel_rfl) (by kernel_rfl) (fun _ _ _ h => h) (Or.inl ⟨by rfl, ?hyE234⟩) hSE ?restE234
  case hyE234 => (intro W hW; (try dsimp only at hW); go_simp; try with_reducible rfl)
  try simp only [Act.put, List.setIfInBounds_toArray, List.set_cons_zero, List.set_cons_succ]
  refine takeH 13 (oi := ⟨some 160, _, _, _, _, _⟩) (v := ?_) rfl (by kernel_rfl) (by kernel_rfl) (by kernel_rfl) (fun _ _ _ h => h) (Or.inl ⟨by rfl, ?hyE235⟩) hSE ?restE235
  case hyE235 => (intro W hW; (try dsimp only at hW); go_simp; try with_reducible rfl)
  try simp only [Act.put, List.setIfInBounds_toArray, List.set_cons_zero, List.set_cons_succ]
  refine takeH 14 (oi := ⟨some 161, _, _, _, _, _⟩) (v := undef) rfl (by kernel_rfl) (by kernel_rfl) (by kernel_rfl) (fun _ _ _ h => h) (Or.inr ⟨by rfl, rfl⟩) hSE ?restE236
  try simp only [Act.put, List.setIfInBounds_toArray, List.set_cons_zero, List.set_cons_succ]
  refine takeH 15 (oi := ⟨some 162, _, _, _, _, _⟩) (v := undef) rfl (by kernel_rfl) (by kernel_rfl) (by kernel_rfl) (fun _ _ _ h => h) (Or.inr ⟨by rfl, rfl⟩) hSE ?restE237
  try simp only [Act.put, List.setIfInBounds_toArray, List.set_cons_zero, List.set_cons_succ]
  refine takeH 16 (oi := ⟨some 163, _, _, _, _, _⟩) (v := ?_) rfl (by kernel_rfl) (by kernel_rfl) (by kernel_rfl) (fun _ _ _ h => h) (Or.inl ⟨by rfl, ?hyE238⟩) hSE ?restE238
  case hyE238 => (intro W hW; (try dsimp only at hW); go_simp; try with_reducible rfl)
  try simp only [Act.put, List.setIfInBounds_toArray, List.set_cons_zero, List.set_cons_succ]
  refine takeH 17 (oi := ⟨some 164, _, _, _, _, _⟩) (v := ?_) rfl (by kernel_rfl) (by kernel_rfl) (by kernel_rfl) (fun _ _ _ h => h) (Or.inl ⟨by rfl, ?hyE239⟩) hSE ?restE239
  case hyE239 => (intro W hW; (try dsimp only at hW); go_simp; try with_reducible rfl)
  try simp only [Act.put, List.setIfInBounds_toArray, List.set_cons_zero, List.set_cons_succ]
  refine takeH 18 (oi := ⟨some 165, _, _, _, _, _⟩) (v := ?_) rfl (by kernel_rfl) (by kernel_rfl) (by kernel_rfl) (fun _ _ _ h => h) (Or.inl ⟨by rfl, ?hyE240⟩) hSE ?restE240
  case hyE240 => (intro W hW; (try dsimp only at hW); go_simp; try with_reducible rfl)
  try simp only [Act.put, List.setIfInBounds_toArray, List.set_cons_zero, List.set_cons_succ]
  refine takeH 19 (oi := ⟨some 166, _, _, _, _, _⟩) (v := ?_) rfl (by kernel_rfl) (by kernel_rfl) (by kernel_rfl) (fun _ _ _ h => h) (Or.inl ⟨by rfl, ?hyE241⟩) hSE ?restE241
  case hyE241 => (intro W hW; (try dsimp only at hW); go_simp; try with_reducible rfl)
  try simp only [Act.put, List.setIfInBounds_toArray, List.set_cons_zero, List.set_cons_succ]
  refine takeH 20 (oi := ⟨some 167, _, _, _, _, _⟩) (v := ?_) rfl (by kernel_rfl) (by kernel_rfl) (by kernel_rfl) (fun _ _ _ h => h) (Or.inl ⟨by rfl, ?hyE242⟩) hSE ?restE242
  case hyE242 => (intro W hW; (try dsimp only at hW); go_simp; try with_reducible rfl)
  try simp only [Act.put, List.setIfInBounds_toArray, List.set_cons_zero, List.set_cons_succ]
  refine takeH 21 (oi := ⟨some 168, _, _, _, _, _⟩) (v := ?_) rfl (by kernel_rfl) (by kernel_rfl) (by kernel_rfl) (fun _ _ _ h => h) (Or.inl ⟨by rfl, ?hyE243⟩) hSE ?restE243
  case hyE243 => (intro W hW; (try dsimp only at hW); go_simp; try with_reducible rfl)
  try simp only [Act.put, List.setIfInBounds_toArray, List.set_cons_zero, List.set_cons_succ]
  refine takeH 22 (oi := ⟨some 169, _, _, _, _, _⟩) (v := ?_) rfl (by kernel_rfl) (by kernel_rfl) (by kernel_rfl) (fun _ _ _ h => h) (Or.inl ⟨by rfl, ?hyE244⟩) hSE ?restE244
  case hyE244 => (intro W hW; (try dsimp only at hW); go_simp; try with_reducible rfl)
  try simp only [Act.put, List.setIfInBounds_toArray, List.set_cons_zero, List.set_cons_succ]
  refine takeH 23 (oi := ⟨some 170, _, _, _, _, _⟩) (v := ?_) rfl (by kernel_rfl) (by kernel_rfl) (by kernel_rfl) (fun _ _ _ h => h) (Or.inl ⟨by rfl, ?hyE245⟩) hSE ?restE245
  case hyE245 => (intro W hW; (try dsimp only at hW); go_simp; try with_reducible rfl)
  try simp only [Act.put, List.setIfInBounds_toArray, List.set_cons_zero, List.set_cons_succ]
  refine takeH 24 (oi := ⟨some 171, _, _, _, _, _⟩) (v := ?_) rfl (by kernel_rfl) (by kernel_rfl) (by kernel_rfl) (fun _ _ _ h => h) (Or.inl ⟨by rfl, ?hyE246⟩) hSE ?restE246
  case hyE246 => (intro W hW; (try dsimp only at hW); go_simp; try with_reducible rfl)
  try simp only [Act.put, List.setIfInBounds_toArray, List.set_cons_zero, List.set_cons_succ]
  refine one (i := 25) (by kernel_rfl) ?_
  refine wpOp_wanted rfl (by rfl) fun K hK => ?_
  go_simp
  with_reducible refine (hInt _ _).mono ?_
  rintro e wE247 ⟨rfl, hb⟩
  have SE247 : Below w5.heap.size w5 wE247 := hSE.trans (hb.mono hSE.size)
  clear hb
  refine hK _ _ ⟨SE247, ?_⟩
  clear hK K
  try simp only [Act.put, List.setIfInBounds_toArray, List.set_cons_zero, List.set_cons_succ]
  refine takeH 26 (oi := ⟨some 173, _, _, _, _, _⟩) (v := ?_) rfl (by kernel_rfl) (by kernel_rfl) (by kernel_rfl) (fun _ _ _ h => h) (Or.inl ⟨by rfl, ?hyE248⟩) SE247 ?restE248
  case hyE248 => (intro W hW; (try dsimp only at hW); go_simp; try with_reducible rfl)
  try simp only [Act.put, List.setIfInBounds_toArray, List.set_cons_zero, List.set_cons_succ]
  refine takeH 27 (oi := ⟨some 174, _, _, _, _, _⟩) (v := ?_) rfl (by kernel_rfl) (by kernel_rfl) (by kernel_rfl) (fun _ _ _ h => h) (Or.inl ⟨by rfl, ?hyE249⟩) SE247 ?restE249
  case hyE249 => (intro W hW; (try dsimp only at hW); go_simp; try with_reducible rfl)
  try simp only [Act.put, List.setIfInBounds_toArray, List.set_cons_zero, List.set_cons_succ]
  refine takeH 28 (oi := ⟨some 6, _, _, _, _, _⟩) (v := ?_) rfl (by kernel_rfl) (by kernel_rfl) (by kernel_rfl) (fun _ _ _ h => h) (Or.inl ⟨by rfl, ?hyE250⟩) SE247 ?restE250
  case hyE250 => (intro W hW; (try dsimp only at hW); go_simp; try with_reducible rfl)
  try simp only [Act.put, List.setIfInBounds_toArray, List.set_cons_zero, List.set_cons_succ]
  refine wpAnyH_done (by kernel_rfl) ?_ _
  clear naE0 naE1 naE2
  go_wp2_with fail
  go_ret
  exact ⟨rfl, (D17.out.on SE247).bel⟩
set_option maxHeartbeats 16000000 in
set_option maxRecDepth 20000 in
theorem nu22 (m op : Int) (k0 n0 : Int) (s0 : ByteArray) (k1 n1 : Int) (s1 : ByteArray) (x y : Int) (z : Bool) (S T : ByteArray) (y1 y2 : Int) (y3 : ByteArray) (y4 : Int) (hg : ∀ b W, Blk W b 32 [.int .i64 k0, .int .i64 n0, .string s0, .int .i64 k1, .int .i64 n1, .string s1] → Calls Tryd.prog 44 #[.slice (some ⟨b, 0, none⟩) 2 2] W fun e w' => e = .returned (.bool false) ∧ Below W.heap.size W w') (hop : wrap64 (1 + (wrap64 m).tmod 10) = op) (hx : numberF k0 n0 s0 = some (x, false)) (hy : numberF k1 n1 s1 = some (y, z)) (d1 : doF op k0 n0 s0 k1 n1 s1 0 = some (0, 0, ⟨#[]⟩, 18)) (d2 : doF op 2 x ⟨#[]⟩ 2 y ⟨#[]⟩ 0 = some (y1, y2, y3, y4)) (hs : stringF k0 n0 s0 = some (S, true)) (ht : stringF k1 n1 s1 = some (T, true)) (d3 : doF 11 k0 n0 s0 k1 n1 s1 ((S.size : Int) + (T.size : Int)) = some (3, 0, (S ++ T), 0)) (d4 : doF 11 k0 n0 s0 k1 n1 s1 ((S.size : Int) + (T.size : Int) - 1) = some (0, 0, ⟨#[]⟩, 3)) (o1 : oneF 23 3 0 S = some (2, (S.size : Int), ⟨#[]⟩, 0)) (hw1 : IntKind.i64.wrap ((S.size : Int) + (T.size : Int)) = (S.size : Int) + (T.size : Int)) (hw2 : IntKind.i64.wrap ((S.size : Int) + (T.size : Int) - 1) = (S.size : Int) + (T.size : Int) - 1) (hv1 : wrap64 ((S.size : Int) + (T.size : Int)) = (S.size : Int) + (T.size : Int)) (hv2 : wrap64 ((S.size : Int) + (T.size : Int) - 1) = (S.size : Int) + (T.size : Int) - 1) (hz2 : (9223372036854775807 < S.size + T.size) = False) (hz : ((S.size : Int) + (T.size : Int) = 0) = False) (hzb : ((S.size : Int) + (T.size : Int) == 0) = false) (w : World) (hT : Tab w) : Calls Tryd.prog 10 #[.int .u8 m, .agg #[.int .i64 k0, .int .i64 n0, .string s0], .agg #[.int .i64 k1, .int .i64 n1, .string s1]] w fun e w' => e = .returned (.bool true) ∧ Below w.heap.size w w' := by
  have T0 := Lib.hid hT
  have D0 := Lib.hid (OD.start2 w 32 [.int .i64 k0, .int .i64 n0, .string s0] [.int .i64 k1, .int .i64 n1, .string s1])
  have AL := Lib.hid (fun W hW => alive_calls true W hW rfl)
  have GR := Lib.hid hg
  have NX := Lib.hid (fun W hW => number_calls k0 n0 s0 x false W hW hx)
  have NY := Lib.hid (fun W hW => number_calls k1 n1 s1 y z W hW hy)
  have E1 := Lib.hid (fun W hW => do_calls op k0 n0 s0 k1 n1 s1 0 (0) (0) (⟨#[]⟩) (18) W hW d1)
  have E2 := Lib.hid (fun W hW => do_calls op 2 x ⟨#[]⟩ 2 y ⟨#[]⟩ 0 (y1) (y2) (y3) (y4) W hW d2)
  have SX := Lib.hid (fun W hW => string_calls k0 n0 s0 S true W hW hs)
  have SY := Lib.hid (fun W hW => string_calls k1 n1 s1 T true W hW ht)
  have E3 := Lib.hid (fun W hW => do_calls 11 k0 n0 s0 k1 n1 s1 ((S.size : Int) + (T.size : Int)) (3) (0) ((S ++ T)) (0) W hW d3)
  have E4 := Lib.hid (fun W hW => do_calls 11 k0 n0 s0 k1 n1 s1 ((S.size : Int) + (T.size : Int) - 1) (0) (0) (⟨#[]⟩) (3) W hW d4)
  have ON := Lib.hid (fun W hW => one_calls 23 3 0 S 2 (S.size : Int) ⟨#[]⟩ 0 W hW o1)
  clear hT hg hx hy d1 d2 hs ht d3 d4 o1
  go_enter Tryd.func10, Tryd.ntmps10
  go_upto_region 15 with (first | (go_at_call 43; go_loud (with_reducible refine (AL.out _ (T0.out.on D0.out.bel)).mono ?_; rintro e wn1 ⟨rfl, hb⟩; have D1 := Lib.hid ((D0.out).on hb); clear hb; have u0 := (D1.out.blk _ (List.mem_cons_self)).2.cell 0 _ rfl; have uz0 := (D1.out.blk _ (List.mem_cons_self)).2.frozen 0; have u1 := (D1.out.blk _ (List.mem_cons_self)).2.cell 1 _ rfl; have uz1 := (D1.out.blk _ (List.mem_cons_self)).2.frozen 1; have u2 := (D1.out.blk _ (List.mem_cons_self)).2.cell 2 _ rfl; have uz2 := (D1.out.blk _ (List.mem_cons_self)).2.frozen 2; have ult := (D1.out).bl (List.mem_cons_self); have q0 := (D1.out.blk _ (List.mem_cons_of_mem _ (List.mem_cons_self))).2.cell 0 _ rfl; have qz0 := (D1.out.blk _ (List.mem_cons_of_mem _ (List.mem_cons_self))).2.frozen 0; have q1 := (D1.out.blk _ (List.mem_cons_of_mem _ (List.mem_cons_self))).2.cell 1 _ rfl; have qz1 := (D1.out.blk _ (List.mem_cons_of_mem _ (List.mem_cons_self))).2.frozen 1; have q2 := (D1.out.blk _ (List.mem_cons_of_mem _ (List.mem_cons_self))).2.cell 2 _ rfl; have qz2 := (D1.out.blk _ (List.mem_cons_of_mem _ (List.mem_cons_self))).2.frozen 2; have qlt := (D1.out).bl (List.mem_cons_of_mem _ (List.mem_cons_self)))) | (go_at_call 44; go_loud (with_reducible refine (GR.out _ _ (Blk.new _ [.int .i64 k0, .int .i64 n0, .string s0, .int .i64 k1, .int .i64 n1, .string s1] 32)).mono ?_; rintro e wn2 ⟨rfl, hb⟩; have D2 := Lib.hid ((D1.out.new 32 [.int .i64 k0, .int .i64 n0, .string s0, .int .i64 k1, .int .i64 n1, .string s1]).on hb); clear hb; have u0 := (D2.out.blk _ (List.mem_cons_of_mem _ (List.mem_cons_self))).2.cell 0 _ rfl; have uz0 := (D2.out.blk _ (List.mem_cons_of_mem _ (List.mem_cons_self))).2.frozen 0; have u1 := (D2.out.blk _ (List.mem_cons_of_mem _ (List.mem_cons_self))).2.cell 1 _ rfl; have uz1 := (D2.out.blk _ (List.mem_cons_of_mem _ (List.mem_cons_self))).2.frozen 1; have u2 := (D2.out.blk _ (List.mem_cons_of_mem _ (List.mem_cons_self))).2.cell 2 _ rfl; have uz2 := (D2.out.blk _ (List.mem_cons_of_mem _ (List.mem_cons_self))).2.frozen 2; have ult := (D2.out).bl (List.mem_cons_of_mem _ (List.mem_cons_self)); have q0 := (D2.out.blk _ (List.mem_cons_of_mem _ (List.mem_cons_of_mem _ (List.mem_cons_self)))).2.cell 0 _ rfl; have qz0 := (D2.out.blk _ (List.mem_cons_of_mem _ (List.mem_cons_of_mem _ (List.mem_cons_self)))).2.frozen 0; have q1 := (D2.out.blk _ (List.mem_cons_of_mem _ (List.mem_cons_of_mem _ (List.mem_cons_self)))).2.cell 1 _ rfl; have qz1 := (D2.out.blk _ (List.mem_cons_of_mem _ (List.mem_cons_of_mem _ (List.mem_cons_self)))).2.frozen 1; have q2 := (D2.out.blk _ (List.mem_cons_of_mem _ (List.mem_cons_of_mem _ (List.mem_cons_self)))).2.cell 2 _ rfl; have qz2 := (D2.out.blk _ (List.mem_cons_of_mem _ (List.mem_cons_of_mem _ (List.mem_cons_self)))).2.frozen 2; have qlt := (D2.out).bl (List.mem_cons_of_mem _ (List.mem_cons_of_mem _ (List.mem_cons_self))))) | (go_at_call 52; go_loud (with_reducible refine (NX.out _ (T0.out.on (D2.out).bel)).mono ?_; rintro e wn3 ⟨rfl, hb⟩; have D3 := Lib.hid ((D2.out).on hb); clear hb; have u0 := (D3.out.blk _ (List.mem_cons_of_mem _ (List.mem_cons_self))).2.cell 0 _ rfl; have uz0 := (D3.out.blk _ (List.mem_cons_of_mem _ (List.mem_cons_self))).2.frozen 0; have u1 := (D3.out.blk _ (List.mem_cons_of_mem _ (List.mem_cons_self))).2.cell 1 _ rfl; have uz1 := (D3.out.blk _ (List.mem_cons_of_mem _ (List.mem_cons_self))).2.frozen 1; have u2 := (D3.out.blk _ (List.mem_cons_of_mem _ (List.mem_cons_self))).2.cell 2 _ rfl; have uz2 := (D3.out.blk _ (List.mem_cons_of_mem _ (List.mem_cons_self))).2.frozen 2; have ult := (D3.out).bl (List.mem_cons_of_mem _ (List.mem_cons_self)); have q0 := (D3.out.blk _ (List.mem_cons_of_mem _ (List.mem_cons_of_mem _ (List.mem_cons_self)))).2.cell 0 _ rfl; have qz0 := (D3.out.blk _ (List.mem_cons_of_mem _ (List.mem_cons_of_mem _ (List.mem_cons_self)))).2.frozen 0; have q1 := (D3.out.blk _ (List.mem_cons_of_mem _ (List.mem_cons_of_mem _ (List.mem_cons_self)))).2.cell 1 _ rfl; have qz1 := (D3.out.blk _ (List.mem_cons_of_mem _ (List.mem_cons_of_mem _ (List.mem_cons_self)))).2.frozen 1; have q2 := (D3.out.blk _ (List.mem_cons_of_mem _ (List.mem_cons_of_mem _ (List.mem_cons_self)))).2.cell 2 _ rfl; have qz2 := (D3.out.blk _ (List.mem_cons_of_mem _ (List.mem_cons_of_mem _ (List.mem_cons_self)))).2.frozen 2; have qlt := (D3.out).bl (List.mem_cons_of_mem _ (List.mem_cons_of_mem _ (List.mem_cons_self))))) | (go_at_call 52; go_loud (with_reducible refine (NY.out _ (T0.out.on (D3.out).bel)).mono ?_; rintro e wn4 ⟨rfl, hb⟩; have D4 := Lib.hid ((D3.out).on hb); clear hb; have u0 := (D4.out.blk _ (List.mem_cons_of_mem _ (List.mem_cons_self))).2.cell 0 _ rfl; have uz0 := (D4.out.blk _ (List.mem_cons_of_mem _ (List.mem_cons_self))).2.frozen 0; have u1 := (D4.out.blk _ (List.mem_cons_of_mem _ (List.mem_cons_self))).2.cell 1 _ rfl; have uz1 := (D4.out.blk _ (List.mem_cons_of_mem _ (List.mem_cons_self))).2.frozen 1; have u2 := (D4.out.blk _ (List.mem_cons_of_mem _ (List.mem_cons_self))).2.cell 2 _ rfl; have uz2 := (D4.out.blk _ (List.mem_cons_of_mem _ (List.mem_cons_self))).2.frozen 2; have ult := (D4.out).bl (List.mem_cons_of_mem _ (List.mem_cons_self)); have q0 := (D4.out.blk _ (List.mem_cons_of_mem _ (List.mem_cons_of_mem _ (List.mem_cons_self)))).2.cell 0 _ rfl; have qz0 := (D4.out.blk _ (List.mem_cons_of_mem _ (List.mem_cons_of_mem _ (List.mem_cons_self)))).2.frozen 0; have q1 := (D4.out.blk _ (List.mem_cons_of_mem _ (List.mem_cons_of_mem _ (List.mem_cons_self)))).2.cell 1 _ rfl; have qz1 := (D4.out.blk _ (List.mem_cons_of_mem _ (List.mem_cons_of_mem _ (List.mem_cons_self)))).2.frozen 1; have q2 := (D4.out.blk _ (List.mem_cons_of_mem _ (List.mem_cons_of_mem _ (List.mem_cons_self)))).2.cell 2 _ rfl; have qz2 := (D4.out.blk _ (List.mem_cons_of_mem _ (List.mem_cons_of_mem _ (List.mem_cons_self)))).2.frozen 2; have qlt := (D4.out).bl (List.mem_cons_of_mem _ (List.mem_cons_of_mem _ (List.mem_cons_self))))) | (go_at_call 46; go_loud (with_reducible refine (E1.out _ (T0.out.on (D4.out).bel)).mono ?_; rintro e wn5 ⟨rfl, hb⟩; have D5 := Lib.hid ((D4.out).on hb); clear hb)) | (go_at_call 53; go_loud (with_reducible refine (hInt x _).mono ?_; rintro e wn6 ⟨rfl, hb⟩; have D6 := Lib.hid ((D5.out.new 32 [.int .i64 0, .int .i64 0, .string ⟨#[]⟩]).on hb); clear hb)) | (go_at_call 53; go_loud (with_reducible refine (hInt y _).mono ?_; rintro e wn7 ⟨rfl, hb⟩; have D7 := Lib.hid ((D6.out).on hb); clear hb)) | (go_at_call 46; go_loud (with_reducible refine (E2.out _ (T0.out.on (D7.out).bel)).mono ?_; rintro e wn8 ⟨rfl, hb⟩; have D8 := Lib.hid ((D7.out).on hb); clear hb; have r0 := (D8.out.blk _ (List.mem_cons_self)).2.cell 0 _ rfl; have rz0 := (D8.out.blk _ (List.mem_cons_self)).2.frozen 0; have r1 := (D8.out.blk _ (List.mem_cons_self)).2.cell 1 _ rfl; have rz1 := (D8.out.blk _ (List.mem_cons_self)).2.frozen 1; have r2 := (D8.out.blk _ (List.mem_cons_self)).2.cell 2 _ rfl; have rz2 := (D8.out.blk _ (List.mem_cons_self)).2.frozen 2; have rlt := (D8.out).bl (List.mem_cons_self); have u0 := (D8.out.blk _ (List.mem_cons_of_mem _ (List.mem_cons_of_mem _ (List.mem_cons_self)))).2.cell 0 _ rfl; have uz0 := (D8.out.blk _ (List.mem_cons_of_mem _ (List.mem_cons_of_mem _ (List.mem_cons_self)))).2.frozen 0; have u1 := (D8.out.blk _ (List.mem_cons_of_mem _ (List.mem_cons_of_mem _ (List.mem_cons_self)))).2.cell 1 _ rfl; have uz1 := (D8.out.blk _ (List.mem_cons_of_mem _ (List.mem_cons_of_mem _ (List.mem_cons_self)))).2.frozen 1; have u2 := (D8.out.blk _ (List.mem_cons_of_mem _ (List.mem_cons_of_mem _ (List.mem_cons_self)))).2.cell 2 _ rfl; have uz2 := (D8.out.blk _ (List.mem_cons_of_mem _ (List.mem_cons_of_mem _ (List.mem_cons_self)))).2.frozen 2; have ult := (D8.out).bl (List.mem_cons_of_mem _ (List.mem_cons_of_mem _ (List.mem_cons_self))); have q0 := (D8.out.blk _ (List.mem_cons_of_mem _ (List.mem_cons_of_mem _ (List.mem_cons_of_mem _ (List.mem_cons_self))))).2.cell 0 _ rfl; have qz0 := (D8.out.blk _ (List.mem_cons_of_mem _ (List.mem_cons_of_mem _ (List.mem_cons_of_mem _ (List.mem_cons_self))))).2.frozen 0; have q1 := (D8.out.blk _ (List.mem_cons_of_mem _ (List.mem_cons_of_mem _ (List.mem_cons_of_mem _ (List.mem_cons_self))))).2.cell 1 _ rfl; have qz1 := (D8.out.blk _ (List.mem_cons_of_mem _ (List.mem_cons_of_mem _ (List.mem_cons_of_mem _ (List.mem_cons_self))))).2.frozen 1; have q2 := (D8.out.blk _ (List.mem_cons_of_mem _ (List.mem_cons_of_mem _ (List.mem_cons_of_mem _ (List.mem_cons_self))))).2.cell 2 _ rfl; have qz2 := (D8.out.blk _ (List.mem_cons_of_mem _ (List.mem_cons_of_mem _ (List.mem_cons_of_mem _ (List.mem_cons_self))))).2.frozen 2; have qlt := (D8.out).bl (List.mem_cons_of_mem _ (List.mem_cons_of_mem _ (List.mem_cons_of_mem _ (List.mem_cons_self)))))) | (go_at_call 54; go_loud (with_reducible refine (SX.out _ (T0.out.on (D8.out.new 32 [.int .i64 y1, .int .i64 y2, .string y3]).bel)).mono ?_; rintro e wn9 ⟨rfl, hb⟩; have D9 := Lib.hid ((D8.out.new 32 [.int .i64 y1, .int .i64 y2, .string y3]).on hb); clear hb; have u0 := (D9.out.blk _ (List.mem_cons_of_mem _ (List.mem_cons_of_mem _ (List.mem_cons_of_mem _ (List.mem_cons_self))))).2.cell 0 _ rfl; have uz0 := (D9.out.blk _ (List.mem_cons_of_mem _ (List.mem_cons_of_mem _ (List.mem_cons_of_mem _ (List.mem_cons_self))))).2.frozen 0; have u1 := (D9.out.blk _ (List.mem_cons_of_mem _ (List.mem_cons_of_mem _ (List.mem_cons_of_mem _ (List.mem_cons_self))))).2.cell 1 _ rfl; have uz1 := (D9.out.blk _ (List.mem_cons_of_mem _ (List.mem_cons_of_mem _ (List.mem_cons_of_mem _ (List.mem_cons_self))))).2.frozen 1; have u2 := (D9.out.blk _ (List.mem_cons_of_mem _ (List.mem_cons_of_mem _ (List.mem_cons_of_mem _ (List.mem_cons_self))))).2.cell 2 _ rfl; have uz2 := (D9.out.blk _ (List.mem_cons_of_mem _ (List.mem_cons_of_mem _ (List.mem_cons_of_mem _ (List.mem_cons_self))))).2.frozen 2; have ult := (D9.out).bl (List.mem_cons_of_mem _ (List.mem_cons_of_mem _ (List.mem_cons_of_mem _ (List.mem_cons_self)))); have q0 := (D9.out.blk _ (List.mem_cons_of_mem _ (List.mem_cons_of_mem _ (List.mem_cons_of_mem _ (List.mem_cons_of_mem _ (List.mem_cons_self)))))).2.cell 0 _ rfl; have qz0 := (D9.out.blk _ (List.mem_cons_of_mem _ (List.mem_cons_of_mem _ (List.mem_cons_of_mem _ (List.mem_cons_of_mem _ (List.mem_cons_self)))))).2.frozen 0; have q1 := (D9.out.blk _ (List.mem_cons_of_mem _ (List.mem_cons_of_mem _ (List.mem_cons_of_mem _ (List.mem_cons_of_mem _ (List.mem_cons_self)))))).2.cell 1 _ rfl; have qz1 := (D9.out.blk _ (List.mem_cons_of_mem _ (List.mem_cons_of_mem _ (List.mem_cons_of_mem _ (List.mem_cons_of_mem _ (List.mem_cons_self)))))).2.frozen 1; have q2 := (D9.out.blk _ (List.mem_cons_of_mem _ (List.mem_cons_of_mem _ (List.mem_cons_of_mem _ (List.mem_cons_of_mem _ (List.mem_cons_self)))))).2.cell 2 _ rfl; have qz2 := (D9.out.blk _ (List.mem_cons_of_mem _ (List.mem_cons_of_mem _ (List.mem_cons_of_mem _ (List.mem_cons_of_mem _ (List.mem_cons_self)))))).2.frozen 2; have qlt := (D9.out).bl (List.mem_cons_of_mem _ (List.mem_cons_of_mem _ (List.mem_cons_of_mem _ (List.mem_cons_of_mem _ (List.mem_cons_self))))))) | (go_at_call 54; go_loud (with_reducible refine (SY.out _ (T0.out.on (D9.out).bel)).mono ?_; rintro e wn10 ⟨rfl, hb⟩; have D10 := Lib.hid ((D9.out).on hb); clear hb; have u0 := (D10.out.blk _ (List.mem_cons_of_mem _ (List.mem_cons_of_mem _ (List.mem_cons_of_mem _ (List.mem_cons_self))))).2.cell 0 _ rfl; have uz0 := (D10.out.blk _ (List.mem_cons_of_mem _ (List.mem_cons_of_mem _ (List.mem_cons_of_mem _ (List.mem_cons_self))))).2.frozen 0; have u1 := (D10.out.blk _ (List.mem_cons_of_mem _ (List.mem_cons_of_mem _ (List.mem_cons_of_mem _ (List.mem_cons_self))))).2.cell 1 _ rfl; have uz1 := (D10.out.blk _ (List.mem_cons_of_mem _ (List.mem_cons_of_mem _ (List.mem_cons_of_mem _ (List.mem_cons_self))))).2.frozen 1; have u2 := (D10.out.blk _ (List.mem_cons_of_mem _ (List.mem_cons_of_mem _ (List.mem_cons_of_mem _ (List.mem_cons_self))))).2.cell 2 _ rfl; have uz2 := (D10.out.blk _ (List.mem_cons_of_mem _ (List.mem_cons_of_mem _ (List.mem_cons_of_mem _ (List.mem_cons_self))))).2.frozen 2; have ult := (D10.out).bl (List.mem_cons_of_mem _ (List.mem_cons_of_mem _ (List.mem_cons_of_mem _ (List.mem_cons_self)))); have q0 := (D10.out.blk _ (List.mem_cons_of_mem _ (List.mem_cons_of_mem _ (List.mem_cons_of_mem _ (List.mem_cons_of_mem _ (List.mem_cons_self)))))).2.cell 0 _ rfl; have qz0 := (D10.out.blk _ (List.mem_cons_of_mem _ (List.mem_cons_of_mem _ (List.mem_cons_of_mem _ (List.mem_cons_of_mem _ (List.mem_cons_self)))))).2.frozen 0; have q1 := (D10.out.blk _ (List.mem_cons_of_mem _ (List.mem_cons_of_mem _ (List.mem_cons_of_mem _ (List.mem_cons_of_mem _ (List.mem_cons_self)))))).2.cell 1 _ rfl; have qz1 := (D10.out.blk _ (List.mem_cons_of_mem _ (List.mem_cons_of_mem _ (List.mem_cons_of_mem _ (List.mem_cons_of_mem _ (List.mem_cons_self)))))).2.frozen 1; have q2 := (D10.out.blk _ (List.mem_cons_of_mem _ (List.mem_cons_of_mem _ (List.mem_cons_of_mem _ (List.mem_cons_of_mem _ (List.mem_cons_self)))))).2.cell 2 _ rfl; have qz2 := (D10.out.blk _ (List.mem_cons_of_mem _ (List.mem_cons_of_mem _ (List.mem_cons_of_mem _ (List.mem_cons_of_mem _ (List.mem_cons_self)))))).2.frozen 2; have qlt := (D10.out).bl (List.mem_cons_of_mem _ (List.mem_cons_of_mem _ (List.mem_cons_of_mem _ (List.mem_cons_of_mem _ (List.mem_cons_self))))))) | (go_at_call 46; go_loud (with_reducible refine (E3.out _ (T0.out.on (D10.out).bel)).mono ?_; rintro e wn11 ⟨rfl, hb⟩; have D11 := Lib.hid ((D10.out).on hb); clear hb)))
  have hu := Tryd.underlying32
  have D12 := Lib.hid (D11.out.new 32 [.int .i64 3, .int .i64 0, .string (S ++ T)])
  obtain ⟨w1, hw1⟩ : ∃ z, z = wn11.alloc (.cells #[.int .i64 3, .int .i64 0, .string (S ++ T)] 32) := ⟨_, rfl⟩
  obtain ⟨x20, hx20⟩ : ∃ z, z = wn11.heap.size := ⟨_, rfl⟩
  rw [← hw1] at D12
  rw [← hx20] at D12
  simp only [← hw1, ← hx20]
  clear hw1 hx20
  have hBB : Below w1.heap.size w1 ({ w1 with drawn := w1.drawn + 1 } : World) := ⟨rfl, rfl, rfl, Nat.le_refl _, fun _ _ => rfl⟩
  refine wp_region_held (S := Below w1.heap.size w1) (by kernel_rfl) ?_
  have hSB := hBB
  generalize ({ w1 with drawn := w1.drawn + 1 } : World) = wB at hSB hBB ⊢
  have hleB := D12.out.bel.size
  have hslB := hSB.size
  have caB0 : ∀ W, Below w1.heap.size w1 W → W.cell? ⟨x20, 0, none⟩ = some (.int .i64 3) := fun W hW => ((D12.out.on hW).blk _ (List.mem_cons_self)).2.cell 0 _ rfl
  have caB1 : ∀ W, Below w1.heap.size w1 W → W.cell? ⟨x20, 1, none⟩ = some (.int .i64 0) := fun W hW => ((D12.out.on hW).blk _ (List.mem_cons_self)).2.cell 1 _ rfl
  have caB2 : ∀ W, Below w1.heap.size w1 W → W.cell? ⟨x20, 2, none⟩ = some (.string (S ++ T)) := fun W hW => ((D12.out.on hW).blk _ (List.mem_cons_self)).2.cell 2 _ rfl
  refine takeH 0 (oi := ⟨some 108, _, _, _, _, _⟩) (v := ?_) rfl (by kernel_rfl) (by kernel_rfl) (by kernel_rfl) (fun _ _ _ h => h) (Or.inl ⟨by rfl, ?hyB251⟩) hSB ?restB251
  case hyB251 => (intro W hW; (try dsimp only at hW); go_simp; try with_reducible rfl)
  try simp only [Act.put, List.setIfInBounds_toArray, List.set_cons_zero, List.set_cons_succ]
  refine takeH 1 (oi := ⟨some 109, _, _, _, _, _⟩) (v := ?_) rfl (by kernel_rfl) (by kernel_rfl) (by kernel_rfl) (fun _ _ _ h => h) (Or.inl ⟨by rfl, ?hyB252⟩) hSB ?restB252
  case hyB252 => (intro W hW; (try dsimp only at hW); go_simp; try with_reducible rfl)
  try simp only [Act.put, List.setIfInBounds_toArray, List.set_cons_zero, List.set_cons_succ]
  refine takeH 2 (oi := ⟨some 110, _, _, _, _, _⟩) (v := ?_) rfl (by kernel_rfl) (by kernel_rfl) (by kernel_rfl) (fun _ _ _ h => h) (Or.inl ⟨by rfl, ?hyB253⟩) hSB ?restB253
  case hyB253 => (intro W hW; (try dsimp only at hW); go_simp; try with_reducible rfl)
  try simp only [Act.put, List.setIfInBounds_toArray, List.set_cons_zero, List.set_cons_succ]
  refine takeH 3 (oi := ⟨some 111, _, _, _, _, _⟩) (v := ?_) rfl (by kernel_rfl) (by kernel_rfl) (by kernel_rfl) (fun _ _ _ h => h) (Or.inl ⟨by rfl, ?hyB254⟩) hSB ?restB254
  case hyB254 => (intro W hW; (try dsimp only at hW); go_simp; try with_reducible rfl)
  try simp only [Act.put, List.setIfInBounds_toArray, List.set_cons_zero, List.set_cons_succ]
  refine takeH 4 (oi := ⟨some 112, _, _, _, _, _⟩) (v := ?_) rfl (by kernel_rfl) (by kernel_rfl) (by kernel_rfl) (fun _ _ _ h => h) (Or.inl ⟨by rfl, ?hyB255⟩) hSB ?restB255
  case hyB255 => (intro W hW; (try dsimp only at hW); go_simp; try with_reducible rfl)
  try simp only [Act.put, List.setIfInBounds_toArray, List.set_cons_zero, List.set_cons_succ]
  refine takeH 5 (oi := ⟨some 113, _, _, _, _, _⟩) (v := ?_) rfl (by kernel_rfl) (by kernel_rfl) (by kernel_rfl) (fun _ _ _ h => h) (Or.inl ⟨by rfl, ?hyB256⟩) hSB ?restB256
  case hyB256 => (intro W hW; (try dsimp only at hW); go_simp; try with_reducible rfl)
  try simp only [Act.put, List.setIfInBounds_toArray, List.set_cons_zero, List.set_cons_succ]
  refine takeH 6 (oi := ⟨some 114, _, _, _, _, _⟩) (v := ?_) rfl (by kernel_rfl) (by kernel_rfl) (by kernel_rfl) (fun _ _ _ h => h) (Or.inl ⟨by rfl, ?hyB257⟩) hSB ?restB257
  case hyB257 => (intro W hW; (try dsimp only at hW); go_simp; try with_reducible rfl)
  try simp only [Act.put, List.setIfInBounds_toArray, List.set_cons_zero, List.set_cons_succ]
  refine takeH 7 (oi := ⟨some 115, _, _, _, _, _⟩) (v := ?_) rfl (by kernel_rfl) (by kernel_rfl) (by kernel_rfl) (fun _ _ _ h => h) (Or.inl ⟨by rfl, ?hyB258⟩) hSB ?restB258
  case hyB258 => (intro W hW; (try dsimp only at hW); go_simp; try with_reducible rfl)
  try simp only [Act.put, List.setIfInBounds_toArray, List.set_cons_zero, List.set_cons_succ]
  refine takeH 8 (oi := ⟨some 116, _, _, _, _, _⟩) (v := ?_) rfl (by kernel_rfl) (by kernel_rfl) (by kernel_rfl) (fun _ _ _ h => h) (Or.inl ⟨by rfl, ?hyB259⟩) hSB ?restB259
  case hyB259 => (intro W hW; (try dsimp only at hW); go_simp; try with_reducible rfl)
  try simp only [Act.put, List.setIfInBounds_toArray, List.set_cons_zero, List.set_cons_succ]
  refine takeH 9 (oi := ⟨some 117, _, _, _, _, _⟩) (v := ?_) rfl (by kernel_rfl) (by kernel_rfl) (by kernel_rfl) (fun _ _ _ h => h) (Or.inl ⟨by rfl, ?hyB260⟩) hSB ?restB260
  case hyB260 => (intro W hW; (try dsimp only at hW); go_simp; try with_reducible rfl)
  try simp only [Act.put, List.setIfInBounds_toArray, List.set_cons_zero, List.set_cons_succ]
  refine takeH 10 (oi := ⟨some 118, _, _, _, _, _⟩) (v := ?_) rfl (by kernel_rfl) (by kernel_rfl) (by kernel_rfl) (fun _ _ _ h => h) (Or.inl ⟨by rfl, ?hyB261⟩) hSB ?restB261
  case hyB261 => (intro W hW; (try dsimp only at hW); go_simp; try with_reducible rfl)
  try simp only [Act.put, List.setIfInBounds_toArray, List.set_cons_zero, List.set_cons_succ]
  refine takeH 11 (oi := ⟨some 119, _, _, _, _, _⟩) (v := ?_) rfl (by kernel_rfl) (by kernel_rfl) (by kernel_rfl) (fun _ _ _ h => h) (Or.inl ⟨by rfl, ?hyB262⟩) hSB ?restB262
  case hyB262 => (intro W hW; (try dsimp only at hW); go_simp; try with_reducible rfl)
  try simp only [Act.put, List.setIfInBounds_toArray, List.set_cons_zero, List.set_cons_succ]
  refine takeH 12 (oi := ⟨some 120, _, _, _, _, _⟩) (v := ?_) rfl (by kernel_rfl) (by kernel_rfl) (by kernel_rfl) (fun _ _ _ h => h) (Or.inl ⟨by rfl, ?hyB263⟩) hSB ?restB263
  case hyB263 => (intro W hW; (try dsimp only at hW); go_simp; try with_reducible rfl)
  try simp only [Act.put, List.setIfInBounds_toArray, List.set_cons_zero, List.set_cons_succ]
  refine takeH 13 (oi := ⟨some 121, _, _, _, _, _⟩) (v := ?_) rfl (by kernel_rfl) (by kernel_rfl) (by kernel_rfl) (fun _ _ _ h => h) (Or.inl ⟨by rfl, ?hyB264⟩) hSB ?restB264
  case hyB264 => (intro W hW; (try dsimp only at hW); go_simp; try with_reducible rfl)
  try simp only [Act.put, List.setIfInBounds_toArray, List.set_cons_zero, List.set_cons_succ]
  refine takeH 14 (oi := ⟨some 122, _, _, _, _, _⟩) (v := ?_) rfl (by kernel_rfl) (by kernel_rfl) (by kernel_rfl) (fun _ _ _ h => h) (Or.inl ⟨by rfl, ?hyB265⟩) hSB ?restB265
  case hyB265 => (intro W hW; (try dsimp only at hW); go_simp; try with_reducible rfl)
  try simp only [Act.put, List.setIfInBounds_toArray, List.set_cons_zero, List.set_cons_succ]
  refine takeH 15 (oi := ⟨some 123, _, _, _, _, _⟩) (v := ?_) rfl (by kernel_rfl) (by kernel_rfl) (by kernel_rfl) (fun _ _ _ h => h) (Or.inl ⟨by rfl, ?hyB266⟩) hSB ?restB266
  case hyB266 => (intro W hW; (try dsimp only at hW); go_simp; try with_reducible rfl)
  try simp only [Act.put, List.setIfInBounds_toArray, List.set_cons_zero, List.set_cons_succ]
  refine takeH 16 (oi := ⟨some 124, _, _, _, _, _⟩) (v := ?_) rfl (by kernel_rfl) (by kernel_rfl) (by kernel_rfl) (fun _ _ _ h => h) (Or.inl ⟨by rfl, ?hyB267⟩) hSB ?restB267
  case hyB267 => (intro W hW; (try dsimp only at hW); go_simp; try with_reducible rfl)
  try simp only [Act.put, List.setIfInBounds_toArray, List.set_cons_zero, List.set_cons_succ]
  refine one (i := 17) (by kernel_rfl) ?_
  refine wpOp_wanted rfl (by rfl) fun K hK => ?_
  go_simp
  with_reducible refine (hStr _ _).mono ?_
  rintro e wB268 ⟨rfl, hb⟩
  have SB268 : Below w1.heap.size w1 wB268 := hSB.trans (hb.mono hSB.size)
  clear hb
  refine hK _ _ ⟨SB268, ?_⟩
  clear hK K
  try simp only [Act.put, List.setIfInBounds_toArray, List.set_cons_zero, List.set_cons_succ]
  refine takeH 18 (oi := ⟨some 126, _, _, _, _, _⟩) (v := ?_) rfl (by kernel_rfl) (by kernel_rfl) (by kernel_rfl) (fun _ _ _ h => h) (Or.inl ⟨by rfl, ?hyB269⟩) SB268 ?restB269
  case hyB269 => (intro W hW; (try dsimp only at hW); go_simp; try with_reducible rfl)
  try simp only [Act.put, List.setIfInBounds_toArray, List.set_cons_zero, List.set_cons_succ]
  refine takeH 19 (oi := ⟨some 127, _, _, _, _, _⟩) (v := ?_) rfl (by kernel_rfl) (by kernel_rfl) (by kernel_rfl) (fun _ _ _ h => h) (Or.inl ⟨by rfl, ?hyB270⟩) SB268 ?restB270
  case hyB270 => (intro W hW; (try dsimp only at hW); go_simp; try with_reducible rfl)
  try simp only [Act.put, List.setIfInBounds_toArray, List.set_cons_zero, List.set_cons_succ]
  refine takeH 20 (oi := ⟨some 128, _, _, _, _, _⟩) (v := ?_) rfl (by kernel_rfl) (by kernel_rfl) (by kernel_rfl) (fun _ _ _ h => h) (Or.inl ⟨by rfl, ?hyB271⟩) SB268 ?restB271
  case hyB271 => (intro W hW; (try dsimp only at hW); go_simp; try with_reducible rfl)
  try simp only [Act.put, List.setIfInBounds_toArray, List.set_cons_zero, List.set_cons_succ]
  refine wpAnyH_done (by kernel_rfl) ?_ _
  clear caB0 caB1 caB2
  have D13 := Lib.hid (D12.out.on SB268)
  generalize wB268 = W4 at D13 ⊢
  have u0 := (D13.out.blk _ (List.mem_cons_of_mem _ (List.mem_cons_of_mem _ (List.mem_cons_of_mem _ (List.mem_cons_of_mem _ (List.mem_cons_self)))))).2.cell 0 _ rfl; have uz0 := (D13.out.blk _ (List.mem_cons_of_mem _ (List.mem_cons_of_mem _ (List.mem_cons_of_mem _ (List.mem_cons_of_mem _ (List.mem_cons_self)))))).2.frozen 0; have u1 := (D13.out.blk _ (List.mem_cons_of_mem _ (List.mem_cons_of_mem _ (List.mem_cons_of_mem _ (List.mem_cons_of_mem _ (List.mem_cons_self)))))).2.cell 1 _ rfl; have uz1 := (D13.out.blk _ (List.mem_cons_of_mem _ (List.mem_cons_of_mem _ (List.mem_cons_of_mem _ (List.mem_cons_of_mem _ (List.mem_cons_self)))))).2.frozen 1; have u2 := (D13.out.blk _ (List.mem_cons_of_mem _ (List.mem_cons_of_mem _ (List.mem_cons_of_mem _ (List.mem_cons_of_mem _ (List.mem_cons_self)))))).2.cell 2 _ rfl; have uz2 := (D13.out.blk _ (List.mem_cons_of_mem _ (List.mem_cons_of_mem _ (List.mem_cons_of_mem _ (List.mem_cons_of_mem _ (List.mem_cons_self)))))).2.frozen 2; have ult := (D13.out).bl (List.mem_cons_of_mem _ (List.mem_cons_of_mem _ (List.mem_cons_of_mem _ (List.mem_cons_of_mem _ (List.mem_cons_self))))); have q0 := (D13.out.blk _ (List.mem_cons_of_mem _ (List.mem_cons_of_mem _ (List.mem_cons_of_mem _ (List.mem_cons_of_mem _ (List.mem_cons_of_mem _ (List.mem_cons_self))))))).2.cell 0 _ rfl; have qz0 := (D13.out.blk _ (List.mem_cons_of_mem _ (List.mem_cons_of_mem _ (List.mem_cons_of_mem _ (List.mem_cons_of_mem _ (List.mem_cons_of_mem _ (List.mem_cons_self))))))).2.frozen 0; have q1 := (D13.out.blk _ (List.mem_cons_of_mem _ (List.mem_cons_of_mem _ (List.mem_cons_of_mem _ (List.mem_cons_of_mem _ (List.mem_cons_of_mem _ (List.mem_cons_self))))))).2.cell 1 _ rfl; have qz1 := (D13.out.blk _ (List.mem_cons_of_mem _ (List.mem_cons_of_mem _ (List.mem_cons_of_mem _ (List.mem_cons_of_mem _ (List.mem_cons_of_mem _ (List.mem_cons_self))))))).2.frozen 1; have q2 := (D13.out.blk _ (List.mem_cons_of_mem _ (List.mem_cons_of_mem _ (List.mem_cons_of_mem _ (List.mem_cons_of_mem _ (List.mem_cons_of_mem _ (List.mem_cons_self))))))).2.cell 2 _ rfl; have qz2 := (D13.out.blk _ (List.mem_cons_of_mem _ (List.mem_cons_of_mem _ (List.mem_cons_of_mem _ (List.mem_cons_of_mem _ (List.mem_cons_of_mem _ (List.mem_cons_self))))))).2.frozen 2; have qlt := (D13.out).bl (List.mem_cons_of_mem _ (List.mem_cons_of_mem _ (List.mem_cons_of_mem _ (List.mem_cons_of_mem _ (List.mem_cons_of_mem _ (List.mem_cons_self))))))
  go_upto_region 19 with (first | (go_at_call 46; go_loud (with_reducible refine (E4.out _ (T0.out.on (D13.out).bel)).mono ?_; rintro e wn14 ⟨rfl, hb⟩; have D14 := Lib.hid ((D13.out).on hb); clear hb)) | (go_at_call 55; go_loud (with_reducible refine (hStr _ _).mono ?_; rintro e wn15 ⟨rfl, hb⟩; have D15 := Lib.hid ((D14.out.new 32 [.int .i64 0, .int .i64 0, .string ⟨#[]⟩]).on hb); clear hb)) | (go_at_call 56; go_loud (with_reducible refine (ON.out _ (T0.out.on (D15.out).bel)).mono ?_; rintro e wn16 ⟨rfl, hb⟩; have D16 := Lib.hid ((D15.out).on hb); clear hb)))
  have D17 := Lib.hid (D16.out.new 32 [.int .i64 2, .int .i64 (S.size : Int), .string ⟨#[]⟩])
  obtain ⟨w5, hw5⟩ : ∃ z, z = wn16.alloc (.cells #[.int .i64 2, .int .i64 (S.size : Int), .string ⟨#[]⟩] 32) := ⟨_, rfl⟩
  obtain ⟨x24, hx24⟩ : ∃ z, z = wn16.heap.size := ⟨_, rfl⟩
  rw [← hw5] at D17
  rw [← hx24] at D17
  simp only [← hw5, ← hx24]
  clear hw5 hx24
  have hBE : Below w5.heap.size w5 ({ w5 with drawn := w5.drawn + 1 } : World) := ⟨rfl, rfl, rfl, Nat.le_refl _, fun _ _ => rfl⟩
  refine wp_region_held (S := Below w5.heap.size w5) (by kernel_rfl) ?_
  have hSE := hBE
  generalize ({ w5 with drawn := w5.drawn + 1 } : World) = wE at hSE hBE ⊢
  have hleE := D17.out.bel.size
  have hslE := hSE.size
  have naE0 : ∀ W, Below w5.heap.size w5 W → W.cell? ⟨x24, 0, none⟩ = some (.int .i64 2) := fun W hW => ((D17.out.on hW).blk _ (List.mem_cons_self)).2.cell 0 _ rfl
  have naE1 : ∀ W, Below w5.heap.size w5 W → W.cell? ⟨x24, 1, none⟩ = some (.int .i64 (S.size : Int)) := fun W hW => ((D17.out.on hW).blk _ (List.mem_cons_self)).2.cell 1 _ rfl
  have naE2 : ∀ W, Below w5.heap.size w5 W → W.cell? ⟨x24, 2, none⟩ = some (.string ⟨#[]⟩) := fun W hW => ((D17.out.on hW).blk _ (List.mem_cons_self)).2.cell 2 _ rfl
  refine takeH 0 (oi := ⟨some 147, _, _, _, _, _⟩) (v := ?_) rfl (by kernel_rfl) (by kernel_rfl) (by kernel_rfl) (fun _ _ _ h => h) (Or.inl ⟨by rfl, ?hyE272⟩) hSE ?restE272
  case hyE272 => (intro W hW; (try dsimp only at hW); go_simp; try with_reducible rfl)
  try simp only [Act.put, List.setIfInBounds_toArray, List.set_cons_zero, List.set_cons_succ]
  refine takeH 1 (oi := ⟨some 148, _, _, _, _, _⟩) (v := ?_) rfl (by kernel_rfl) (by kernel_rfl) (by kernel_rfl) (fun _ _ _ h => h) (Or.inl ⟨by rfl, ?hyE273⟩) hSE ?restE273
  case hyE273 => (intro W hW; (try dsimp only at hW); go_simp; try with_reducible rfl)
  try simp only [Act.put, List.setIfInBounds_toArray, List.set_cons_zero, List.set_cons_succ]
  refine takeH 2 (oi := ⟨some 149, _, _, _, _, _⟩) (v := ?_) rfl (by kernel_rfl) (by kernel_rfl) (by kernel_rfl) (fun _ _ _ h => h) (Or.inl ⟨by rfl, ?hyE274⟩) hSE ?restE274
  case hyE274 => (intro W hW; (try dsimp only at hW); go_simp; try with_reducible rfl)
  try simp only [Act.put, List.setIfInBounds_toArray, List.set_cons_zero, List.set_cons_succ]
  refine takeH 3 (oi := ⟨some 150, _, _, _, _, _⟩) (v := ?_) rfl (by kernel_rfl) (by kernel_rfl) (by kernel_rfl) (fun _ _ _ h => h) (Or.inl ⟨by rfl, ?hyE275⟩) hSE ?restE275
  case hyE275 => (intro W hW; (try dsimp only at hW); go_simp; try with_reducible rfl)
  try simp only [Act.put, List.setIfInBounds_toArray, List.set_cons_zero, List.set_cons_succ]
  refine takeH 4 (oi := ⟨some 151, _, _, _, _, _⟩) (v := ?_) rfl (by kernel_rfl) (by kernel_rfl) (by kernel_rfl) (fun _ _ _ h => h) (Or.inl ⟨by rfl, ?hyE276⟩) hSE ?restE276
  case hyE276 => (intro W hW; (try dsimp only at hW); go_simp; try with_reducible rfl)
  try simp only [Act.put, List.setIfInBounds_toArray, List.set_cons_zero, List.set_cons_succ]
  refine takeH 5 (oi := ⟨some 152, _, _, _, _, _⟩) (v := ?_) rfl (by kernel_rfl) (by kernel_rfl) (by kernel_rfl) (fun _ _ _ h => h) (Or.inl ⟨by rfl, ?hyE277⟩) hSE ?restE277
  case hyE277 => (intro W hW; (try dsimp only at hW); go_simp; try with_reducible rfl)
  try simp only [Act.put, List.setIfInBounds_toArray, List.set_cons_zero, List.set_cons_succ]
  refine takeH 6 (oi := ⟨some 153, _, _, _, _, _⟩) (v := ?_) rfl (by kernel_rfl) (by kernel_rfl) (by kernel_rfl) (fun _ _ _ h => h) (Or.inl ⟨by rfl, ?hyE278⟩) hSE ?restE278
  case hyE278 => (intro W hW; (try dsimp only at hW); go_simp; try with_reducible rfl)
  try simp only [Act.put, List.setIfInBounds_toArray, List.set_cons_zero, List.set_cons_succ]
  refine takeH 7 (oi := ⟨some 154, _, _, _, _, _⟩) (v := ?_) rfl (by kernel_rfl) (by kernel_rfl) (by kernel_rfl) (fun _ _ _ h => h) (Or.inl ⟨by rfl, ?hyE279⟩) hSE ?restE279
  case hyE279 => (intro W hW; (try dsimp only at hW); go_simp; try with_reducible rfl)
  try simp only [Act.put, List.setIfInBounds_toArray, List.set_cons_zero, List.set_cons_succ]
  refine takeH 8 (oi := ⟨some 155, _, _, _, _, _⟩) (v := ?_) rfl (by kernel_rfl) (by kernel_rfl) (by kernel_rfl) (fun _ _ _ h => h) (Or.inl ⟨by rfl, ?hyE280⟩) hSE ?restE280
  case hyE280 => (intro W hW; (try dsimp only at hW); go_simp; try with_reducible rfl)
  try simp only [Act.put, List.setIfInBounds_toArray, List.set_cons_zero, List.set_cons_succ]
  refine takeH 9 (oi := ⟨some 156, _, _, _, _, _⟩) (v := ?_) rfl (by kernel_rfl) (by kernel_rfl) (by kernel_rfl) (fun _ _ _ h => h) (Or.inl ⟨by rfl, ?hyE281⟩) hSE ?restE281
  case hyE281 => (intro W hW; (try dsimp only at hW); go_simp; try with_reducible rfl)
  try simp only [Act.put, List.setIfInBounds_toArray, List.set_cons_zero, List.set_cons_succ]
  refine takeH 10 (oi := ⟨some 157, _, _, _, _, _⟩) (v := ?_) rfl (by kernel_rfl) (by kernel_rfl) (by kernel_rfl) (fun _ _ _ h => h) (Or.inl ⟨by rfl, ?hyE282⟩) hSE ?restE282
  case hyE282 => (intro W hW; (try dsimp only at hW); go_simp; try with_reducible rfl)
  try simp only [Act.put, List.setIfInBounds_toArray, List.set_cons_zero, List.set_cons_succ]
  refine takeH 11 (oi := ⟨some 158, _, _, _, _, _⟩) (v := ?_) rfl (by kernel_rfl) (by kernel_rfl) (by kernel_rfl) (fun _ _ _ h => h) (Or.inl ⟨by rfl, ?hyE283⟩) hSE ?restE283
  case hyE283 => (intro W hW; (try dsimp only at hW); go_simp; try with_reducible rfl)
  try simp only [Act.put, List.setIfInBounds_toArray, List.set_cons_zero, List.set_cons_succ]
  refine takeH 12 (oi := ⟨some 159, _, _, _, _, _⟩) (v := ?_) rfl (by kernel_rfl) (by kernel_rfl) (by kernel_rfl) (fun _ _ _ h => h) (Or.inl ⟨by rfl, ?hyE284⟩) hSE ?restE284
  case hyE284 => (intro W hW; (try dsimp only at hW); go_simp; try with_reducible rfl)
  try simp only [Act.put, List.setIfInBounds_toArray, List.set_cons_zero, List.set_cons_succ]
  refine takeH 13 (oi := ⟨some 160, _, _, _, _, _⟩) (v := ?_) rfl (by kernel_rfl) (by kernel_rfl) (by kernel_rfl) (fun _ _ _ h => h) (Or.inl ⟨by rfl, ?hyE285⟩) hSE ?restE285
  case hyE285 => (intro W hW; (try dsimp only at hW); go_simp; try with_reducible rfl)
  try simp only [Act.put, List.setIfInBounds_toArray, List.set_cons_zero, List.set_cons_succ]
  refine takeH 14 (oi := ⟨some 161, _, _, _, _, _⟩) (v := ?_) rfl (by kernel_rfl) (by kernel_rfl) (by kernel_rfl) (fun _ _ _ h => h) (Or.inl ⟨by rfl, ?hyE286⟩) hSE ?restE286
  case hyE286 => (intro W hW; (try dsimp only at hW); go_simp; try with_reducible rfl)
  try simp only [Act.put, List.setIfInBounds_toArray, List.set_cons_zero, List.set_cons_succ]
  refine takeH 15 (oi := ⟨some 162, _, _, _, _, _⟩) (v := ?_) rfl (by kernel_rfl) (by kernel_rfl) (by kernel_rfl) (fun _ _ _ h => h) (Or.inl ⟨by rfl, ?hyE287⟩) hSE ?restE287
  case hyE287 => (intro W hW; (try dsimp only at hW); go_simp; try with_reducible rfl)
  try simp only [Act.put, List.setIfInBounds_toArray, List.set_cons_zero, List.set_cons_succ]
  refine takeH 16 (oi := ⟨some 163, _, _, _, _, _⟩) (v := ?_) rfl (by kernel_rfl) (by kernel_rfl) (by kernel_rfl) (fun _ _ _ h => h) (Or.inl ⟨by rfl, ?hyE288⟩) hSE ?restE288
  case hyE288 => (intro W hW; (try dsimp only at hW); go_simp; try with_reducible rfl)
  try simp only [Act.put, List.setIfInBounds_toArray, List.set_cons_zero, List.set_cons_succ]
  refine takeH 17 (oi := ⟨some 164, _, _, _, _, _⟩) (v := ?_) rfl (by kernel_rfl) (by kernel_rfl) (by kernel_rfl) (fun _ _ _ h => h) (Or.inl ⟨by rfl, ?hyE289⟩) hSE ?restE289
  case hyE289 => (intro W hW; (try dsimp only at hW); go_simp; try with_reducible rfl)
  try simp only [Act.put, List.setIfInBounds_toArray, List.set_cons_zero, List.set_cons_succ]
  refine takeH 18 (oi := ⟨some 165, _, _, _, _, _⟩) (v := ?_) rfl (by kernel_rfl) (by kernel_rfl) (by kernel_rfl) (fun _ _ _ h => h) (Or.inl ⟨by rfl, ?hyE290⟩) hSE ?restE290
  case hyE290 => (intro W hW; (try dsimp only at hW); go_simp; try with_reducible rfl)
  try simp only [Act.put, List.setIfInBounds_toArray, List.set_cons_zero, List.set_cons_succ]
  refine takeH 19 (oi := ⟨some 166, _, _, _, _, _⟩) (v := ?_) rfl (by kernel_rfl) (by kernel_rfl) (by kernel_rfl) (fun _ _ _ h => h) (Or.inl ⟨by rfl, ?hyE291⟩) hSE ?restE291
  case hyE291 => (intro W hW; (try dsimp only at hW); go_simp; try with_reducible rfl)
  try simp only [Act.put, List.setIfInBounds_toArray, List.set_cons_zero, List.set_cons_succ]
  refine takeH 20 (oi := ⟨some 167, _, _, _, _, _⟩) (v := ?_) rfl (by kernel_rfl) (by kernel_rfl) (by kernel_rfl) (fun _ _ _ h => h) (Or.inl ⟨by rfl, ?hyE292⟩) hSE ?restE292
  case hyE292 => (intro W hW; (try dsimp only at hW); go_simp; try with_reducible rfl)
  try simp only [Act.put, List.setIfInBounds_toArray, List.set_cons_zero, List.set_cons_succ]
  refine takeH 21 (oi := ⟨some 168, _, _, _, _, _⟩) (v := ?_) rfl (by kernel_rfl) (by kernel_rfl) (by kernel_rfl) (fun _ _ _ h => h) (Or.inl ⟨by rfl, ?hyE293⟩) hSE ?restE293
  case hyE293 => (intro W hW; (try dsimp only at hW); go_simp; try with_reducible rfl)
  try simp only [Act.put, List.setIfInBounds_toArray, List.set_cons_zero, List.set_cons_succ]
  refine takeH 22 (oi := ⟨some 169, _, _, _, _, _⟩) (v := ?_) rfl (by kernel_rfl) (by kernel_rfl) (by kernel_rfl) (fun _ _ _ h => h) (Or.inl ⟨by rfl, ?hyE294⟩) hSE ?restE294
  case hyE294 => (intro W hW; (try dsimp only at hW); go_simp; try with_reducible rfl)
  try simp only [Act.put, List.setIfInBounds_toArray, List.set_cons_zero, List.set_cons_succ]
  refine takeH 23 (oi := ⟨some 170, _, _, _, _, _⟩) (v := ?_) rfl (by kernel_rfl) (by kernel_rfl) (by kernel_rfl) (fun _ _ _ h => h) (Or.inl ⟨by rfl, ?hyE295⟩) hSE ?restE295
  case hyE295 => (intro W hW; (try dsimp only at hW); go_simp; try with_reducible rfl)
  try simp only [Act.put, List.setIfInBounds_toArray, List.set_cons_zero, List.set_cons_succ]
  refine takeH 24 (oi := ⟨some 171, _, _, _, _, _⟩) (v := ?_) rfl (by kernel_rfl) (by kernel_rfl) (by kernel_rfl) (fun _ _ _ h => h) (Or.inl ⟨by rfl, ?hyE296⟩) hSE ?restE296
  case hyE296 => (intro W hW; (try dsimp only at hW); go_simp; try with_reducible rfl)
  try simp only [Act.put, List.setIfInBounds_toArray, List.set_cons_zero, List.set_cons_succ]
  refine one (i := 25) (by kernel_rfl) ?_
  refine wpOp_wanted rfl (by rfl) fun K hK => ?_
  go_simp
  with_reducible refine (hInt _ _).mono ?_
  rintro e wE297 ⟨rfl, hb⟩
  have SE297 : Below w5.heap.size w5 wE297 := hSE.trans (hb.mono hSE.size)
  clear hb
  refine hK _ _ ⟨SE297, ?_⟩
  clear hK K
  try simp only [Act.put, List.setIfInBounds_toArray, List.set_cons_zero, List.set_cons_succ]
  refine takeH 26 (oi := ⟨some 173, _, _, _, _, _⟩) (v := ?_) rfl (by kernel_rfl) (by kernel_rfl) (by kernel_rfl) (fun _ _ _ h => h) (Or.inl ⟨by rfl, ?hyE298⟩) SE297 ?restE298
  case hyE298 => (intro W hW; (try dsimp only at hW); go_simp; try with_reducible rfl)
  try simp only [Act.put, List.setIfInBounds_toArray, List.set_cons_zero, List.set_cons_succ]
  refine takeH 27 (oi := ⟨some 174, _, _, _, _, _⟩) (v := ?_) rfl (by kernel_rfl) (by kernel_rfl) (by kernel_rfl) (fun _ _ _ h => h) (Or.inl ⟨by rfl, ?hyE299⟩) SE297 ?restE299
  case hyE299 => (intro W hW; (try dsimp only at hW); go_simp; try with_reducible rfl)
  try simp only [Act.put, List.setIfInBounds_toArray, List.set_cons_zero, List.set_cons_succ]
  refine takeH 28 (oi := ⟨some 6, _, _, _, _, _⟩) (v := ?_) rfl (by kernel_rfl) (by kernel_rfl) (by kernel_rfl) (fun _ _ _ h => h) (Or.inl ⟨by rfl, ?hyE300⟩) SE297 ?restE300
  case hyE300 => (intro W hW; (try dsimp only at hW); go_simp; try with_reducible rfl)
  try simp only [Act.put, List.setIfInBounds_toArray, List.set_cons_zero, List.set_cons_succ]
  refine wpAnyH_done (by kernel_rfl) ?_ _
  clear naE0 naE1 naE2
  go_wp2_with fail
  go_ret
  exact ⟨rfl, (D17.out.on SE297).bel⟩
set_option maxHeartbeats 16000000 in
set_option maxRecDepth 20000 in
theorem nu23 (m op : Int) (k0 n0 : Int) (s0 : ByteArray) (k1 n1 : Int) (s1 : ByteArray) (x y : Int) (z : Bool) (z2 : Bool) (S T : ByteArray) (y1 y2 : Int) (y3 : ByteArray) (y4 : Int) (hg : ∀ b W, Blk W b 32 [.int .i64 k0, .int .i64 n0, .string s0, .int .i64 k1, .int .i64 n1, .string s1] → Calls Tryd.prog 44 #[.slice (some ⟨b, 0, none⟩) 2 2] W fun e w' => e = .returned (.bool false) ∧ Below W.heap.size W w') (hop : wrap64 (1 + (wrap64 m).tmod 10) = op) (hx : numberF k0 n0 s0 = some (x, false)) (hy : numberF k1 n1 s1 = some (y, z)) (d1 : doF op k0 n0 s0 k1 n1 s1 0 = some (0, 0, ⟨#[]⟩, 18)) (d2 : doF op 2 x ⟨#[]⟩ 2 y ⟨#[]⟩ 0 = some (y1, y2, y3, y4)) (hs : stringF k0 n0 s0 = some (S, false)) (ht : stringF k1 n1 s1 = some (T, z2)) (d3 : doF 11 k0 n0 s0 k1 n1 s1 ((S.size : Int) + (T.size : Int)) = some (0, 0, ⟨#[]⟩, 18)) (d4 : doF 11 k0 n0 s0 k1 n1 s1 ((S.size : Int) + (T.size : Int) - 1) = some (0, 0, ⟨#[]⟩, 18)) (o1 : oneF 23 3 0 S = some (2, (S.size : Int), ⟨#[]⟩, 0)) (hw1 : IntKind.i64.wrap ((S.size : Int) + (T.size : Int)) = (S.size : Int) + (T.size : Int)) (hw2 : IntKind.i64.wrap ((S.size : Int) + (T.size : Int) - 1) = (S.size : Int) + (T.size : Int) - 1) (hv1 : wrap64 ((S.size : Int) + (T.size : Int)) = (S.size : Int) + (T.size : Int)) (hv2 : wrap64 ((S.size : Int) + (T.size : Int) - 1) = (S.size : Int) + (T.size : Int) - 1) (hz2 : (9223372036854775807 < S.size + T.size) = False) (w : World) (hT : Tab w) : Calls Tryd.prog 10 #[.int .u8 m, .agg #[.int .i64 k0, .int .i64 n0, .string s0], .agg #[.int .i64 k1, .int .i64 n1, .string s1]] w fun e w' => e = .returned (.bool true) ∧ Below w.heap.size w w' := by
  have T0 := Lib.hid hT
  have D0 := Lib.hid (OD.start2 w 32 [.int .i64 k0, .int .i64 n0, .string s0] [.int .i64 k1, .int .i64 n1, .string s1])
  have AL := Lib.hid (fun W hW => alive_calls true W hW rfl)
  have GR := Lib.hid hg
  have NX := Lib.hid (fun W hW => number_calls k0 n0 s0 x false W hW hx)
  have NY := Lib.hid (fun W hW => number_calls k1 n1 s1 y z W hW hy)
  have E1 := Lib.hid (fun W hW => do_calls op k0 n0 s0 k1 n1 s1 0 (0) (0) (⟨#[]⟩) (18) W hW d1)
  have E2 := Lib.hid (fun W hW => do_calls op 2 x ⟨#[]⟩ 2 y ⟨#[]⟩ 0 (y1) (y2) (y3) (y4) W hW d2)
  have SX := Lib.hid (fun W hW => string_calls k0 n0 s0 S false W hW hs)
  have SY := Lib.hid (fun W hW => string_calls k1 n1 s1 T z2 W hW ht)
  have E3 := Lib.hid (fun W hW => do_calls 11 k0 n0 s0 k1 n1 s1 ((S.size : Int) + (T.size : Int)) (0) (0) (⟨#[]⟩) (18) W hW d3)
  have E4 := Lib.hid (fun W hW => do_calls 11 k0 n0 s0 k1 n1 s1 ((S.size : Int) + (T.size : Int) - 1) (0) (0) (⟨#[]⟩) (18) W hW d4)
  have ON := Lib.hid (fun W hW => one_calls 23 3 0 S 2 (S.size : Int) ⟨#[]⟩ 0 W hW o1)
  clear hT hg hx hy d1 d2 hs ht d3 d4 o1
  go_enter Tryd.func10, Tryd.ntmps10
  go_upto_region 15 with (first | (go_at_call 43; go_loud (with_reducible refine (AL.out _ (T0.out.on D0.out.bel)).mono ?_; rintro e wn1 ⟨rfl, hb⟩; have D1 := Lib.hid ((D0.out).on hb); clear hb; have u0 := (D1.out.blk _ (List.mem_cons_self)).2.cell 0 _ rfl; have uz0 := (D1.out.blk _ (List.mem_cons_self)).2.frozen 0; have u1 := (D1.out.blk _ (List.mem_cons_self)).2.cell 1 _ rfl; have uz1 := (D1.out.blk _ (List.mem_cons_self)).2.frozen 1; have u2 := (D1.out.blk _ (List.mem_cons_self)).2.cell 2 _ rfl; have uz2 := (D1.out.blk _ (List.mem_cons_self)).2.frozen 2; have ult := (D1.out).bl (List.mem_cons_self); have q0 := (D1.out.blk _ (List.mem_cons_of_mem _ (List.mem_cons_self))).2.cell 0 _ rfl; have qz0 := (D1.out.blk _ (List.mem_cons_of_mem _ (List.mem_cons_self))).2.frozen 0; have q1 := (D1.out.blk _ (List.mem_cons_of_mem _ (List.mem_cons_self))).2.cell 1 _ rfl; have qz1 := (D1.out.blk _ (List.mem_cons_of_mem _ (List.mem_cons_self))).2.frozen 1; have q2 := (D1.out.blk _ (List.mem_cons_of_mem _ (List.mem_cons_self))).2.cell 2 _ rfl; have qz2 := (D1.out.blk _ (List.mem_cons_of_mem _ (List.mem_cons_self))).2.frozen 2; have qlt := (D1.out).bl (List.mem_cons_of_mem _ (List.mem_cons_self)))) | (go_at_call 44; go_loud (with_reducible refine (GR.out _ _ (Blk.new _ [.int .i64 k0, .int .i64 n0, .string s0, .int .i64 k1, .int .i64 n1, .string s1] 32)).mono ?_; rintro e wn2 ⟨rfl, hb⟩; have D2 := Lib.hid ((D1.out.new 32 [.int .i64 k0, .int .i64 n0, .string s0, .int .i64 k1, .int .i64 n1, .string s1]).on hb); clear hb; have u0 := (D2.out.blk _ (List.mem_cons_of_mem _ (List.mem_cons_self))).2.cell 0 _ rfl; have uz0 := (D2.out.blk _ (List.mem_cons_of_mem _ (List.mem_cons_self))).2.frozen 0; have u1 := (D2.out.blk _ (List.mem_cons_of_mem _ (List.mem_cons_self))).2.cell 1 _ rfl; have uz1 := (D2.out.blk _ (List.mem_cons_of_mem _ (List.mem_cons_self))).2.frozen 1; have u2 := (D2.out.blk _ (List.mem_cons_of_mem _ (List.mem_cons_self))).2.cell 2 _ rfl; have uz2 := (D2.out.blk _ (List.mem_cons_of_mem _ (List.mem_cons_self))).2.frozen 2; have ult := (D2.out).bl (List.mem_cons_of_mem _ (List.mem_cons_self)); have q0 := (D2.out.blk _ (List.mem_cons_of_mem _ (List.mem_cons_of_mem _ (List.mem_cons_self)))).2.cell 0 _ rfl; have qz0 := (D2.out.blk _ (List.mem_cons_of_mem _ (List.mem_cons_of_mem _ (List.mem_cons_self)))).2.frozen 0; have q1 := (D2.out.blk _ (List.mem_cons_of_mem _ (List.mem_cons_of_mem _ (List.mem_cons_self)))).2.cell 1 _ rfl; have qz1 := (D2.out.blk _ (List.mem_cons_of_mem _ (List.mem_cons_of_mem _ (List.mem_cons_self)))).2.frozen 1; have q2 := (D2.out.blk _ (List.mem_cons_of_mem _ (List.mem_cons_of_mem _ (List.mem_cons_self)))).2.cell 2 _ rfl; have qz2 := (D2.out.blk _ (List.mem_cons_of_mem _ (List.mem_cons_of_mem _ (List.mem_cons_self)))).2.frozen 2; have qlt := (D2.out).bl (List.mem_cons_of_mem _ (List.mem_cons_of_mem _ (List.mem_cons_self))))) | (go_at_call 52; go_loud (with_reducible refine (NX.out _ (T0.out.on (D2.out).bel)).mono ?_; rintro e wn3 ⟨rfl, hb⟩; have D3 := Lib.hid ((D2.out).on hb); clear hb; have u0 := (D3.out.blk _ (List.mem_cons_of_mem _ (List.mem_cons_self))).2.cell 0 _ rfl; have uz0 := (D3.out.blk _ (List.mem_cons_of_mem _ (List.mem_cons_self))).2.frozen 0; have u1 := (D3.out.blk _ (List.mem_cons_of_mem _ (List.mem_cons_self))).2.cell 1 _ rfl; have uz1 := (D3.out.blk _ (List.mem_cons_of_mem _ (List.mem_cons_self))).2.frozen 1; have u2 := (D3.out.blk _ (List.mem_cons_of_mem _ (List.mem_cons_self))).2.cell 2 _ rfl; have uz2 := (D3.out.blk _ (List.mem_cons_of_mem _ (List.mem_cons_self))).2.frozen 2; have ult := (D3.out).bl (List.mem_cons_of_mem _ (List.mem_cons_self)); have q0 := (D3.out.blk _ (List.mem_cons_of_mem _ (List.mem_cons_of_mem _ (List.mem_cons_self)))).2.cell 0 _ rfl; have qz0 := (D3.out.blk _ (List.mem_cons_of_mem _ (List.mem_cons_of_mem _ (List.mem_cons_self)))).2.frozen 0; have q1 := (D3.out.blk _ (List.mem_cons_of_mem _ (List.mem_cons_of_mem _ (List.mem_cons_self)))).2.cell 1 _ rfl; have qz1 := (D3.out.blk _ (List.mem_cons_of_mem _ (List.mem_cons_of_mem _ (List.mem_cons_self)))).2.frozen 1; have q2 := (D3.out.blk _ (List.mem_cons_of_mem _ (List.mem_cons_of_mem _ (List.mem_cons_self)))).2.cell 2 _ rfl; have qz2 := (D3.out.blk _ (List.mem_cons_of_mem _ (List.mem_cons_of_mem _ (List.mem_cons_self)))).2.frozen 2; have qlt := (D3.out).bl (List.mem_cons_of_mem _ (List.mem_cons_of_mem _ (List.mem_cons_self))))) | (go_at_call 52; go_loud (with_reducible refine (NY.out _ (T0.out.on (D3.out).bel)).mono ?_; rintro e wn4 ⟨rfl, hb⟩; have D4 := Lib.hid ((D3.out).on hb); clear hb; have u0 := (D4.out.blk _ (List.mem_cons_of_mem _ (List.mem_cons_self))).2.cell 0 _ rfl; have uz0 := (D4.out.blk _ (List.mem_cons_of_mem _ (List.mem_cons_self))).2.frozen 0; have u1 := (D4.out.blk _ (List.mem_cons_of_mem _ (List.mem_cons_self))).2.cell 1 _ rfl; have uz1 := (D4.out.blk _ (List.mem_cons_of_mem _ (List.mem_cons_self))).2.frozen 1; have u2 := (D4.out.blk _ (List.mem_cons_of_mem _ (List.mem_cons_self))).2.cell 2 _ rfl; have uz2 := (D4.out.blk _ (List.mem_cons_of_mem _ (List.mem_cons_self))).2.frozen 2; have ult := (D4.out).bl (List.mem_cons_of_mem _ (List.mem_cons_self)); have q0 := (D4.out.blk _ (List.mem_cons_of_mem _ (List.mem_cons_of_mem _ (List.mem_cons_self)))).2.cell 0 _ rfl; have qz0 := (D4.out.blk _ (List.mem_cons_of_mem _ (List.mem_cons_of_mem _ (List.mem_cons_self)))).2.frozen 0; have q1 := (D4.out.blk _ (List.mem_cons_of_mem _ (List.mem_cons_of_mem _ (List.mem_cons_self)))).2.cell 1 _ rfl; have qz1 := (D4.out.blk _ (List.mem_cons_of_mem _ (List.mem_cons_of_mem _ (List.mem_cons_self)))).2.frozen 1; have q2 := (D4.out.blk _ (List.mem_cons_of_mem _ (List.mem_cons_of_mem _ (List.mem_cons_self)))).2.cell 2 _ rfl; have qz2 := (D4.out.blk _ (List.mem_cons_of_mem _ (List.mem_cons_of_mem _ (List.mem_cons_self)))).2.frozen 2; have qlt := (D4.out).bl (List.mem_cons_of_mem _ (List.mem_cons_of_mem _ (List.mem_cons_self))))) | (go_at_call 46; go_loud (with_reducible refine (E1.out _ (T0.out.on (D4.out).bel)).mono ?_; rintro e wn5 ⟨rfl, hb⟩; have D5 := Lib.hid ((D4.out).on hb); clear hb)) | (go_at_call 53; go_loud (with_reducible refine (hInt x _).mono ?_; rintro e wn6 ⟨rfl, hb⟩; have D6 := Lib.hid ((D5.out.new 32 [.int .i64 0, .int .i64 0, .string ⟨#[]⟩]).on hb); clear hb)) | (go_at_call 53; go_loud (with_reducible refine (hInt y _).mono ?_; rintro e wn7 ⟨rfl, hb⟩; have D7 := Lib.hid ((D6.out).on hb); clear hb)) | (go_at_call 46; go_loud (with_reducible refine (E2.out _ (T0.out.on (D7.out).bel)).mono ?_; rintro e wn8 ⟨rfl, hb⟩; have D8 := Lib.hid ((D7.out).on hb); clear hb; have r0 := (D8.out.blk _ (List.mem_cons_self)).2.cell 0 _ rfl; have rz0 := (D8.out.blk _ (List.mem_cons_self)).2.frozen 0; have r1 := (D8.out.blk _ (List.mem_cons_self)).2.cell 1 _ rfl; have rz1 := (D8.out.blk _ (List.mem_cons_self)).2.frozen 1; have r2 := (D8.out.blk _ (List.mem_cons_self)).2.cell 2 _ rfl; have rz2 := (D8.out.blk _ (List.mem_cons_self)).2.frozen 2; have rlt := (D8.out).bl (List.mem_cons_self); have u0 := (D8.out.blk _ (List.mem_cons_of_mem _ (List.mem_cons_of_mem _ (List.mem_cons_self)))).2.cell 0 _ rfl; have uz0 := (D8.out.blk _ (List.mem_cons_of_mem _ (List.mem_cons_of_mem _ (List.mem_cons_self)))).2.frozen 0; have u1 := (D8.out.blk _ (List.mem_cons_of_mem _ (List.mem_cons_of_mem _ (List.mem_cons_self)))).2.cell 1 _ rfl; have uz1 := (D8.out.blk _ (List.mem_cons_of_mem _ (List.mem_cons_of_mem _ (List.mem_cons_self)))).2.frozen 1; have u2 := (D8.out.blk _ (List.mem_cons_of_mem _ (List.mem_cons_of_mem _ (List.mem_cons_self)))).2.cell 2 _ rfl; have uz2 := (D8.out.blk _ (List.mem_cons_of_mem _ (List.mem_cons_of_mem _ (List.mem_cons_self)))).2.frozen 2; have ult := (D8.out).bl (List.mem_cons_of_mem _ (List.mem_cons_of_mem _ (List.mem_cons_self))); have q0 := (D8.out.blk _ (List.mem_cons_of_mem _ (List.mem_cons_of_mem _ (List.mem_cons_of_mem _ (List.mem_cons_self))))).2.cell 0 _ rfl; have qz0 := (D8.out.blk _ (List.mem_cons_of_mem _ (List.mem_cons_of_mem _ (List.mem_cons_of_mem _ (List.mem_cons_self))))).2.frozen 0; have q1 := (D8.out.blk _ (List.mem_cons_of_mem _ (List.mem_cons_of_mem _ (List.mem_cons_of_mem _ (List.mem_cons_self))))).2.cell 1 _ rfl; have qz1 := (D8.out.blk _ (List.mem_cons_of_mem _ (List.mem_cons_of_mem _ (List.mem_cons_of_mem _ (List.mem_cons_self))))).2.frozen 1; have q2 := (D8.out.blk _ (List.mem_cons_of_mem _ (List.mem_cons_of_mem _ (List.mem_cons_of_mem _ (List.mem_cons_self))))).2.cell 2 _ rfl; have qz2 := (D8.out.blk _ (List.mem_cons_of_mem _ (List.mem_cons_of_mem _ (List.mem_cons_of_mem _ (List.mem_cons_self))))).2.frozen 2; have qlt := (D8.out).bl (List.mem_cons_of_mem _ (List.mem_cons_of_mem _ (List.mem_cons_of_mem _ (List.mem_cons_self)))))) | (go_at_call 54; go_loud (with_reducible refine (SX.out _ (T0.out.on (D8.out.new 32 [.int .i64 y1, .int .i64 y2, .string y3]).bel)).mono ?_; rintro e wn9 ⟨rfl, hb⟩; have D9 := Lib.hid ((D8.out.new 32 [.int .i64 y1, .int .i64 y2, .string y3]).on hb); clear hb; have u0 := (D9.out.blk _ (List.mem_cons_of_mem _ (List.mem_cons_of_mem _ (List.mem_cons_of_mem _ (List.mem_cons_self))))).2.cell 0 _ rfl; have uz0 := (D9.out.blk _ (List.mem_cons_of_mem _ (List.mem_cons_of_mem _ (List.mem_cons_of_mem _ (List.mem_cons_self))))).2.frozen 0; have u1 := (D9.out.blk _ (List.mem_cons_of_mem _ (List.mem_cons_of_mem _ (List.mem_cons_of_mem _ (List.mem_cons_self))))).2.cell 1 _ rfl; have uz1 := (D9.out.blk _ (List.mem_cons_of_mem _ (List.mem_cons_of_mem _ (List.mem_cons_of_mem _ (List.mem_cons_self))))).2.frozen 1; have u2 := (D9.out.blk _ (List.mem_cons_of_mem _ (List.mem_cons_of_mem _ (List.mem_cons_of_mem _ (List.mem_cons_self))))).2.cell 2 _ rfl; have uz2 := (D9.out.blk _ (List.mem_cons_of_mem _ (List.mem_cons_of_mem _ (List.mem_cons_of_mem _ (List.mem_cons_self))))).2.frozen 2; have ult := (D9.out).bl (List.mem_cons_of_mem _ (List.mem_cons_of_mem _ (List.mem_cons_of_mem _ (List.mem_cons_self)))); have q0 := (D9.out.blk _ (List.mem_cons_of_mem _ (List.mem_cons_of_mem _ (List.mem_cons_of_mem _ (List.mem_cons_of_mem _ (List.mem_cons_self)))))).2.cell 0 _ rfl; have qz0 := (D9.out.blk _ (List.mem_cons_of_mem _ (List.mem_cons_of_mem _ (List.mem_cons_of_mem _ (List.mem_cons_of_mem _ (List.mem_cons_self)))))).2.frozen 0; have q1 := (D9.out.blk _ (List.mem_cons_of_mem _ (List.mem_cons_of_mem _ (List.mem_cons_of_mem _ (List.mem_cons_of_mem _ (List.mem_cons_self)))))).2.cell 1 _ rfl; have qz1 := (D9.out.blk _ (List.mem_cons_of_mem _ (List.mem_cons_of_mem _ (List.mem_cons_of_mem _ (List.mem_cons_of_mem _ (List.mem_cons_self)))))).2.frozen 1; have q2 := (D9.out.blk _ (List.mem_cons_of_mem _ (List.mem_cons_of_mem _ (List.mem_cons_of_mem _ (List.mem_cons_of_mem _ (List.mem_cons_self)))))).2.cell 2 _ rfl; have qz2 := (D9.out.blk _ (List.mem_cons_of_mem _ (List.mem_cons_of_mem _ (List.mem_cons_of_mem _ (List.mem_cons_of_mem _ (List.mem_cons_self)))))).2.frozen 2; have qlt := (D9.out).bl (List.mem_cons_of_mem _ (List.mem_cons_of_mem _ (List.mem_cons_of_mem _ (List.mem_cons_of_mem _ (List.mem_cons_self))))))) | (go_at_call 54; go_loud (with_reducible refine (SY.out _ (T0.out.on (D9.out).bel)).mono ?_; rintro e wn10 ⟨rfl, hb⟩; have D10 := Lib.hid ((D9.out).on hb); clear hb; have u0 := (D10.out.blk _ (List.mem_cons_of_mem _ (List.mem_cons_of_mem _ (List.mem_cons_of_mem _ (List.mem_cons_self))))).2.cell 0 _ rfl; have uz0 := (D10.out.blk _ (List.mem_cons_of_mem _ (List.mem_cons_of_mem _ (List.mem_cons_of_mem _ (List.mem_cons_self))))).2.frozen 0; have u1 := (D10.out.blk _ (List.mem_cons_of_mem _ (List.mem_cons_of_mem _ (List.mem_cons_of_mem _ (List.mem_cons_self))))).2.cell 1 _ rfl; have uz1 := (D10.out.blk _ (List.mem_cons_of_mem _ (List.mem_cons_of_mem _ (List.mem_cons_of_mem _ (List.mem_cons_self))))).2.frozen 1; have u2 := (D10.out.blk _ (List.mem_cons_of_mem _ (List.mem_cons_of_mem _ (List.mem_cons_of_mem _ (List.mem_cons_self))))).2.cell 2 _ rfl; have uz2 := (D10.out.blk _ (List.mem_cons_of_mem _ (List.mem_cons_of_mem _ (List.mem_cons_of_mem _ (List.mem_cons_self))))).2.frozen 2; have ult := (D10.out).bl (List.mem_cons_of_mem _ (List.mem_cons_of_mem _ (List.mem_cons_of_mem _ (List.mem_cons_self)))); have q0 := (D10.out.blk _ (List.mem_cons_of_mem _ (List.mem_cons_of_mem _ (List.mem_cons_of_mem _ (List.mem_cons_of_mem _ (List.mem_cons_self)))))).2.cell 0 _ rfl; have qz0 := (D10.out.blk _ (List.mem_cons_of_mem _ (List.mem_cons_of_mem _ (List.mem_cons_of_mem _ (List.mem_cons_of_mem _ (List.mem_cons_self)))))).2.frozen 0; have q1 := (D10.out.blk _ (List.mem_cons_of_mem _ (List.mem_cons_of_mem _ (List.mem_cons_of_mem _ (List.mem_cons_of_mem _ (List.mem_cons_self)))))).2.cell 1 _ rfl; have qz1 := (D10.out.blk _ (List.mem_cons_of_mem _ (List.mem_cons_of_mem _ (List.mem_cons_of_mem _ (List.mem_cons_of_mem _ (List.mem_cons_self)))))).2.frozen 1; have q2 := (D10.out.blk _ (List.mem_cons_of_mem _ (List.mem_cons_of_mem _ (List.mem_cons_of_mem _ (List.mem_cons_of_mem _ (List.mem_cons_self)))))).2.cell 2 _ rfl; have qz2 := (D10.out.blk _ (List.mem_cons_of_mem _ (List.mem_cons_of_mem _ (List.mem_cons_of_mem _ (List.mem_cons_of_mem _ (List.mem_cons_self)))))).2.frozen 2; have qlt := (D10.out).bl (List.mem_cons_of_mem _ (List.mem_cons_of_mem _ (List.mem_cons_of_mem _ (List.mem_cons_of_mem _ (List.mem_cons_self))))))) | (go_at_call 46; go_loud (with_reducible refine (E3.out _ (T0.out.on (D10.out).bel)).mono ?_; rintro e wn11 ⟨rfl, hb⟩; have D11 := Lib.hid ((D10.out).on hb); clear hb)))
  have hu := Tryd.underlying32
  have D12 := Lib.hid (D11.out.new 32 [.int .i64 0, .int .i64 0, .string ⟨#[]⟩])
  obtain ⟨w1, hw1⟩ : ∃ z, z = wn11.alloc (.cells #[.int .i64 0, .int .i64 0, .string ⟨#[]⟩] 32) := ⟨_, rfl⟩
  obtain ⟨x20, hx20⟩ : ∃ z, z = wn11.heap.size := ⟨_, rfl⟩
  rw [← hw1] at D12
  rw [← hx20] at D12
  simp only [← hw1, ← hx20]
  clear hw1 hx20
  have hBB : Below w1.heap.size w1 ({ w1 with drawn := w1.drawn + 1 } : World) := ⟨rfl, rfl, rfl, Nat.le_refl _, fun _ _ => rfl⟩
  refine wp_region_held (S := Below w1.heap.size w1) (by kernel_rfl) ?_
  have hSB := hBB
  generalize ({ w1 with drawn := w1.drawn + 1 } : World) = wB at hSB hBB ⊢
  have hleB := D12.out.bel.size
  have hslB := hSB.size
  have caB0 : ∀ W, Below w1.heap.size w1 W → W.cell? ⟨x20, 0, none⟩ = some (.int .i64 0) := fun W hW => ((D12.out.on hW).blk _ (List.mem_cons_self)).2.cell 0 _ rfl
  have caB1 : ∀ W, Below w1.heap.size w1 W → W.cell? ⟨x20, 1, none⟩ = some (.int .i64 0) := fun W hW => ((D12.out.on hW).blk _ (List.mem_cons_self)).2.cell 1 _ rfl
  have caB2 : ∀ W, Below w1.heap.size w1 W → W.cell? ⟨x20, 2, none⟩ = some (.string ⟨#[]⟩) := fun W hW => ((D12.out.on hW).blk _ (List.mem_cons_self)).2.cell 2 _ rfl
  refine takeH 0 (oi := ⟨some 108, _, _, _, _, _⟩) (v := ?_) rfl (by kernel_rfl) (by kernel_rfl) (by kernel_rfl) (fun _ _ _ h => h) (Or.inl ⟨by rfl, ?hyB301⟩) hSB ?restB301
  case hyB301 => (intro W hW; (try dsimp only at hW); go_simp; try with_reducible rfl)
  try simp only [Act.put, List.setIfInBounds_toArray, List.set_cons_zero, List.set_cons_succ]
  refine takeH 1 (oi := ⟨some 109, _, _, _, _, _⟩) (v := ?_) rfl (by kernel_rfl) (by kernel_rfl) (by kernel_rfl) (fun _ _ _ h => h) (Or.inl ⟨by rfl, ?hyB302⟩) hSB ?restB302
  case hyB302 => (intro W hW; (try dsimp only at hW); go_simp; try with_reducible rfl)
  try simp only [Act.put, List.setIfInBounds_toArray, List.set_cons_zero, List.set_cons_succ]
  refine takeH 2 (oi := ⟨some 110, _, _, _, _, _⟩) (v := undef) rfl (by kernel_rfl) (by kernel_rfl) (by kernel_rfl) (fun _ _ _ h => h) (Or.inr ⟨by rfl, rfl⟩) hSB ?restB303
  try simp only [Act.put, List.setIfInBounds_toArray, List.set_cons_zero, List.set_cons_succ]
  refine takeH 3 (oi := ⟨some 111, _, _, _, _, _⟩) (v := ?_) rfl (by kernel_rfl) (by kernel_rfl) (by kernel_rfl) (fun _ _ _ h => h) (Or.inl ⟨by rfl, ?hyB304⟩) hSB ?restB304
  case hyB304 => (intro W hW; (try dsimp only at hW); go_simp; try with_reducible rfl)
  try simp only [Act.put, List.setIfInBounds_toArray, List.set_cons_zero, List.set_cons_succ]
  refine takeH 4 (oi := ⟨some 112, _, _, _, _, _⟩) (v := ?_) rfl (by kernel_rfl) (by kernel_rfl) (by kernel_rfl) (fun _ _ _ h => h) (Or.inl ⟨by rfl, ?hyB305⟩) hSB ?restB305
  case hyB305 => (intro W hW; (try dsimp only at hW); go_simp; try with_reducible rfl)
  try simp only [Act.put, List.setIfInBounds_toArray, List.set_cons_zero, List.set_cons_succ]
  refine takeH 5 (oi := ⟨some 113, _, _, _, _, _⟩) (v := ?_) rfl (by kernel_rfl) (by kernel_rfl) (by kernel_rfl) (fun _ _ _ h => h) (Or.inl ⟨by rfl, ?hyB306⟩) hSB ?restB306
  case hyB306 => (intro W hW; (try dsimp only at hW); go_simp; try with_reducible rfl)
  try simp only [Act.put, List.setIfInBounds_toArray, List.set_cons_zero, List.set_cons_succ]
  refine takeH 6 (oi := ⟨some 114, _, _, _, _, _⟩) (v := ?_) rfl (by kernel_rfl) (by kernel_rfl) (by kernel_rfl) (fun _ _ _ h => h) (Or.inl ⟨by rfl, ?hyB307⟩) hSB ?restB307
  case hyB307 => (intro W hW; (try dsimp only at hW); go_simp; try with_reducible rfl)
  try simp only [Act.put, List.setIfInBounds_toArray, List.set_cons_zero, List.set_cons_succ]
  refine takeH 7 (oi := ⟨some 115, _, _, _, _, _⟩) (v := ?_) rfl (by kernel_rfl) (by kernel_rfl) (by kernel_rfl) (fun _ _ _ h => h) (Or.inl ⟨by rfl, ?hyB308⟩) hSB ?restB308
  case hyB308 => (intro W hW; (try dsimp only at hW); go_simp; try with_reducible rfl)
  try simp only [Act.put, List.setIfInBounds_toArray, List.set_cons_zero, List.set_cons_succ]
  refine takeH 8 (oi := ⟨some 116, _, _, _, _, _⟩) (v := ?_) rfl (by kernel_rfl) (by kernel_rfl) (by kernel_rfl) (fun _ _ _ h => h) (Or.inl ⟨by rfl, ?hyB309⟩) hSB ?restB309
  case hyB309 => (intro W hW; (try dsimp only at hW); go_simp; try with_reducible rfl)
  try simp only [Act.put, List.setIfInBounds_toArray, List.set_cons_zero, List.set_cons_succ]
  refine takeH 9 (oi := ⟨some 117, _, _, _, _, _⟩) (v := ?_) rfl (by kernel_rfl) (by kernel_rfl) (by kernel_rfl) (fun _ _ _ h => h) (Or.inl ⟨by rfl, ?hyB310⟩) hSB ?restB310
  case hyB310 => (intro W hW; (try dsimp only at hW); go_simp; try with_reducible rfl)
  try simp only [Act.put, List.setIfInBounds_toArray, List.set_cons_zero, List.set_cons_succ]
  refine takeH 10 (oi := ⟨some 118, _, _, _, _, _⟩) (v := undef) rfl (by kernel_rfl) (by kernel_rfl) (by kernel_rfl) (fun _ _ _ h => h) (Or.inr ⟨by rfl, rfl⟩) hSB ?restB311
  try simp only [Act.put, List.setIfInBounds_toArray, List.set_cons_zero, List.set_cons_succ]
  refine takeH 11 (oi := ⟨some 119, _, _, _, _, _⟩) (v := ?_) rfl (by kernel_rfl) (by kernel_rfl) (by kernel_rfl) (fun _ _ _ h => h) (Or.inl ⟨by rfl, ?hyB312⟩) hSB ?restB312
  case hyB312 => (intro W hW; (try dsimp only at hW); go_simp; try with_reducible rfl)
  try simp only [Act.put, List.setIfInBounds_toArray, List.set_cons_zero, List.set_cons_succ]
  refine takeH 12 (oi := ⟨some 120, _, _, _, _, _⟩) (v := ?_) rfl (by kernel_rfl) (by kernel_rfl) (by kernel_rfl) (fun _ _ _ h => h) (Or.inl ⟨by rfl, ?hyB313⟩) hSB ?restB313
  case hyB313 => (intro W hW; (try dsimp only at hW); go_simp; try with_reducible rfl)
  try simp only [Act.put, List.setIfInBounds_toArray, List.set_cons_zero, List.set_cons_succ]
  refine takeH 13 (oi := ⟨some 121, _, _, _, _, _⟩) (v := undef) rfl (by kernel_rfl) (by kernel_rfl) (by kernel_rfl) (fun _ _ _ h => h) (Or.inr ⟨by rfl, rfl⟩) hSB ?restB314
  try simp only [Act.put, List.setIfInBounds_toArray, List.set_cons_zero, List.set_cons_succ]
  refine takeH 14 (oi := ⟨some 122, _, _, _, _, _⟩) (v := undef) rfl (by kernel_rfl) (by kernel_rfl) (by kernel_rfl) (fun _ _ _ h => h) (Or.inr ⟨by rfl, rfl⟩) hSB ?restB315
  try simp only [Act.put, List.setIfInBounds_toArray, List.set_cons_zero, List.set_cons_succ]
  refine takeH 15 (oi := ⟨some 123, _, _, _, _, _⟩) (v := undef) rfl (by kernel_rfl) (by kernel_rfl) (by kernel_rfl) (fun _ _ _ h => h) (Or.inr ⟨by rfl, rfl⟩) hSB ?restB316
  try simp only [Act.put, List.setIfInBounds_toArray, List.set_cons_zero, List.set_cons_succ]
  refine takeH 16 (oi := ⟨some 124, _, _, _, _, _⟩) (v := undef) rfl (by kernel_rfl) (by kernel_rfl) (by kernel_rfl) (fun _ _ _ h => h) (Or.inr ⟨by rfl, rfl⟩) hSB ?restB317
  try simp only [Act.put, List.setIfInBounds_toArray, List.set_cons_zero, List.set_cons_succ]
  refine takeH 17 (oi := ⟨some 125, _, _, _, _, _⟩) (v := undef) rfl (by kernel_rfl) (by kernel_rfl) (by kernel_rfl) (fun _ _ _ h => h) (Or.inr ⟨by rfl, rfl⟩) hSB ?restB318
  try simp only [Act.put, List.setIfInBounds_toArray, List.set_cons_zero, List.set_cons_succ]
  refine takeH 18 (oi := ⟨some 126, _, _, _, _, _⟩) (v := undef) rfl (by kernel_rfl) (by kernel_rfl) (by kernel_rfl) (fun _ _ _ h => h) (Or.inr ⟨by rfl, rfl⟩) hSB ?restB319
  try simp only [Act.put, List.setIfInBounds_toArray, List.set_cons_zero, List.set_cons_succ]
  refine takeH 19 (oi := ⟨some 127, _, _, _, _, _⟩) (v := ?_) rfl (by kernel_rfl) (by kernel_rfl) (by kernel_rfl) (fun _ _ _ h => h) (Or.inl ⟨by rfl, ?hyB320⟩) hSB ?restB320
  case hyB320 => (intro W hW; (try dsimp only at hW); go_simp; try with_reducible rfl)
  try simp only [Act.put, List.setIfInBounds_toArray, List.set_cons_zero, List.set_cons_succ]
  refine takeH 20 (oi := ⟨some 128, _, _, _, _, _⟩) (v := ?_) rfl (by kernel_rfl) (by kernel_rfl) (by kernel_rfl) (fun _ _ _ h => h) (Or.inl ⟨by rfl, ?hyB321⟩) hSB ?restB321
  case hyB321 => (intro W hW; (try dsimp only at hW); go_simp; try with_reducible rfl)
  try simp only [Act.put, List.setIfInBounds_toArray, List.set_cons_zero, List.set_cons_succ]
  refine wpAnyH_done (by kernel_rfl) ?_ _
  clear caB0 caB1 caB2
  have D13 := Lib.hid (D12.out.on hSB)
  generalize wB = W4 at D13 ⊢
  have u0 := (D13.out.blk _ (List.mem_cons_of_mem _ (List.mem_cons_of_mem _ (List.mem_cons_of_mem _ (List.mem_cons_of_mem _ (List.mem_cons_self)))))).2.cell 0 _ rfl; have uz0 := (D13.out.blk _ (List.mem_cons_of_mem _ (List.mem_cons_of_mem _ (List.mem_cons_of_mem _ (List.mem_cons_of_mem _ (List.mem_cons_self)))))).2.frozen 0; have u1 := (D13.out.blk _ (List.mem_cons_of_mem _ (List.mem_cons_of_mem _ (List.mem_cons_of_mem _ (List.mem_cons_of_mem _ (List.mem_cons_self)))))).2.cell 1 _ rfl; have uz1 := (D13.out.blk _ (List.mem_cons_of_mem _ (List.mem_cons_of_mem _ (List.mem_cons_of_mem _ (List.mem_cons_of_mem _ (List.mem_cons_self)))))).2.frozen 1; have u2 := (D13.out.blk _ (List.mem_cons_of_mem _ (List.mem_cons_of_mem _ (List.mem_cons_of_mem _ (List.mem_cons_of_mem _ (List.mem_cons_self)))))).2.cell 2 _ rfl; have uz2 := (D13.out.blk _ (List.mem_cons_of_mem _ (List.mem_cons_of_mem _ (List.mem_cons_of_mem _ (List.mem_cons_of_mem _ (List.mem_cons_self)))))).2.frozen 2; have ult := (D13.out).bl (List.mem_cons_of_mem _ (List.mem_cons_of_mem _ (List.mem_cons_of_mem _ (List.mem_cons_of_mem _ (List.mem_cons_self))))); have q0 := (D13.out.blk _ (List.mem_cons_of_mem _ (List.mem_cons_of_mem _ (List.mem_cons_of_mem _ (List.mem_cons_of_mem _ (List.mem_cons_of_mem _ (List.mem_cons_self))))))).2.cell 0 _ rfl; have qz0 := (D13.out.blk _ (List.mem_cons_of_mem _ (List.mem_cons_of_mem _ (List.mem_cons_of_mem _ (List.mem_cons_of_mem _ (List.mem_cons_of_mem _ (List.mem_cons_self))))))).2.frozen 0; have q1 := (D13.out.blk _ (List.mem_cons_of_mem _ (List.mem_cons_of_mem _ (List.mem_cons_of_mem _ (List.mem_cons_of_mem _ (List.mem_cons_of_mem _ (List.mem_cons_self))))))).2.cell 1 _ rfl; have qz1 := (D13.out.blk _ (List.mem_cons_of_mem _ (List.mem_cons_of_mem _ (List.mem_cons_of_mem _ (List.mem_cons_of_mem _ (List.mem_cons_of_mem _ (List.mem_cons_self))))))).2.frozen 1; have q2 := (D13.out.blk _ (List.mem_cons_of_mem _ (List.mem_cons_of_mem _ (List.mem_cons_of_mem _ (List.mem_cons_of_mem _ (List.mem_cons_of_mem _ (List.mem_cons_self))))))).2.cell 2 _ rfl; have qz2 := (D13.out.blk _ (List.mem_cons_of_mem _ (List.mem_cons_of_mem _ (List.mem_cons_of_mem _ (List.mem_cons_of_mem _ (List.mem_cons_of_mem _ (List.mem_cons_self))))))).2.frozen 2; have qlt := (D13.out).bl (List.mem_cons_of_mem _ (List.mem_cons_of_mem _ (List.mem_cons_of_mem _ (List.mem_cons_of_mem _ (List.mem_cons_of_mem _ (List.mem_cons_self))))))
  go_upto_region 19 with (first | (go_at_call 46; go_loud (with_reducible refine (E4.out _ (T0.out.on (D13.out).bel)).mono ?_; rintro e wn14 ⟨rfl, hb⟩; have D14 := Lib.hid ((D13.out).on hb); clear hb)) | (go_at_call 55; go_loud (with_reducible refine (hStr _ _).mono ?_; rintro e wn15 ⟨rfl, hb⟩; have D15 := Lib.hid ((D14.out.new 32 [.int .i64 0, .int .i64 0, .string ⟨#[]⟩]).on hb); clear hb)) | (go_at_call 56; go_loud (with_reducible refine (ON.out _ (T0.out.on (D15.out).bel)).mono ?_; rintro e wn16 ⟨rfl, hb⟩; have D16 := Lib.hid ((D15.out).on hb); clear hb)))
  have D17 := Lib.hid (D16.out.new 32 [.int .i64 2, .int .i64 (S.size : Int), .string ⟨#[]⟩])
  obtain ⟨w5, hw5⟩ : ∃ z, z = wn16.alloc (.cells #[.int .i64 2, .int .i64 (S.size : Int), .string ⟨#[]⟩] 32) := ⟨_, rfl⟩
  obtain ⟨x24, hx24⟩ : ∃ z, z = wn16.heap.size := ⟨_, rfl⟩
  rw [← hw5] at D17
  rw [← hx24] at D17
  simp only [← hw5, ← hx24]
  clear hw5 hx24
  have hBE : Below w5.heap.size w5 ({ w5 with drawn := w5.drawn + 1 } : World) := ⟨rfl, rfl, rfl, Nat.le_refl _, fun _ _ => rfl⟩
  refine wp_region_held (S := Below w5.heap.size w5) (by kernel_rfl) ?_
  have hSE := hBE
  generalize ({ w5 with drawn := w5.drawn + 1 } : World) = wE at hSE hBE ⊢
  have hleE := D17.out.bel.size
  have hslE := hSE.size
  have naE0 : ∀ W, Below w5.heap.size w5 W → W.cell? ⟨x24, 0, none⟩ = some (.int .i64 2) := fun W hW => ((D17.out.on hW).blk _ (List.mem_cons_self)).2.cell 0 _ rfl
  have naE1 : ∀ W, Below w5.heap.size w5 W → W.cell? ⟨x24, 1, none⟩ = some (.int .i64 (S.size : Int)) := fun W hW => ((D17.out.on hW).blk _ (List.mem_cons_self)).2.cell 1 _ rfl
  have naE2 : ∀ W, Below w5.heap.size w5 W → W.cell? ⟨x24, 2, none⟩ = some (.string ⟨#[]⟩) := fun W hW => ((D17.out.on hW).blk _ (List.mem_cons_self)).2.cell 2 _ rfl
  refine takeH 0 (oi := ⟨some 147, _, _, _, _, _⟩) (v := ?_) rfl (by kernel_rfl) (by kernel_rfl) (by kernel_rfl) (fun _ _ _ h => h) (Or.inl ⟨by rfl, ?hyE322⟩) hSE ?restE322
  case hyE322 => (intro W hW; (try dsimp only at hW); go_simp; try with_reducible rfl)
  try simp only [Act.put, List.setIfInBounds_toArray, List.set_cons_zero, List.set_cons_succ]
  refine takeH 1 (oi := ⟨some 148, _, _, _, _, _⟩) (v := ?_) rfl (by kernel_rfl) (by kernel_rfl) (by kernel_rfl) (fun _ _ _ h => h) (Or.inl ⟨by rfl, ?hyE323⟩) hSE ?restE323
  case hyE323 => (intro W hW; (try dsimp only at hW); go_simp; try with_reducible rfl)
  try simp only [Act.put, List.setIfInBounds_toArray, List.set_cons_zero, List.set_cons_succ]
  refine takeH 2 (oi := ⟨some 149, _, _, _, _, _⟩) (v := undef) rfl (by kernel_rfl) (by kernel_rfl) (by kernel_rfl) (fun _ _ _ h => h) (Or.inr ⟨by rfl, rfl⟩) hSE ?restE324
  try simp only [Act.put, List.setIfInBounds_toArray, List.set_cons_zero, List.set_cons_succ]
  refine takeH 3 (oi := ⟨some 150, _, _, _, _, _⟩) (v := ?_) rfl (by kernel_rfl) (by kernel_rfl) (by kernel_rfl) (fun _ _ _ h => h) (Or.inl ⟨by rfl, ?hyE325⟩) hSE ?restE325
  case hyE325 => (intro W hW; (try dsimp only at hW); go_simp; try with_reducible rfl)
  try simp only [Act.put, List.setIfInBounds_toArray, List.set_cons_zero, List.set_cons_succ]
  refine takeH 4 (oi := ⟨some 151, _, _, _, _, _⟩) (v := ?_) rfl (by kernel_rfl) (by kernel_rfl) (by kernel_rfl) (fun _ _ _ h => h) (Or.inl ⟨by rfl, ?hyE326⟩) hSE ?restE326
  case hyE326 => (intro W hW; (try dsimp only at hW); go_simp; try with_reducible rfl)
  try simp only [Act.put, List.setIfInBounds_toArray, List.set_cons_zero, List.set_cons_succ]
  refine takeH 5 (oi := ⟨some 152, _, _, _, _, _⟩) (v := ?_) rfl (by kernel_rfl) (by kernel_rfl) (by kernel_rfl) (fun _ _ _ h => h) (Or.inl ⟨by rfl, ?hyE327⟩) hSE ?restE327
  case hyE327 => (intro W hW; (try dsimp only at hW); go_simp; try with_reducible rfl)
  try simp only [Act.put, List.setIfInBounds_toArray, List.set_cons_zero, List.set_cons_succ]
  refine takeH 6 (oi := ⟨some 153, _, _, _, _, _⟩) (v := undef) rfl (by kernel_rfl) (by kernel_rfl) (by kernel_rfl) (fun _ _ _ h => h) (Or.inr ⟨by rfl, rfl⟩) hSE ?restE328
  try simp only [Act.put, List.setIfInBounds_toArray, List.set_cons_zero, List.set_cons_succ]
  refine takeH 7 (oi := ⟨some 154, _, _, _, _, _⟩) (v := undef) rfl (by kernel_rfl) (by kernel_rfl) (by kernel_rfl) (fun _ _ _ h => h) (Or.inr ⟨by rfl, rfl⟩) hSE ?restE329
  try simp only [Act.put, List.setIfInBounds_toArray, List.set_cons_zero, List.set_cons_succ]
  refine takeH 8 (oi := ⟨some 155, _, _, _, _, _⟩) (v := undef) rfl (by kernel_rfl) (by kernel_rfl) (by kernel_rfl) (fun _ _ _ h => h) (Or.inr ⟨by rfl, rfl⟩) hSE ?restE330
  try simp only [Act.put, List.setIfInBounds_toArray, List.set_cons_zero, List.set_cons_succ]
  refine takeH 9 (oi := ⟨some 156, _, _, _, _, _⟩) (v := undef) rfl (by kernel_rfl) (by kernel_rfl) (by kernel_rfl) (fun _ _ _ h => h) (Or.inr ⟨by rfl, rfl⟩) hSE ?restE331
  try simp only [Act.put, List.setIfInBounds_toArray, List.set_cons_zero, List.set_cons_succ]
  refine takeH 10 (oi := ⟨some 157, _, _, _, _, _⟩) (v := undef) rfl (by kernel_rfl) (by kernel_rfl) (by kernel_rfl) (fun _ _ _ h => h) (Or.inr ⟨by rfl, rfl⟩) hSE ?restE332
  try simp only [Act.put, List.setIfInBounds_toArray, List.set_cons_zero, List.set_cons_succ]
  refine takeH 11 (oi := ⟨some 158, _, _, _, _, _⟩) (v := undef) rfl (by kernel_rfl) (by kernel_rfl) (by kernel_rfl) (fun _ _ _ h => h) (Or.inr ⟨by rfl, rfl⟩) hSE ?restE333
  try simp only [Act.put, List.setIfInBounds_toArray, List.set_cons_zero, List.set_cons_succ]
  refine takeH 12 (oi := ⟨some 159, _, _, _, _, _⟩) (v := ?_) rfl (by kernel_rfl) (by kernel_rfl) (by kernel_rfl) (fun _ _ _ h => h) (Or.inl ⟨by rfl, ?hyE334⟩) hSE ?restE334
  case hyE334 => (intro W hW; (try dsimp only at hW); go_simp; try with_reducible rfl)
  try simp only [Act.put, List.setIfInBounds_toArray, List.set_cons_zero, List.set_cons_succ]
  refine takeH 13 (oi := ⟨some 160, _, _, _, _, _⟩) (v := ?_) rfl (by kernel_rfl) (by kernel_rfl) (by kernel_rfl) (fun _ _ _ h => h) (Or.inl ⟨by rfl, ?hyE335⟩) hSE ?restE335
  case hyE335 => (intro W hW; (try dsimp only at hW); go_simp; try with_reducible rfl)
  try simp only [Act.put, List.setIfInBounds_toArray, List.set_cons_zero, List.set_cons_succ]
  refine takeH 14 (oi := ⟨some 161, _, _, _, _, _⟩) (v := undef) rfl (by kernel_rfl) (by kernel_rfl) (by kernel_rfl) (fun _ _ _ h => h) (Or.inr ⟨by rfl, rfl⟩) hSE ?restE336
  try simp only [Act.put, List.setIfInBounds_toArray, List.set_cons_zero, List.set_cons_succ]
  refine takeH 15 (oi := ⟨some 162, _, _, _, _, _⟩) (v := undef) rfl (by kernel_rfl) (by kernel_rfl) (by kernel_rfl) (fun _ _ _ h => h) (Or.inr ⟨by rfl, rfl⟩) hSE ?restE337
  try simp only [Act.put, List.setIfInBounds_toArray, List.set_cons_zero, List.set_cons_succ]
  refine takeH 16 (oi := ⟨some 163, _, _, _, _, _⟩) (v := ?_) rfl (by kernel_rfl) (by kernel_rfl) (by kernel_rfl) (fun _ _ _ h => h) (Or.inl ⟨by rfl, ?hyE338⟩) hSE ?restE338
  case hyE338 => (intro W hW; (try dsimp only at hW); go_simp; try with_reducible rfl)
  try simp only [Act.put, List.setIfInBounds_toArray, List.set_cons_zero, List.set_cons_succ]
  refine takeH 17 (oi := ⟨some 164, _, _, _, _, _⟩) (v := ?_) rfl (by kernel_rfl) (by kernel_rfl) (by kernel_rfl) (fun _ _ _ h => h) (Or.inl ⟨by rfl, ?hyE339⟩) hSE ?restE339
  case hyE339 => (intro W hW; (try dsimp only at hW); go_simp; try with_reducible rfl)
  try simp only [Act.put, List.setIfInBounds_toArray, List.set_cons_zero, List.set_cons_succ]
  refine takeH 18 (oi := ⟨some 165, _, _, _, _, _⟩) (v := ?_) rfl (by kernel_rfl) (by kernel_rfl) (by kernel_rfl) (fun _ _ _ h => h) (Or.inl ⟨by rfl, ?hyE340⟩) hSE ?restE340
  case hyE340 => (intro W hW; (try dsimp only at hW); go_simp; try with_reducible rfl)
  try simp only [Act.put, List.setIfInBounds_toArray, List.set_cons_zero, List.set_cons_succ]
  refine takeH 19 (oi := ⟨some 166, _, _, _, _, _⟩) (v := ?_) rfl (by kernel_rfl) (by kernel_rfl) (by kernel_rfl) (fun _ _ _ h => h) (Or.inl ⟨by rfl, ?hyE341⟩) hSE ?restE341
  case hyE341 => (intro W hW; (try dsimp only at hW); go_simp; try with_reducible rfl)
  try simp only [Act.put, List.setIfInBounds_toArray, List.set_cons_zero, List.set_cons_succ]
  refine takeH 20 (oi := ⟨some 167, _, _, _, _, _⟩) (v := ?_) rfl (by kernel_rfl) (by kernel_rfl) (by kernel_rfl) (fun _ _ _ h => h) (Or.inl ⟨by rfl, ?hyE342⟩) hSE ?restE342
  case hyE342 => (intro W hW; (try dsimp only at hW); go_simp; try with_reducible rfl)
  try simp only [Act.put, List.setIfInBounds_toArray, List.set_cons_zero, List.set_cons_succ]
  refine takeH 21 (oi := ⟨some 168, _, _, _, _, _⟩) (v := ?_) rfl (by kernel_rfl) (by kernel_rfl) (by kernel_rfl) (fun _ _ _ h => h) (Or.inl ⟨by rfl, ?hyE343⟩) hSE ?restE343
  case hyE343 => (intro W hW; (try dsimp only at hW); go_simp; try with_reducible rfl)
  try simp only [Act.put, List.setIfInBounds_toArray, List.set_cons_zero, List.set_cons_succ]
  refine takeH 22 (oi := ⟨some 169, _, _, _, _, _⟩) (v := ?_) rfl (by kernel_rfl) (by kernel_rfl) (by kernel_rfl) (fun _ _ _ h => h) (Or.inl ⟨by rfl, ?hyE344⟩) hSE ?restE344
  case hyE344 => (intro W hW; (try dsimp only at hW); go_simp; try with_reducible rfl)
  try simp only [Act.put, List.setIfInBounds_toArray, List.set_cons_zero, List.set_cons_succ]
  refine takeH 23 (oi := ⟨some 170, _, _, _, _, _⟩) (v := ?_) rfl (by kernel_rfl) (by kernel_rfl) (by kernel_rfl) (fun _ _ _ h => h) (Or.inl ⟨by rfl, ?hyE345⟩) hSE ?restE345
  case hyE345 => (intro W hW; (try dsimp only at hW); go_simp; try with_reducible rfl)
  try simp only [Act.put, List.setIfInBounds_toArray, List.set_cons_zero, List.set_cons_succ]
  refine takeH 24 (oi := ⟨some 171, _, _, _, _, _⟩) (v := ?_) rfl (by kernel_rfl) (by kernel_rfl) (by kernel_rfl) (fun _ _ _ h => h) (Or.inl ⟨by rfl, ?hyE346⟩) hSE ?restE346
  case hyE346 => (intro W hW; (try dsimp only at hW); go_simp; try with_reducible rfl)
  try simp only [Act.put, List.setIfInBounds_toArray, List.set_cons_zero, List.set_cons_succ]
  refine one (i := 25) (by kernel_rfl) ?_
  refine wpOp_wanted rfl (by rfl) fun K hK => ?_
  go_simp
  with_reducible refine (hInt _ _).mono ?_
  rintro e wE347 ⟨rfl, hb⟩
  have SE347 : Below w5.heap.size w5 wE347 := hSE.trans (hb.mono hSE.size)
  clear hb
  refine hK _ _ ⟨SE347, ?_⟩
  clear hK K
  try simp only [Act.put, List.setIfInBounds_toArray, List.set_cons_zero, List.set_cons_succ]
  refine takeH 26 (oi := ⟨some 173, _, _, _, _, _⟩) (v := ?_) rfl (by kernel_rfl) (by kernel_rfl) (by kernel_rfl) (fun _ _ _ h => h) (Or.inl ⟨by rfl, ?hyE348⟩) SE347 ?restE348
  case hyE348 => (intro W hW; (try dsimp only at hW); go_simp; try with_reducible rfl)
  try simp only [Act.put, List.setIfInBounds_toArray, List.set_cons_zero, List.set_cons_succ]
  refine takeH 27 (oi := ⟨some 174, _, _, _, _, _⟩) (v := ?_) rfl (by kernel_rfl) (by kernel_rfl) (by kernel_rfl) (fun _ _ _ h => h) (Or.inl ⟨by rfl, ?hyE349⟩) SE347 ?restE349
  case hyE349 => (intro W hW; (try dsimp only at hW); go_simp; try with_reducible rfl)
  try simp only [Act.put, List.setIfInBounds_toArray, List.set_cons_zero, List.set_cons_succ]
  refine takeH 28 (oi := ⟨some 6, _, _, _, _, _⟩) (v := ?_) rfl (by kernel_rfl) (by kernel_rfl) (by kernel_rfl) (fun _ _ _ h => h) (Or.inl ⟨by rfl, ?hyE350⟩) SE347 ?restE350
  case hyE350 => (intro W hW; (try dsimp only at hW); go_simp; try with_reducible rfl)
  try simp only [Act.put, List.setIfInBounds_toArray, List.set_cons_zero, List.set_cons_succ]
  refine wpAnyH_done (by kernel_rfl) ?_ _
  clear naE0 naE1 naE2
  go_wp2_with fail
  go_ret
  exact ⟨rfl, (D17.out.on SE347).bel⟩
set_option maxHeartbeats 16000000 in
set_option maxRecDepth 20000 in
theorem nu24 (m op : Int) (k0 n0 : Int) (s0 : ByteArray) (k1 n1 : Int) (s1 : ByteArray) (x y : Int) (z : Bool) (S T : ByteArray) (y1 y2 : Int) (y3 : ByteArray) (y4 : Int) (hg : ∀ b W, Blk W b 32 [.int .i64 k0, .int .i64 n0, .string s0, .int .i64 k1, .int .i64 n1, .string s1] → Calls Tryd.prog 44 #[.slice (some ⟨b, 0, none⟩) 2 2] W fun e w' => e = .returned (.bool false) ∧ Below W.heap.size W w') (hop : wrap64 (1 + (wrap64 m).tmod 10) = op) (hx : numberF k0 n0 s0 = some (x, false)) (hy : numberF k1 n1 s1 = some (y, z)) (d1 : doF op k0 n0 s0 k1 n1 s1 0 = some (0, 0, ⟨#[]⟩, 18)) (d2 : doF op 2 x ⟨#[]⟩ 2 y ⟨#[]⟩ 0 = some (y1, y2, y3, y4)) (hs : stringF k0 n0 s0 = some (S, true)) (ht : stringF k1 n1 s1 = some (T, false)) (d3 : doF 11 k0 n0 s0 k1 n1 s1 ((S.size : Int) + (T.size : Int)) = some (0, 0, ⟨#[]⟩, 18)) (d4 : doF 11 k0 n0 s0 k1 n1 s1 ((S.size : Int) + (T.size : Int) - 1) = some (0, 0, ⟨#[]⟩, 18)) (o1 : oneF 23 3 0 S = some (2, (S.size : Int), ⟨#[]⟩, 0)) (hw1 : IntKind.i64.wrap ((S.size : Int) + (T.size : Int)) = (S.size : Int) + (T.size : Int)) (hw2 : IntKind.i64.wrap ((S.size : Int) + (T.size : Int) - 1) = (S.size : Int) + (T.size : Int) - 1) (hv1 : wrap64 ((S.size : Int) + (T.size : Int)) = (S.size : Int) + (T.size : Int)) (hv2 : wrap64 ((S.size : Int) + (T.size : Int) - 1) = (S.size : Int) + (T.size : Int) - 1) (hz2 : (9223372036854775807 < S.size + T.size) = False) (w : World) (hT : Tab w) : Calls Tryd.prog 10 #[.int .u8 m, .agg #[.int .i64 k0, .int .i64 n0, .string s0], .agg #[.int .i64 k1, .int .i64 n1, .string s1]] w fun e w' => e = .returned (.bool true) ∧ Below w.heap.size w w' := by
  have T0 := Lib.hid hT
  have D0 := Lib.hid (OD.start2 w 32 [.int .i64 k0, .int .i64 n0, .string s0] [.int .i64 k1, .int .i64 n1, .string s1])
  have AL := Lib.hid (fun W hW => alive_calls true W hW rfl)
  have GR := Lib.hid hg
  have NX := Lib.hid (fun W hW => number_calls k0 n0 s0 x false W hW hx)
  have NY := Lib.hid (fun W hW => number_calls k1 n1 s1 y z W hW hy)
  have E1 := Lib.hid (fun W hW => do_calls op k0 n0 s0 k1 n1 s1 0 (0) (0) (⟨#[]⟩) (18) W hW d1)
  have E2 := Lib.hid (fun W hW => do_calls op 2 x ⟨#[]⟩ 2 y ⟨#[]⟩ 0 (y1) (y2) (y3) (y4) W hW d2)
  have SX := Lib.hid (fun W hW => string_calls k0 n0 s0 S true W hW hs)
  have SY := Lib.hid (fun W hW => string_calls k1 n1 s1 T false W hW ht)
  have E3 := Lib.hid (fun W hW => do_calls 11 k0 n0 s0 k1 n1 s1 ((S.size : Int) + (T.size : Int)) (0) (0) (⟨#[]⟩) (18) W hW d3)
  have E4 := Lib.hid (fun W hW => do_calls 11 k0 n0 s0 k1 n1 s1 ((S.size : Int) + (T.size : Int) - 1) (0) (0) (⟨#[]⟩) (18) W hW d4)
  have ON := Lib.hid (fun W hW => one_calls 23 3 0 S 2 (S.size : Int) ⟨#[]⟩ 0 W hW o1)
  clear hT hg hx hy d1 d2 hs ht d3 d4 o1
  go_enter Tryd.func10, Tryd.ntmps10
  go_upto_region 15 with (first | (go_at_call 43; go_loud (with_reducible refine (AL.out _ (T0.out.on D0.out.bel)).mono ?_; rintro e wn1 ⟨rfl, hb⟩; have D1 := Lib.hid ((D0.out).on hb); clear hb; have u0 := (D1.out.blk _ (List.mem_cons_self)).2.cell 0 _ rfl; have uz0 := (D1.out.blk _ (List.mem_cons_self)).2.frozen 0; have u1 := (D1.out.blk _ (List.mem_cons_self)).2.cell 1 _ rfl; have uz1 := (D1.out.blk _ (List.mem_cons_self)).2.frozen 1; have u2 := (D1.out.blk _ (List.mem_cons_self)).2.cell 2 _ rfl; have uz2 := (D1.out.blk _ (List.mem_cons_self)).2.frozen 2; have ult := (D1.out).bl (List.mem_cons_self); have q0 := (D1.out.blk _ (List.mem_cons_of_mem _ (List.mem_cons_self))).2.cell 0 _ rfl; have qz0 := (D1.out.blk _ (List.mem_cons_of_mem _ (List.mem_cons_self))).2.frozen 0; have q1 := (D1.out.blk _ (List.mem_cons_of_mem _ (List.mem_cons_self))).2.cell 1 _ rfl; have qz1 := (D1.out.blk _ (List.mem_cons_of_mem _ (List.mem_cons_self))).2.frozen 1; have q2 := (D1.out.blk _ (List.mem_cons_of_mem _ (List.mem_cons_self))).2.cell 2 _ rfl; have qz2 := (D1.out.blk _ (List.mem_cons_of_mem _ (List.mem_cons_self))).2.frozen 2; have qlt := (D1.out).bl (List.mem_cons_of_mem _ (List.mem_cons_self)))) | (go_at_call 44; go_loud (with_reducible refine (GR.out _ _ (Blk.new _ [.int .i64 k0, .int .i64 n0, .string s0, .int .i64 k1, .int .i64 n1, .string s1] 32)).mono ?_; rintro e wn2 ⟨rfl, hb⟩; have D2 := Lib.hid ((D1.out.new 32 [.int .i64 k0, .int .i64 n0, .string s0, .int .i64 k1, .int .i64 n1, .string s1]).on hb); clear hb; have u0 := (D2.out.blk _ (List.mem_cons_of_mem _ (List.mem_cons_self))).2.cell 0 _ rfl; have uz0 := (D2.out.blk _ (List.mem_cons_of_mem _ (List.mem_cons_self))).2.frozen 0; have u1 := (D2.out.blk _ (List.mem_cons_of_mem _ (List.mem_cons_self))).2.cell 1 _ rfl; have uz1 := (D2.out.blk _ (List.mem_cons_of_mem _ (List.mem_cons_self))).2.frozen 1; have u2 := (D2.out.blk _ (List.mem_cons_of_mem _ (List.mem_cons_self))).2.cell 2 _ rfl; have uz2 := (D2.out.blk _ (List.mem_cons_of_mem _ (List.mem_cons_self))).2.frozen 2; have ult := (D2.out).bl (List.mem_cons_of_mem _ (List.mem_cons_self)); have q0 := (D2.out.blk _ (List.mem_cons_of_mem _ (List.mem_cons_of_mem _ (List.mem_cons_self)))).2.cell 0 _ rfl; have qz0 := (D2.out.blk _ (List.mem_cons_of_mem _ (List.mem_cons_of_mem _ (List.mem_cons_self)))).2.frozen 0; have q1 := (D2.out.blk _ (List.mem_cons_of_mem _ (List.mem_cons_of_mem _ (List.mem_cons_self)))).2.cell 1 _ rfl; have qz1 := (D2.out.blk _ (List.mem_cons_of_mem _ (List.mem_cons_of_mem _ (List.mem_cons_self)))).2.frozen 1; have q2 := (D2.out.blk _ (List.mem_cons_of_mem _ (List.mem_cons_of_mem _ (List.mem_cons_self)))).2.cell 2 _ rfl; have qz2 := (D2.out.blk _ (List.mem_cons_of_mem _ (List.mem_cons_of_mem _ (List.mem_cons_self)))).2.frozen 2; have qlt := (D2.out).bl (List.mem_cons_of_mem _ (List.mem_cons_of_mem _ (List.mem_cons_self))))) | (go_at_call 52; go_loud (with_reducible refine (NX.out _ (T0.out.on (D2.out).bel)).mono ?_; rintro e wn3 ⟨rfl, hb⟩; have D3 := Lib.hid ((D2.out).on hb); clear hb; have u0 := (D3.out.blk _ (List.mem_cons_of_mem _ (List.mem_cons_self))).2.cell 0 _ rfl; have uz0 := (D3.out.blk _ (List.mem_cons_of_mem _ (List.mem_cons_self))).2.frozen 0; have u1 := (D3.out.blk _ (List.mem_cons_of_mem _ (List.mem_cons_self))).2.cell 1 _ rfl; have uz1 := (D3.out.blk _ (List.mem_cons_of_mem _ (List.mem_cons_self))).2.frozen 1; have u2 := (D3.out.blk _ (List.mem_cons_of_mem _ (List.mem_cons_self))).2.cell 2 _ rfl; have uz2 := (D3.out.blk _ (List.mem_cons_of_mem _ (List.mem_cons_self))).2.frozen 2; have ult := (D3.out).bl (List.mem_cons_of_mem _ (List.mem_cons_self)); have q0 := (D3.out.blk _ (List.mem_cons_of_mem _ (List.mem_cons_of_mem _ (List.mem_cons_self)))).2.cell 0 _ rfl; have qz0 := (D3.out.blk _ (List.mem_cons_of_mem _ (List.mem_cons_of_mem _ (List.mem_cons_self)))).2.frozen 0; have q1 := (D3.out.blk _ (List.mem_cons_of_mem _ (List.mem_cons_of_mem _ (List.mem_cons_self)))).2.cell 1 _ rfl; have qz1 := (D3.out.blk _ (List.mem_cons_of_mem _ (List.mem_cons_of_mem _ (List.mem_cons_self)))).2.frozen 1; have q2 := (D3.out.blk _ (List.mem_cons_of_mem _ (List.mem_cons_of_mem _ (List.mem_cons_self)))).2.cell 2 _ rfl; have qz2 := (D3.out.blk _ (List.mem_cons_of_mem _ (List.mem_cons_of_mem _ (List.mem_cons_self)))).2.frozen 2; have qlt := (D3.out).bl (List.mem_cons_of_mem _ (List.mem_cons_of_mem _ (List.mem_cons_self))))) | (go_at_call 52; go_loud (with_reducible refine (NY.out _ (T0.out.on (D3.out).bel)).mono ?_; rintro e wn4 ⟨rfl, hb⟩; have D4 := Lib.hid ((D3.out).on hb); clear hb; have u0 := (D4.out.blk _ (List.mem_cons_of_mem _ (List.mem_cons_self))).2.cell 0 _ rfl; have uz0 := (D4.out.blk _ (List.mem_cons_of_mem _ (List.mem_cons_self))).2.frozen 0; have u1 := (D4.out.blk _ (List.mem_cons_of_mem _ (List.mem_cons_self))).2.cell 1 _ rfl; have uz1 := (D4.out.blk _ (List.mem_cons_of_mem _ (List.mem_cons_self))).2.frozen 1; have u2 := (D4.out.blk _ (List.mem_cons_of_mem _ (List.mem_cons_self))).2.cell 2 _ rfl; have uz2 := (D4.out.blk _ (List.mem_cons_of_mem _ (List.mem_cons_self))).2.frozen 2; have ult := (D4.out).bl (List.mem_cons_of_mem _ (List.mem_cons_self)); have q0 := (D4.out.blk _ (List.mem_cons_of_mem _ (List.mem_cons_of_mem _ (List.mem_cons_self)))).2.cell 0 _ rfl; have qz0 := (D4.out.blk _ (List.mem_cons_of_mem _ (List.mem_cons_of_mem _ (List.mem_cons_self)))).2.frozen 0; have q1 := (D4.out.blk _ (List.mem_cons_of_mem _ (List.mem_cons_of_mem _ (List.mem_cons_self)))).2.cell 1 _ rfl; have qz1 := (D4.out.blk _ (List.mem_cons_of_mem _ (List.mem_cons_of_mem _ (List.mem_cons_self)))).2.frozen 1; have q2 := (D4.out.blk _ (List.mem_cons_of_mem _ (List.mem_cons_of_mem _ (List.mem_cons_self)))).2.cell 2 _ rfl; have qz2 := (D4.out.blk _ (List.mem_cons_of_mem _ (List.mem_cons_of_mem _ (List.mem_cons_self)))).2.frozen 2; have qlt := (D4.out).bl (List.mem_cons_of_mem _ (List.mem_cons_of_mem _ (List.mem_cons_self))))) | (go_at_call 46; go_loud (with_reducible refine (E1.out _ (T0.out.on (D4.out).bel)).mono ?_; rintro e wn5 ⟨rfl, hb⟩; have D5 := Lib.hid ((D4.out).on hb); clear hb)) | (go_at_call 53; go_loud (with_reducible refine (hInt x _).mono ?_; rintro e wn6 ⟨rfl, hb⟩; have D6 := Lib.hid ((D5.out.new 32 [.int .i64 0, .int .i64 0, .string ⟨#[]⟩]).on hb); clear hb)) | (go_at_call 53; go_loud (with_reducible refine (hInt y _).mono ?_; rintro e wn7 ⟨rfl, hb⟩; have D7 := Lib.hid ((D6.out).on hb); clear hb)) | (go_at_call 46; go_loud (with_reducible refine (E2.out _ (T0.out.on (D7.out).bel)).mono ?_; rintro e wn8 ⟨rfl, hb⟩; have D8 := Lib.hid ((D7.out).on hb); clear hb; have r0 := (D8.out.blk _ (List.mem_cons_self)).2.cell 0 _ rfl; have rz0 := (D8.out.blk _ (List.mem_cons_self)).2.frozen 0; have r1 := (D8.out.blk _ (List.mem_cons_self)).2.cell 1 _ rfl; have rz1 := (D8.out.blk _ (List.mem_cons_self)).2.frozen 1; have r2 := (D8.out.blk _ (List.mem_cons_self)).2.cell 2 _ rfl; have rz2 := (D8.out.blk _ (List.mem_cons_self)).2.frozen 2; have rlt := (D8.out).bl (List.mem_cons_self); have u0 := (D8.out.blk _ (List.mem_cons_of_mem _ (List.mem_cons_of_mem _ (List.mem_cons_self)))).2.cell 0 _ rfl; have uz0 := (D8.out.blk _ (List.mem_cons_of_mem _ (List.mem_cons_of_mem _ (List.mem_cons_self)))).2.frozen 0; have u1 := (D8.out.blk _ (List.mem_cons_of_mem _ (List.mem_cons_of_mem _ (List.mem_cons_self)))).2.cell 1 _ rfl; have uz1 := (D8.out.blk _ (List.mem_cons_of_mem _ (List.mem_cons_of_mem _ (List.mem_cons_self)))).2.frozen 1; have u2 := (D8.out.blk _ (List.mem_cons_of_mem _ (List.mem_cons_of_mem _ (List.mem_cons_self)))).2.cell 2 _ rfl; have uz2 := (D8.out.blk _ (List.mem_cons_of_mem _ (List.mem_cons_of_mem _ (List.mem_cons_self)))).2.frozen 2; have ult := (D8.out).bl (List.mem_cons_of_mem _ (List.mem_cons_of_mem _ (List.mem_cons_self))); have q0 := (D8.out.blk _ (List.mem_cons_of_mem _ (List.mem_cons_of_mem _ (List.mem_cons_of_mem _ (List.mem_cons_self))))).2.cell 0 _ rfl; have qz0 := (D8.out.blk _ (List.mem_cons_of_mem _ (List.mem_cons_of_mem _ (List.mem_cons_of_mem _ (List.mem_cons_self))))).2.frozen 0; have q1 := (D8.out.blk _ (List.mem_cons_of_mem _ (List.mem_cons_of_mem _ (List.mem_cons_of_mem _ (List.mem_cons_self))))).2.cell 1 _ rfl; have qz1 := (D8.out.blk _ (List.mem_cons_of_mem _ (List.mem_cons_of_mem _ (List.mem_cons_of_mem _ (List.mem_cons_self))))).2.frozen 1; have q2 := (D8.out.blk _ (List.mem_cons_of_mem _ (List.mem_cons_of_mem _ (List.mem_cons_of_mem _ (List.mem_cons_self))))).2.cell 2 _ rfl; have qz2 := (D8.out.blk _ (List.mem_cons_of_mem _ (List.mem_cons_of_mem _ (List.mem_cons_of_mem _ (List.mem_cons_self))))).2.frozen 2; have qlt := (D8.out).bl (List.mem_cons_of_mem _ (List.mem_cons_of_mem _ (List.mem_cons_of_mem _ (List.mem_cons_self)))))) | (go_at_call 54; go_loud (with_reducible refine (SX.out _ (T0.out.on (D8.out.new 32 [.int .i64 y1, .int .i64 y2, .string y3]).bel)).mono ?_; rintro e wn9 ⟨rfl, hb⟩; have D9 := Lib.hid ((D8.out.new 32 [.int .i64 y1, .int .i64 y2, .string y3]).on hb); clear hb; have u0 := (D9.out.blk _ (List.mem_cons_of_mem _ (List.mem_cons_of_mem _ (List.mem_cons_of_mem _ (List.mem_cons_self))))).2.cell 0 _ rfl; have uz0 := (D9.out.blk _ (List.mem_cons_of_mem _ (List.mem_cons_of_mem _ (List.mem_cons_of_mem _ (List.mem_cons_self))))).2.frozen 0; have u1 := (D9.out.blk _ (List.mem_cons_of_mem _ (List.mem_cons_of_mem _ (List.mem_cons_of_mem _ (List.mem_cons_self))))).2.cell 1 _ rfl; have uz1 := (D9.out.blk _ (List.mem_cons_of_mem _ (List.mem_cons_of_mem _ (List.mem_cons_of_mem _ (List.mem_cons_self))))).2.frozen 1; have u2 := (D9.out.blk _ (List.mem_cons_of_mem _ (List.mem_cons_of_mem _ (List.mem_cons_of_mem _ (List.mem_cons_self))))).2.cell 2 _ rfl; have uz2 := (D9.out.blk _ (List.mem_cons_of_mem _ (List.mem_cons_of_mem _ (List.mem_cons_of_mem _ (List.mem_cons_self))))).2.frozen 2; have ult := (D9.out).bl (List.mem_cons_of_mem _ (List.mem_cons_of_mem _ (List.mem_cons_of_mem _ (List.mem_cons_self)))); have q0 := (D9.out.blk _ (List.mem_cons_of_mem _ (List.mem_cons_of_mem _ (List.mem_cons_of_mem _ (List.mem_cons_of_mem _ (List.mem_cons_self)))))).2.cell 0 _ rfl; have qz0 := (D9.out.blk _ (List.mem_cons_of_mem _ (List.mem_cons_of_mem _ (List.mem_cons_of_mem _ (List.mem_cons_of_mem _ (List.mem_cons_self)))))).2.frozen 0; have q1 := (D9.out.blk _ (List.mem_cons_of_mem _ (List.mem_cons_of_mem _ (List.mem_cons_of_mem _ (List.mem_cons_of_mem _ (List.mem_cons_self)))))).2.cell 1 _ rfl; have qz1 := (D9.out.blk _ (List.mem_cons_of_mem _ (List.mem_cons_of_mem _ (List.mem_cons_of_mem _ (List.mem_cons_of_mem _ (List.mem_cons_self)))))).2.frozen 1; have q2 := (D9.out.blk _ (List.mem_cons_of_mem _ (List.mem_cons_of_mem _ (List.mem_cons_of_mem _ (List.mem_cons_of_mem _ (List.mem_cons_self)))))).2.cell 2 _ rfl; have qz2 := (D9.out.blk _ (List.mem_cons_of_mem _ (List.mem_cons_of_mem _ (List.mem_cons_of_mem _ (List.mem_cons_of_mem _ (List.mem_cons_self)))))).2.frozen 2; have qlt := (D9.out).bl (List.mem_cons_of_mem _ (List.mem_cons_of_mem _ (List.mem_cons_of_mem _ (List.mem_cons_of_mem _ (List.mem_cons_self))))))) | (go_at_call 54; go_loud (with_reducible refine (SY.out _ (T0.out.on (D9.out).bel)).mono ?_; rintro e wn10 ⟨rfl, hb⟩; have D10 := Lib.hid ((D9.out).on hb); clear hb; have u0 := (D10.out.blk _ (List.mem_cons_of_mem _ (List.mem_cons_of_mem _ (List.mem_cons_of_mem _ (List.mem_cons_self))))).2.cell 0 _ rfl; have uz0 := (D10.out.blk _ (List.mem_cons_of_mem _ (List.mem_cons_of_mem _ (List.mem_cons_of_mem _ (List.mem_cons_self))))).2.frozen 0; have u1 := (D10.out.blk _ (List.mem_cons_of_mem _ (List.mem_cons_of_mem _ (List.mem_cons_of_mem _ (List.mem_cons_self))))).2.cell 1 _ rfl; have uz1 := (D10.out.blk _ (List.mem_cons_of_mem _ (List.mem_cons_of_mem _ (List.mem_cons_of_mem _ (List.mem_cons_self))))).2.frozen 1; have u2 := (D10.out.blk _ (List.mem_cons_of_mem _ (List.mem_cons_of_mem _ (List.mem_cons_of_mem _ (List.mem_cons_self))))).2.cell 2 _ rfl; have uz2 := (D10.out.blk _ (List.mem_cons_of_mem _ (List.mem_cons_of_mem _ (List.mem_cons_of_mem _ (List.mem_cons_self))))).2.frozen 2; have ult := (D10.out).bl (List.mem_cons_of_mem _ (List.mem_cons_of_mem _ (List.mem_cons_of_mem _ (List.mem_cons_self)))); have q0 := (D10.out.blk _ (List.mem_cons_of_mem _ (List.mem_cons_of_mem _ (List.mem_cons_of_mem _ (List.mem_cons_of_mem _ (List.mem_cons_self)))))).2.cell 0 _ rfl; have qz0 := (D10.out.blk _ (List.mem_cons_of_mem _ (List.mem_cons_of_mem _ (List.mem_cons_of_mem _ (List.mem_cons_of_mem _ (List.mem_cons_self)))))).2.frozen 0; have q1 := (D10.out.blk _ (List.mem_cons_of_mem _ (List.mem_cons_of_mem _ (List.mem_cons_of_mem _ (List.mem_cons_of_mem _ (List.mem_cons_self)))))).2.cell 1 _ rfl; have qz1 := (D10.out.blk _ (List.mem_cons_of_mem _ (List.mem_cons_of_mem _ (List.mem_cons_of_mem _ (List.mem_cons_of_mem _ (List.mem_cons_self)))))).2.frozen 1; have q2 := (D10.out.blk _ (List.mem_cons_of_mem _ (List.mem_cons_of_mem _ (List.mem_cons_of_mem _ (List.mem_cons_of_mem _ (List.mem_cons_self)))))).2.cell 2 _ rfl; have qz2 := (D10.out.blk _ (List.mem_cons_of_mem _ (List.mem_cons_of_mem _ (List.mem_cons_of_mem _ (List.mem_cons_of_mem _ (List.mem_cons_self)))))).2.frozen 2; have qlt := (D10.out).bl (List.mem_cons_of_mem _ (List.mem_cons_of_mem _ (List.mem_cons_of_mem _ (List.mem_cons_of_mem _ (List.mem_cons_self))))))) | (go_at_call 46; go_loud (with_reducible refine (E3.out _ (T0.out.on (D10.out).bel)).mono ?_; rintro e wn11 ⟨rfl, hb⟩; have D11 := Lib.hid ((D10.out).on hb); clear hb)))
  have hu := Tryd.underlying32
  have D12 := Lib.hid (D11.out.new 32 [.int .i64 0, .int .i64 0, .string ⟨#[]⟩])
  obtain ⟨w1, hw1⟩ : ∃ z, z = wn11.alloc (.cells #[.int .i64 0, .int .i64 0, .string ⟨#[]⟩] 32) := ⟨_, rfl⟩
  obtain ⟨x20, hx20⟩ : ∃ z, z = wn11.heap.size := ⟨_, rfl⟩
  rw [← hw1] at D12
  rw [← hx20] at D12
  simp only [← hw1, ← hx20]
  clear hw1 hx20
  have hBB : Below w1.heap.size w1 ({ w1 with drawn := w1.drawn + 1 } : World) := ⟨rfl, rfl, rfl, Nat.le_refl _, fun _ _ => rfl⟩
  refine wp_region_held (S := Below w1.heap.size w1) (by kernel_rfl) ?_
  have hSB := hBB
  generalize ({ w1 with drawn := w1.drawn + 1 } : World) = wB at hSB hBB ⊢
  have hleB := D12.out.bel.size
  have hslB := hSB.size
  have caB0 : ∀ W, Below w1.heap.size w1 W → W.cell? ⟨x20, 0, none⟩ = some (.int .i64 0) := fun W hW => ((D12.out.on hW).blk _ (List.mem_cons_self)).2.cell 0 _ rfl
  have caB1 : ∀ W, Below w1.heap.size w1 W → W.cell? ⟨x20, 1, none⟩ = some (.int .i64 0) := fun W hW => ((D12.out.on hW).blk _ (List.mem_cons_self)).2.cell 1 _ rfl
  have caB2 : ∀ W, Below w1.heap.size w1 W → W.cell? ⟨x20, 2, none⟩ = some (.string ⟨#[]⟩) := fun W hW => ((D12.out.on hW).blk _ (List.mem_cons_self)).2.cell 2 _ rfl
  refine takeH 0 (oi := ⟨some 108, _, _, _, _, _⟩) (v := ?_) rfl (by kernel_rfl) (by kernel_rfl) (by kernel_rfl) (fun _ _ _ h => h) (Or.inl ⟨by rfl, ?hyB351⟩) hSB ?restB351
  case hyB351 => (intro W hW; (try dsimp only at hW); go_simp; try with_reducible rfl)
  try simp only [Act.put, List.setIfInBounds_toArray, List.set_cons_zero, List.set_cons_succ]
  refine takeH 1 (oi := ⟨some 109, _, _, _, _, _⟩) (v := ?_) rfl (by kernel_rfl) (by kernel_rfl) (by kernel_rfl) (fun _ _ _ h => h) (Or.inl ⟨by rfl, ?hyB352⟩) hSB ?restB352
  case hyB352 => (intro W hW; (try dsimp only at hW); go_simp; try with_reducible rfl)
  try simp only [Act.put, List.setIfInBounds_toArray, List.set_cons_zero, List.set_cons_succ]
  refine takeH 2 (oi := ⟨some 110, _, _, _, _, _⟩) (v := ?_) rfl (by kernel_rfl) (by kernel_rfl) (by kernel_rfl) (fun _ _ _ h => h) (Or.inl ⟨by rfl, ?hyB353⟩) hSB ?restB353
  case hyB353 => (intro W hW; (try dsimp only at hW); go_simp; try with_reducible rfl)
  try simp only [Act.put, List.setIfInBounds_toArray, List.set_cons_zero, List.set_cons_succ]
  refine takeH 3 (oi := ⟨some 111, _, _, _, _, _⟩) (v := ?_) rfl (by kernel_rfl) (by kernel_rfl) (by kernel_rfl) (fun _ _ _ h => h) (Or.inl ⟨by rfl, ?hyB354⟩) hSB ?restB354
  case hyB354 => (intro W hW; (try dsimp only at hW); go_simp; try with_reducible rfl)
  try simp only [Act.put, List.setIfInBounds_toArray, List.set_cons_zero, List.set_cons_succ]
  refine takeH 4 (oi := ⟨some 112, _, _, _, _, _⟩) (v := ?_) rfl (by kernel_rfl) (by kernel_rfl) (by kernel_rfl) (fun _ _ _ h => h) (Or.inl ⟨by rfl, ?hyB355⟩) hSB ?restB355
  case hyB355 => (intro W hW; (try dsimp only at hW); go_simp; try with_reducible rfl)
  try simp only [Act.put, List.setIfInBounds_toArray, List.set_cons_zero, List.set_cons_succ]
  refine takeH 5 (oi := ⟨some 113, _, _, _, _, _⟩) (v := ?_) rfl (by kernel_rfl) (by kernel_rfl) (by kernel_rfl) (fun _ _ _ h => h) (Or.inl ⟨by rfl, ?hyB356⟩) hSB ?restB356
  case hyB356 => (intro W hW; (try dsimp only at hW); go_simp; try with_reducible rfl)
  try simp only [Act.put, List.setIfInBounds_toArray, List.set_cons_zero, List.set_cons_succ]
  refine takeH 6 (oi := ⟨some 114, _, _, _, _, _⟩) (v := ?_) rfl (by kernel_rfl) (by kernel_rfl) (by kernel_rfl) (fun _ _ _ h => h) (Or.inl ⟨by rfl, ?hyB357⟩) hSB ?restB357
  case hyB357 => (intro W hW; (try dsimp only at hW); go_simp; try with_reducible rfl)
  try simp only [Act.put, List.setIfInBounds_toArray, List.set_cons_zero, List.set_cons_succ]
  refine takeH 7 (oi := ⟨some 115, _, _, _, _, _⟩) (v := ?_) rfl (by kernel_rfl) (by kernel_rfl) (by kernel_rfl) (fun _ _ _ h => h) (Or.inl ⟨by rfl, ?hyB358⟩) hSB ?restB358
  case hyB358 => (intro W hW; (try dsimp only at hW); go_simp; try with_reducible rfl)
  try simp only [Act.put, List.setIfInBounds_toArray, List.set_cons_zero, List.set_cons_succ]
  refine takeH 8 (oi := ⟨some 116, _, _, _, _, _⟩) (v := ?_) rfl (by kernel_rfl) (by kernel_rfl) (by kernel_rfl) (fun _ _ _ h => h) (Or.inl ⟨by rfl, ?hyB359⟩) hSB ?restB359
  case hyB359 => (intro W hW; (try dsimp only at hW); go_simp; try with_reducible rfl)
  try simp only [Act.put, List.setIfInBounds_toArray, List.set_cons_zero, List.set_cons_succ]
  refine takeH 9 (oi := ⟨some 117, _, _, _, _, _⟩) (v := ?_) rfl (by kernel_rfl) (by kernel_rfl) (by kernel_rfl) (fun _ _ _ h => h) (Or.inl ⟨by rfl, ?hyB360⟩) hSB ?restB360
  case hyB360 => (intro W hW; (try dsimp only at hW); go_simp; try with_reducible rfl)
  try simp only [Act.put, List.setIfInBounds_toArray, List.set_cons_zero, List.set_cons_succ]
  refine takeH 10 (oi := ⟨some 118, _, _, _, _, _⟩) (v := ?_) rfl (by kernel_rfl) (by kernel_rfl) (by kernel_rfl) (fun _ _ _ h => h) (Or.inl ⟨by rfl, ?hyB361⟩) hSB ?restB361
  case hyB361 => (intro W hW; (try dsimp only at hW); go_simp; try with_reducible rfl)
  try simp only [Act.put, List.setIfInBounds_toArray, List.set_cons_zero, List.set_cons_succ]
  refine takeH 11 (oi := ⟨some 119, _, _, _, _, _⟩) (v := ?_) rfl (by kernel_rfl) (by kernel_rfl) (by kernel_rfl) (fun _ _ _ h => h) (Or.inl ⟨by rfl, ?hyB362⟩) hSB ?restB362
  case hyB362 => (intro W hW; (try dsimp only at hW); go_simp; try with_reducible rfl)
  try simp only [Act.put, List.setIfInBounds_toArray, List.set_cons_zero, List.set_cons_succ]
  refine takeH 12 (oi := ⟨some 120, _, _, _, _, _⟩) (v := ?_) rfl (by kernel_rfl) (by kernel_rfl) (by kernel_rfl) (fun _ _ _ h => h) (Or.inl ⟨by rfl, ?hyB363⟩) hSB ?restB363
  case hyB363 => (intro W hW; (try dsimp only at hW); go_simp; try with_reducible rfl)
  try simp only [Act.put, List.setIfInBounds_toArray, List.set_cons_zero, List.set_cons_succ]
  refine takeH 13 (oi := ⟨some 121, _, _, _, _, _⟩) (v := undef) rfl (by kernel_rfl) (by kernel_rfl) (by kernel_rfl) (fun _ _ _ h => h) (Or.inr ⟨by rfl, rfl⟩) hSB ?restB364
  try simp only [Act.put, List.setIfInBounds_toArray, List.set_cons_zero, List.set_cons_succ]
  refine takeH 14 (oi := ⟨some 122, _, _, _, _, _⟩) (v := undef) rfl (by kernel_rfl) (by kernel_rfl) (by kernel_rfl) (fun _ _ _ h => h) (Or.inr ⟨by rfl, rfl⟩) hSB ?restB365
  try simp only [Act.put, List.setIfInBounds_toArray, List.set_cons_zero, List.set_cons_succ]
  refine takeH 15 (oi := ⟨some 123, _, _, _, _, _⟩) (v := undef) rfl (by kernel_rfl) (by kernel_rfl) (by kernel_rfl) (fun _ _ _ h => h) (Or.inr ⟨by rfl, rfl⟩) hSB ?restB366
  try simp only [Act.put, List.setIfInBounds_toArray, List.set_cons_zero, List.set_cons_succ]
  refine takeH 16 (oi := ⟨some 124, _, _, _, _, _⟩) (v := undef) rfl (by kernel_rfl) (by kernel_rfl) (by kernel_rfl) (fun _ _ _ h => h) (Or.inr ⟨by rfl, rfl⟩) hSB ?restB367
  try simp only [Act.put, List.setIfInBounds_toArray, List.set_cons_zero, List.set_cons_succ]
  refine takeH 17 (oi := ⟨some 125, _, _, _, _, _⟩) (v := undef) rfl (by kernel_rfl) (by kernel_rfl) (by kernel_rfl) (fun _ _ _ h => h) (Or.inr ⟨by rfl, rfl⟩) hSB ?restB368
  try simp only [Act.put, List.setIfInBounds_toArray, List.set_cons_zero, List.set_cons_succ]
  refine takeH 18 (oi := ⟨some 126, _, _, _, _, _⟩) (v := undef) rfl (by kernel_rfl) (by kernel_rfl) (by kernel_rfl) (fun _ _ _ h => h) (Or.inr ⟨by rfl, rfl⟩) hSB ?restB369
  try simp only [Act.put, List.setIfInBounds_toArray, List.set_cons_zero, List.set_cons_succ]
  refine takeH 19 (oi := ⟨some 127, _, _, _, _, _⟩) (v := ?_) rfl (by kernel_rfl) (by kernel_rfl) (by kernel_rfl) (fun _ _ _ h => h) (Or.inl ⟨by rfl, ?hyB370⟩) hSB ?restB370
  case hyB370 => (intro W hW; (try dsimp only at hW); go_simp; try with_reducible rfl)
  try simp only [Act.put, List.setIfInBounds_toArray, List.set_cons_zero, List.set_cons_succ]
  refine takeH 20 (oi := ⟨some 128, _, _, _, _, _⟩) (v := ?_) rfl (by kernel_rfl) (by kernel_rfl) (by kernel_rfl) (fun _ _ _ h => h) (Or.inl ⟨by rfl, ?hyB371⟩) hSB ?restB371
  case hyB371 => (intro W hW; (try dsimp only at hW); go_simp; try with_reducible rfl)
  try simp only [Act.put, List.setIfInBounds_toArray, List.set_cons_zero, List.set_cons_succ]
  refine wpAnyH_done (by kernel_rfl) ?_ _
  clear caB0 caB1 caB2
  have D13 := Lib.hid (D12.out.on hSB)
  generalize wB = W4 at D13 ⊢
  have u0 := (D13.out.blk _ (List.mem_cons_of_mem _ (List.mem_cons_of_mem _ (List.mem_cons_of_mem _ (List.mem_cons_of_mem _ (List.mem_cons_self)))))).2.cell 0 _ rfl; have uz0 := (D13.out.blk _ (List.mem_cons_of_mem _ (List.mem_cons_of_mem _ (List.mem_cons_of_mem _ (List.mem_cons_of_mem _ (List.mem_cons_self)))))).2.frozen 0; have u1 := (D13.out.blk _ (List.mem_cons_of_mem _ (List.mem_cons_of_mem _ (List.mem_cons_of_mem _ (List.mem_cons_of_mem _ (List.mem_cons_self)))))).2.cell 1 _ rfl; have uz1 := (D13.out.blk _ (List.mem_cons_of_mem _ (List.mem_cons_of_mem _ (List.mem_cons_of_mem _ (List.mem_cons_of_mem _ (List.mem_cons_self)))))).2.frozen 1; have u2 := (D13.out.blk _ (List.mem_cons_of_mem _ (List.mem_cons_of_mem _ (List.mem_cons_of_mem _ (List.mem_cons_of_mem _ (List.mem_cons_self)))))).2.cell 2 _ rfl; have uz2 := (D13.out.blk _ (List.mem_cons_of_mem _ (List.mem_cons_of_mem _ (List.mem_cons_of_mem _ (List.mem_cons_of_mem _ (List.mem_cons_self)))))).2.frozen 2; have ult := (D13.out).bl (List.mem_cons_of_mem _ (List.mem_cons_of_mem _ (List.mem_cons_of_mem _ (List.mem_cons_of_mem _ (List.mem_cons_self))))); have q0 := (D13.out.blk _ (List.mem_cons_of_mem _ (List.mem_cons_of_mem _ (List.mem_cons_of_mem _ (List.mem_cons_of_mem _ (List.mem_cons_of_mem _ (List.mem_cons_self))))))).2.cell 0 _ rfl; have qz0 := (D13.out.blk _ (List.mem_cons_of_mem _ (List.mem_cons_of_mem _ (List.mem_cons_of_mem _ (List.mem_cons_of_mem _ (List.mem_cons_of_mem _ (List.mem_cons_self))))))).2.frozen 0; have q1 := (D13.out.blk _ (List.mem_cons_of_mem _ (List.mem_cons_of_mem _ (List.mem_cons_of_mem _ (List.mem_cons_of_mem _ (List.mem_cons_of_mem _ (List.mem_cons_self))))))).2.cell 1 _ rfl; have qz1 := (D13.out.blk _ (List.mem_cons_of_mem _ (List.mem_cons_of_mem _ (List.mem_cons_of_mem _ (List.mem_cons_of_mem _ (List.mem_cons_of_mem _ (List.mem_cons_self))))))).2.frozen 1; have q2 := (D13.out.blk _ (List.mem_cons_of_mem _ (List.mem_cons_of_mem _ (List.mem_cons_of_mem _ (List.mem_cons_of_mem _ (List.mem_cons_of_mem _ (List.mem_cons_self))))))).2.cell 2 _ rfl; have qz2 := (D13.out.blk _ (List.mem_cons_of_mem _ (List.mem_cons_of_mem _ (List.mem_cons_of_mem _ (List.mem_cons_of_mem _ (List.mem_cons_of_mem _ (List.mem_cons_self))))))).2.frozen 2; have qlt := (D13.out).bl (List.mem_cons_of_mem _ (List.mem_cons_of_mem _ (List.mem_cons_of_mem _ (List.mem_cons_of_mem _ (List.mem_cons_of_mem _ (List.mem_cons_self))))))
  go_upto_region 19 with (first | (go_at_call 46; go_loud (with_reducible refine (E4.out _ (T0.out.on (D13.out).bel)).mono ?_; rintro e wn14 ⟨rfl, hb⟩; have D14 := Lib.hid ((D13.out).on hb); clear hb)) | (go_at_call 55; go_loud (with_reducible refine (hStr _ _).mono ?_; rintro e wn15 ⟨rfl, hb⟩; have D15 := Lib.hid ((D14.out.new 32 [.int .i64 0, .int .i64 0, .string ⟨#[]⟩]).on hb); clear hb)) | (go_at_call 56; go_loud (with_reducible refine (ON.out _ (T0.out.on (D15.out).bel)).mono ?_; rintro e wn16 ⟨rfl, hb⟩; have D16 := Lib.hid ((D15.out).on hb); clear hb)))
  have D17 := Lib.hid (D16.out.new 32 [.int .i64 2, .int .i64 (S.size : Int), .string ⟨#[]⟩])
  obtain ⟨w5, hw5⟩ : ∃ z, z = wn16.alloc (.cells #[.int .i64 2, .int .i64 (S.size : Int), .string ⟨#[]⟩] 32) := ⟨_, rfl⟩
  obtain ⟨x24, hx24⟩ : ∃ z, z = wn16.heap.size := ⟨_, rfl⟩
  rw [← hw5] at D17
  rw [← hx24] at D17
  simp only [← hw5, ← hx24]
  clear hw5 hx24
  have hBE : Below w5.heap.size w5 ({ w5 with drawn := w5.drawn + 1 } : World) := ⟨rfl, rfl, rfl, Nat.le_refl _, fun _ _ => rfl⟩
  refine wp_region_held (S := Below w5.heap.size w5) (by kernel_rfl) ?_
  have hSE := hBE
  generalize ({ w5 with drawn := w5.drawn + 1 } : World) = wE at hSE hBE ⊢
  have hleE := D17.out.bel.size
  have hslE := hSE.size
  have naE0 : ∀ W, Below w5.heap.size w5 W → W.cell? ⟨x24, 0, none⟩ = some (.int .i64 2) := fun W hW => ((D17.out.on hW).blk _ (List.mem_cons_self)).2.cell 0 _ rfl
  have naE1 : ∀ W, Below w5.heap.size w5 W → W.cell? ⟨x24, 1, none⟩ = some (.int .i64 (S.size : Int)) := fun W hW => ((D17.out.on hW).blk _ (List.mem_cons_self)).2.cell 1 _ rfl
  have naE2 : ∀ W, Below w5.heap.size w5 W → W.cell? ⟨x24, 2, none⟩ = some (.string ⟨#[]⟩) := fun W hW => ((D17.out.on hW).blk _ (List.mem_cons_self)).2.cell 2 _ rfl
  refine takeH 0 (oi := ⟨some 147, _, _, _, _, _⟩) (v := ?_) rfl (by kernel_rfl) (by kernel_rfl) (by kernel_rfl) (fun _ _ _ h => h) (Or.inl ⟨by rfl, ?hyE372⟩) hSE ?restE372
  case hyE372 => (intro W hW; (try dsimp only at hW); go_simp; try with_reducible rfl)
  try simp only [Act.put, List.setIfInBounds_toArray, List.set_cons_zero, List.set_cons_succ]
  refine takeH 1 (oi := ⟨some 148, _, _, _, _, _⟩) (v := ?_) rfl (by kernel_rfl) (by kernel_rfl) (by kernel_rfl) (fun _ _ _ h => h) (Or.inl ⟨by rfl, ?hyE373⟩) hSE ?restE373
  case hyE373 => (intro W hW; (try dsimp only at hW); go_simp; try with_reducible rfl)
  try simp only [Act.put, List.setIfInBounds_toArray, List.set_cons_zero, List.set_cons_succ]
  refine takeH 2 (oi := ⟨some 149, _, _, _, _, _⟩) (v := ?_) rfl (by kernel_rfl) (by kernel_rfl) (by kernel_rfl) (fun _ _ _ h => h) (Or.inl ⟨by rfl, ?hyE374⟩) hSE ?restE374
  case hyE374 => (intro W hW; (try dsimp only at hW); go_simp; try with_reducible rfl)
  try simp only [Act.put, List.setIfInBounds_toArray, List.set_cons_zero, List.set_cons_succ]
  refine takeH 3 (oi := ⟨some 150, _, _, _, _, _⟩) (v := ?_) rfl (by kernel_rfl) (by kernel_rfl) (by kernel_rfl) (fun _ _ _ h => h) (Or.inl ⟨by rfl, ?hyE375⟩) hSE ?restE375
  case hyE375 => (intro W hW; (try dsimp only at hW); go_simp; try with_reducible rfl)
  try simp only [Act.put, List.setIfInBounds_toArray, List.set_cons_zero, List.set_cons_succ]
  refine takeH 4 (oi := ⟨some 151, _, _, _, _, _⟩) (v := ?_) rfl (by kernel_rfl) (by kernel_rfl) (by kernel_rfl) (fun _ _ _ h => h) (Or.inl ⟨by rfl, ?hyE376⟩) hSE ?restE376
  case hyE376 => (intro W hW; (try dsimp only at hW); go_simp; try with_reducible rfl)
  try simp only [Act.put, List.setIfInBounds_toArray, List.set_cons_zero, List.set_cons_succ]
  refine takeH 5 (oi := ⟨some 152, _, _, _, _, _⟩) (v := ?_) rfl (by kernel_rfl) (by kernel_rfl) (by kernel_rfl) (fun _ _ _ h => h) (Or.inl ⟨by rfl, ?hyE377⟩) hSE ?restE377
  case hyE377 => (intro W hW; (try dsimp only at hW); go_simp; try with_reducible rfl)
  try simp only [Act.put, List.setIfInBounds_toArray, List.set_cons_zero, List.set_cons_succ]
  refine takeH 6 (oi := ⟨some 153, _, _, _, _, _⟩) (v := undef) rfl (by kernel_rfl) (by kernel_rfl) (by kernel_rfl) (fun _ _ _ h => h) (Or.inr ⟨by rfl, rfl⟩) hSE ?restE378
  try simp only [Act.put, List.setIfInBounds_toArray, List.set_cons_zero, List.set_cons_succ]
  refine takeH 7 (oi := ⟨some 154, _, _, _, _, _⟩) (v := undef) rfl (by kernel_rfl) (by kernel_rfl) (by kernel_rfl) (fun _ _ _ h => h) (Or.inr ⟨by rfl, rfl⟩) hSE ?restE379
  try simp only [Act.put, List.setIfInBounds_toArray, List.set_cons_zero, List.set_cons_succ]
  refine takeH 8 (oi := ⟨some 155, _, _, _, _, _⟩) (v := undef) rfl (by kernel_rfl) (by kernel_rfl) (by kernel_rfl) (fun _ _ _ h => h) (Or.inr ⟨by rfl, rfl⟩) hSE ?restE380
  try simp only [Act.put, List.setIfInBounds_toArray, List.set_cons_zero, List.set_cons_succ]
  refine takeH 9 (oi := ⟨some 156, _, _, _, _, _⟩) (v := undef) rfl (by kernel_rfl) (by kernel_rfl) (by kernel_rfl) (fun _ _ _ h => h) (Or.inr ⟨by rfl, rfl⟩) hSE ?restE381
  try simp only [Act.put, List.setIfInBounds_toArray, List.set_cons_zero, List.set_cons_succ]
  refine takeH 10 (oi := ⟨some 157, _, _, _, _, _⟩) (v := undef) rfl (by kernel_rfl) (by kernel_rfl) (by kernel_rfl) (fun _ _ _ h => h) (Or.inr ⟨by rfl, rfl⟩) hSE ?restE382
  try simp only [Act.put, List.setIfInBounds_toArray, List.set_cons_zero, List.set_cons_succ]
  refine takeH 11 (oi := ⟨some 158, _, _, _, _, _⟩) (v := undef) rfl (by kernel_rfl) (by kernel_rfl) (by kernel_rfl) (fun _ _ _ h => h) (Or.inr ⟨by rfl, rfl⟩) hSE ?restE383
  try simp only [Act.put, List.setIfInBounds_toArray, List.set_cons_zero, List.set_cons_succ]
  refine takeH 12 (oi := ⟨some 159, _, _, _, _, _⟩) (v := ?_) rfl (by kernel_rfl) (by kernel_rfl) (by kernel_rfl) (fun _ _ _ h => h) (Or.inl ⟨by rfl, ?hyE384⟩) hSE ?restE384
  case hyE384 => (intro W hW; (try dsimp only at hW); go_simp; try with_reducible rfl)
  try simp only [Act.put, List.setIfInBounds_toArray, List.set_cons_zero, List.set_cons_succ]
  refine takeH 13 (oi := ⟨some 160, _, _, _, _, _⟩) (v := ?_) rfl (by kernel_rfl) (by kernel_rfl) (by kernel_rfl) (fun _ _ _ h => h) (Or.inl ⟨by rfl, ?hyE385⟩) hSE ?restE385
  case hyE385 => (intro W hW; (try dsimp only at hW); go_simp; try with_reducible rfl)
  try simp only [Act.put, List.setIfInBounds_toArray, List.set_cons_zero, List.set_cons_succ]
  refine takeH 14 (oi := ⟨some 161, _, _, _, _, _⟩) (v := undef) rfl (by kernel_rfl) (by kernel_rfl) (by kernel_rfl) (fun _ _ _ h => h) (Or.inr ⟨by rfl, rfl⟩) hSE ?restE386
  try simp only [Act.put, List.setIfInBounds_toArray, List.set_cons_zero, List.set_cons_succ]
  refine takeH 15 (oi := ⟨some 162, _, _, _, _, _⟩) (v := undef) rfl (by kernel_rfl) (by kernel_rfl) (by kernel_rfl) (fun _ _ _ h => h) (Or.inr ⟨by rfl, rfl⟩) hSE ?restE387
  try simp only [Act.put, List.setIfInBounds_toArray, List.set_cons_zero, List.set_cons_succ]
  refine takeH 16 (oi := ⟨some 163, _, _, _, _, _⟩) (v := ?_) rfl (by kernel_rfl) (by kernel_rfl) (by kernel_rfl) (fun _ _ _ h => h) (Or.inl ⟨by rfl, ?hyE388⟩) hSE ?restE388
  case hyE388 => (intro W hW; (try dsimp only at hW); go_simp; try with_reducible rfl)
  try simp only [Act.put, List.setIfInBounds_toArray, List.set_cons_zero, List.set_cons_succ]
  refine takeH 17 (oi := ⟨some 164, _, _, _, _, _⟩) (v := ?_) rfl (by kernel_rfl) (by kernel_rfl) (by kernel_rfl) (fun _ _ _ h => h) (Or.inl ⟨by rfl, ?hyE389⟩) hSE ?restE389
  case hyE389 => (intro W hW; (try dsimp only at hW); go_simp; try with_reducible rfl)
  try simp only [Act.put, List.setIfInBounds_toArray, List.set_cons_zero, List.set_cons_succ]
  refine takeH 18 (oi := ⟨some 165, _, _, _, _, _⟩) (v := ?_) rfl (by kernel_rfl) (by kernel_rfl) (by kernel_rfl) (fun _ _ _ h => h) (Or.inl ⟨by rfl, ?hyE390⟩) hSE ?restE390
  case hyE390 => (intro W hW; (try dsimp only at hW); go_simp; try with_reducible rfl)
  try simp only [Act.put, List.setIfInBounds_toArray, List.set_cons_zero, List.set_cons_succ]
  refine takeH 19 (oi := ⟨some 166, _, _, _, _, _⟩) (v := ?_) rfl (by kernel_rfl) (by kernel_rfl) (by kernel_rfl) (fun _ _ _ h => h) (Or.inl ⟨by rfl, ?hyE391⟩) hSE ?restE391
  case hyE391 => (intro W hW; (try dsimp only at hW); go_simp; try with_reducible rfl)
  try simp only [Act.put, List.setIfInBounds_toArray, List.set_cons_zero, List.set_cons_succ]
  refine takeH 20 (oi := ⟨some 167, _, _, _, _, _⟩) (v := ?_) rfl (by kernel_rfl) (by kernel_rfl) (by kernel_rfl) (fun _ _ _ h => h) (Or.inl ⟨by rfl, ?hyE392⟩) hSE ?restE392
  case hyE392 => (intro W hW; (try dsimp only at hW); go_simp; try with_reducible rfl)
  try simp only [Act.put, List.setIfInBounds_toArray, List.set_cons_zero, List.set_cons_succ]
  refine takeH 21 (oi := ⟨some 168, _, _, _, _, _⟩) (v := ?_) rfl (by kernel_rfl) (by kernel_rfl) (by kernel_rfl) (fun _ _ _ h => h) (Or.inl ⟨by rfl, ?hyE393⟩) hSE ?restE393
  case hyE393 => (intro W hW; (try dsimp only at hW); go_simp; try with_reducible rfl)
  try simp only [Act.put, List.setIfInBounds_toArray, List.set_cons_zero, List.set_cons_succ]
  refine takeH 22 (oi := ⟨some 169, _, _, _, _, _⟩) (v := ?_) rfl (by kernel_rfl) (by kernel_rfl) (by kernel_rfl) (fun _ _ _ h => h) (Or.inl ⟨by rfl, ?hyE394⟩) hSE ?restE394
  case hyE394 => (intro W hW; (try dsimp only at hW); go_simp; try with_reducible rfl)
  try simp only [Act.put, List.setIfInBounds_toArray, List.set_cons_zero, List.set_cons_succ]
  refine takeH 23 (oi := ⟨some 170, _, _, _, _, _⟩) (v := ?_) rfl (by kernel_rfl) (by kernel_rfl) (by kernel_rfl) (fun _ _ _ h => h) (Or.inl ⟨by rfl, ?hyE395⟩) hSE ?restE395
  case hyE395 => (intro W hW; (try dsimp only at hW); go_simp; try with_reducible rfl)
  try simp only [Act.put, List.setIfInBounds_toArray, List.set_cons_zero, List.set_cons_succ]
  refine takeH 24 (oi := ⟨some 171, _, _, _, _, _⟩) (v := ?_) rfl (by kernel_rfl) (by kernel_rfl) (by kernel_rfl) (fun _ _ _ h => h) (Or.inl ⟨by rfl, ?hyE396⟩) hSE ?restE396
  case hyE396 => (intro W hW; (try dsimp only at hW); go_simp; try with_reducible rfl)
  try simp only [Act.put, List.setIfInBounds_toArray, List.set_cons_zero, List.set_cons_succ]
  refine one (i := 25) (by kernel_rfl) ?_
  refine wpOp_wanted rfl (by rfl) fun K hK => ?_
  go_simp
  with_reducible refine (hInt _ _).mono ?_
  rintro e wE397 ⟨rfl, hb⟩
  have SE397 : Below w5.heap.size w5 wE397 := hSE.trans (hb.mono hSE.size)
  clear hb
  refine hK _ _ ⟨SE397, ?_⟩
  clear hK K
  try simp only [Act.put, List.setIfInBounds_toArray, List.set_cons_zero, List.set_cons_succ]
  refine takeH 26 (oi := ⟨some 173, _, _, _, _, _⟩) (v := ?_) rfl (by kernel_rfl) (by kernel_rfl) (by kernel_rfl) (fun _ _ _ h => h) (Or.inl ⟨by rfl, ?hyE398⟩) SE397 ?restE398
  case hyE398 => (intro W hW; (try dsimp only at hW); go_simp; try with_reducible rfl)
  try simp only [Act.put, List.setIfInBounds_toArray, List.set_cons_zero, List.set_cons_succ]
  refine takeH 27 (oi := ⟨some 174, _, _, _, _, _⟩) (v := ?_) rfl (by kernel_rfl) (by kernel_rfl) (by kernel_rfl) (fun _ _ _ h => h) (Or.inl ⟨by rfl, ?hyE399⟩) SE397 ?restE399
  case hyE399 => (intro W hW; (try dsimp only at hW); go_simp; try with_reducible rfl)
  try simp only [Act.put, List.setIfInBounds_toArray, List.set_cons_zero, List.set_cons_succ]
  refine takeH 28 (oi := ⟨some 6, _, _, _, _, _⟩) (v := ?_) rfl (by kernel_rfl) (by kernel_rfl) (by kernel_rfl) (fun _ _ _ h => h) (Or.inl ⟨by rfl, ?hyE400⟩) SE397 ?restE400
  case hyE400 => (intro W hW; (try dsimp only at hW); go_simp; try with_reducible rfl)
  try simp only [Act.put, List.setIfInBounds_toArray, List.set_cons_zero, List.set_cons_succ]
  refine wpAnyH_done (by kernel_rfl) ?_ _
  clear naE0 naE1 naE2
  go_wp2_with fail
  go_ret
  exact ⟨rfl, (D17.out.on SE397).bel⟩
end Go.Proofs.YtpgpmldaggpciaaDoor.GW
