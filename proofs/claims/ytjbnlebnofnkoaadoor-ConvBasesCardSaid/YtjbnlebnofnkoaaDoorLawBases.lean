/- The plain law ConvBases. -/
import Derived.Test.YtjbnlebnofnkoaaDoorGiven03
import Derived.Test.YtjbnlebnofnkoaaDoorPBasesx
set_option linter.unusedVariables false
set_option linter.unusedSimpArgs false
namespace Go.Proofs.YtjbnlebnofnkoaaDoor.Bases
open Go.RowKit Go.Proofs.YtjbnlebnofnkoaaDoor.PBases Go.Proofs.YtjbnlebnofnkoaaDoorW.PrintWords Go.Proofs.YtjbnlebnofnkoaaDoorW.PrintLast Go.Proofs.YtjbnlebnofnkoaaDoorW.PrintMore Go.Proofs.YtjbnlebnofnkoaaDoor.Maths Go.Proofs.YtjbnlebnofnkoaaDoor.ConvP Go.Proofs.YtjbnlebnofnkoaaDoor.TabW
open Conv03 (trimL ltrim rtrim trimB baseT baseF GF)
theorem ltrim_id : ∀ l : List UInt8, (∀ c ∈ l, Conv03.blank c = false) → ltrim l = l
  | [], _ => rfl
  | c :: l, h => by unfold ltrim; rw [List.dropWhile_cons, if_neg (by rw [h c (by simp)]; decide)]
theorem trimL_id (l : List UInt8) (h : ∀ c ∈ l, Conv03.blank c = false) : trimL l = l := by
  unfold trimL
  have : rtrim l = l := by
    unfold rtrim
    have := ltrim_id l.reverse (fun c hc => h c (by simpa using hc))
    unfold ltrim at this; rw [this, List.reverse_reverse]
  rw [this, ltrim_id l h]
theorem trimB_id (s : ByteArray) (h : ∀ c ∈ s.data.toList, Conv03.blank c = false) : trimB s = s := by
  unfold trimB; rw [trimL_id _ h]
theorem dig_blank (c : UInt8) (b : Nat) (hb : b ≤ 36) (h : dig c < b) : Conv03.blank c = false := by
  unfold Conv03.blank; rw [decide_eq_false_iff_not]
  unfold dig at h
  by_cases h1 : 48 ≤ c.toNat ∧ c.toNat ≤ 57
  · omega
  · rw [if_neg h1] at h
    by_cases h2 : 97 ≤ c.toNat ∧ c.toNat ≤ 122
    · omega
    · rw [if_neg h2] at h
      by_cases h3 : 65 ≤ c.toNat ∧ c.toNat ≤ 90
      · omega
      · rw [if_neg h3] at h; omega
theorem okD_mem {b : Nat} {l : List UInt8} (h : okD b l = true) (c : UInt8) (hc : c ∈ l) : dig c < b := by
  unfold okD at h; have := List.all_eq_true.1 h c hc; simpa using this
theorem ahead_no {b : Nat} {s : ByteArray} (hb : b ≤ 36) (h : okD b s.data.toList = true) : Conv03.ahead 45 s = false := by
  unfold Conv03.ahead
  cases hl : s.data.toList with
  | nil => rfl
  | cons a l =>
    have := okD_mem h a (by rw [hl]; simp)
    have e : dig 45 = 99 := by decide
    have : ((45 : UInt8) == a) = false := beq_eq_false_iff_ne.2 (by rintro rfl; omega)
    rw [List.isPrefixOf_cons_cons, this]; rfl
theorem base_yes (s : ByteArray) (b n : Nat) (hb : 2 ≤ b ∧ b ≤ 36) (hn : n ≤ 9223372036854775807) (h : okD b s.data.toList = true) (hv : valD b s.data.toList = n) (h0 : s.data.toList ≠ []) (hs : s.size ≤ 1000) :
    baseF s (b : Int) = some ((n : Int), true) := by
  unfold baseF GF; rw [if_pos (by omega), trimB_id s (fun c hc => dig_blank c b hb.2 (okD_mem h c hc))]
  unfold baseT; rw [if_neg (by omega), ahead_no hb.2 h, if_neg (by decide), Int.toNat_natCast]
  unfold roundF; rw [if_pos h, hv, wrap64_in (by omega)]
  cases hl : s.data.toList with
  | nil => exact absurd hl h0
  | cons => rfl
theorem base_no (s : ByteArray) (b : Nat) (hb : 2 ≤ b ∧ b ≤ 36) (h : okD b s.data.toList = false) (hk : ∀ c ∈ s.data.toList, Conv03.blank c = false) (h1 : Conv03.ahead 45 s = false) (hs : s.size ≤ 1000) :
    ∃ r, baseF s (b : Int) = some (r, false) := by
  unfold baseF GF; rw [if_pos (by omega), trimB_id s hk]
  unfold baseT; rw [if_neg (by omega), h1, if_neg (by decide), Int.toNat_natCast]
  unfold roundF; rw [if_neg (by rw [h]; decide)]; exact ⟨_, rfl⟩
theorem app_list (x y : ByteArray) : (x ++ y).data.toList = x.data.toList ++ y.data.toList := by rw [ByteArray.data_append]; simp
theorem minus_list (s : ByteArray) : ((⟨#[45]⟩ : ByteArray) ++ s).data.toList = 45 :: s.data.toList := by rw [app_list]; rfl
theorem minus_ahead (s : ByteArray) : Conv03.ahead 45 ((⟨#[45]⟩ : ByteArray) ++ s) = true := by unfold Conv03.ahead; rw [minus_list]; simp
theorem minus_size (s : ByteArray) : ((⟨#[45]⟩ : ByteArray) ++ s).size = 1 + s.size := by rw [ByteArray.size_append]; rfl
theorem base_minus (s : ByteArray) (b n : Nat) (hb : 2 ≤ b ∧ b ≤ 36) (hn : n ≤ 9223372036854775807) (h : okD b s.data.toList = true) (hv : valD b s.data.toList = n) (h0 : s.data.toList ≠ []) (hs : s.size ≤ 999) :
    baseF ((⟨#[45]⟩ : ByteArray) ++ s) (b : Int) = some (-(n : Int), true) := by
  unfold baseF GF; rw [if_pos (by rw [minus_size]; omega), trimB_id _ (by
    intro c hc; rw [minus_list] at hc
    rcases List.mem_cons.1 hc with rfl | hc
    · decide
    · exact dig_blank c b hb.2 (okD_mem h c hc))]
  unfold baseT; rw [if_neg (by omega), minus_ahead, if_pos rfl, Int.toNat_natCast, minus_list]
  simp only [List.drop_one, List.tail_cons]
  unfold roundF; rw [if_pos h, hv, wrap64_in (show -9223372036854775808 ≤ (n : Int) ∧ (n : Int) ≤ 9223372036854775807 by omega), wrap64_in (by omega)]
  cases hl : s.data.toList with
  | nil => exact absurd hl h0
  | cons => rfl
theorem base_minus_no (s : ByteArray) (b : Nat) (hb : 2 ≤ b ∧ b ≤ 36) (h : okD b s.data.toList = false) (hk : ∀ c ∈ s.data.toList, Conv03.blank c = false) (hs : s.size ≤ 999) :
    ∃ r, baseF ((⟨#[45]⟩ : ByteArray) ++ s) (b : Int) = some (r, false) := by
  unfold baseF GF; rw [if_pos (by rw [minus_size]; omega), trimB_id _ (by
    intro c hc; rw [minus_list] at hc
    rcases List.mem_cons.1 hc with rfl | hc
    · decide
    · exact hk c hc)]
  unfold baseT; rw [if_neg (by omega), minus_ahead, if_pos rfl, Int.toNat_natCast, minus_list]
  simp only [List.drop_one, List.tail_cons]
  unfold roundF; rw [if_neg (by rw [h]; decide)]; exact ⟨_, rfl⟩
theorem app_assoc (x y z : ByteArray) : x ++ y ++ z = x ++ (y ++ z) := by apply WideShapes.bytes_inj; simp [app_list]
theorem slash_ok (b : Nat) (hb : b ≤ 36) (l : List UInt8) : okD b (l ++ [47]) = false := by
  unfold okD; rw [List.all_append]
  have : [(47 : UInt8)].all (fun c => decide (dig c < b)) = false := by
    have e : dig 47 = 99 := by decide
    simp [e]; omega
  rw [this, Bool.and_false]
def Ds (ds : ByteArray) : Prop := ds.size = 36 ∧ ∀ d : Nat, d < 36 → dig (ds.data.toList.getD d 0) = d
theorem ds_small : Ds ⟨#[48, 49, 50, 51, 52, 53, 54, 55, 56, 57, 97, 98, 99, 100, 101, 102, 103, 104, 105, 106, 107, 108, 109, 110, 111, 112, 113, 114, 115, 116, 117, 118, 119, 120, 121, 122]⟩ := ⟨rfl, by decide +kernel⟩
theorem ds_great : Ds ⟨#[48, 49, 50, 51, 52, 53, 54, 55, 56, 57, 65, 66, 67, 68, 69, 70, 71, 72, 73, 74, 75, 76, 77, 78, 79, 80, 81, 82, 83, 84, 85, 86, 87, 88, 89, 90]⟩ := ⟨rfl, by decide +kernel⟩
theorem one (ds : ByteArray) (h : Ds ds) (d : Nat) (hd : d < 36) : (ds.extract d (d + 1)).data.toList = [ds.data.toList.getD d 0] := by
  have hz := size_list ds
  have h1 := h.1
  rw [ext_list, List.drop_eq_getElem_cons (by omega)]
  have e : d + 1 - d = 1 := by omega
  rw [e, List.getD_eq_getElem?_getD, List.getElem?_eq_getElem (by omega)]; rfl
theorem fin (n b : Nat) (minus : Bool) (s : ByteArray) (hb : 2 ≤ b ∧ b ≤ 36) (hn : n ≤ 9223372036854775807) (h : okD b s.data.toList = true) (hv : valD b s.data.toList = n) (h0 : s.data.toList ≠ []) (hs : s.size ≤ 100) :
    (if minus = true then (if 1 + s.size ≤ 9223372036854775807 then ((conv_Base.f ((⟨#[45]⟩ : ByteArray) ++ s) (b : Int)).bind fun bt103 => (if ((⟨#[45]⟩ : ByteArray) ++ s).size + 1 ≤ 9223372036854775807 then ((conv_Base.f (((⟨#[45]⟩ : ByteArray) ++ s) ++ (⟨#[47]⟩ : ByteArray)) (b : Int)).bind fun bt105 => (if bt103.2 = true then (if bt103.1 = (wrap64 (-(n : Int))) then (some (!bt105.2)) else (some false)) else (some false))) else (none))) else (none)) else ((conv_Base.f s (b : Int)).bind fun bt107 => (if s.size + 1 ≤ 9223372036854775807 then ((conv_Base.f (s ++ (⟨#[47]⟩ : ByteArray)) (b : Int)).bind fun bt109 => (if bt107.2 = true then (if bt107.1 = (n : Int) then (some (!bt109.2)) else (some false)) else (some false))) else (none)))) = some true := by
  have hk : ∀ c ∈ (s ++ (⟨#[47]⟩ : ByteArray)).data.toList, Conv03.blank c = false := by
    intro c hc; rw [app_list] at hc
    rcases List.mem_append.1 hc with hc | hc
    · exact dig_blank c b hb.2 (okD_mem h c hc)
    · have : c = 47 := by simpa using hc
      subst this; decide
  have hz : (s ++ (⟨#[47]⟩ : ByteArray)).size = s.size + 1 := by rw [ByteArray.size_append]; rfl
  have hno : okD b (s ++ (⟨#[47]⟩ : ByteArray)).data.toList = false := by rw [app_list]; exact slash_ok b hb.2 _
  unfold conv_Base.f
  cases minus with
  | true =>
    rw [if_pos rfl, if_pos (by omega), base_minus s b n hb hn h hv h0 (by omega), minus_size]; simp only [Option.bind_some]
    obtain ⟨r, hr⟩ := base_minus_no (s ++ (⟨#[47]⟩ : ByteArray)) b hb hno hk (by omega)
    rw [if_pos (by omega), app_assoc, hr]; simp only [Option.bind_some]
    rw [if_pos trivial, if_pos (wrap64_in (by omega)).symm]; rfl
  | false =>
    have ha : Conv03.ahead 45 (s ++ (⟨#[47]⟩ : ByteArray)) = false := by
      have := ahead_no hb.2 h
      unfold Conv03.ahead at this ⊢; rw [app_list]
      cases hl : s.data.toList with
      | nil => exact absurd hl h0
      | cons a l =>
        rw [hl, List.isPrefixOf_cons_cons] at this
        rw [List.cons_append, List.isPrefixOf_cons_cons]
        cases hq : ((45 : UInt8) == a) with
        | false => rfl
        | true => rw [hq] at this; cases this
    obtain ⟨r, hr⟩ := base_no (s ++ (⟨#[47]⟩ : ByteArray)) b hb hno hk ha (by omega)
    rw [if_neg (by decide), base_yes s b n hb hn h hv h0 (by omega)]; simp only [Option.bind_some]
    rw [if_pos (by omega), hr]; simp only [Option.bind_some]
    rw [if_pos trivial, if_pos trivial]; rfl
theorem half (q x t : Nat) (h : q ≤ x / 2) (hx : x < t * 2) : q < t := by omega
theorem divmod (x b : Nat) (hb : 2 ≤ b) : ∃ q m : Nat, m < b ∧ q * b + m = x ∧ q ≤ x ∧ (∀ f, x < 2 ^ (f + 1) → q < 2 ^ f) ∧ Int.tmod (x : Int) (b : Int) = (m : Int) ∧ Int.tdiv (x : Int) (b : Int) = (q : Int) := by
  refine ⟨x / b, x % b, Nat.mod_lt _ (Nat.lt_of_lt_of_le (by decide) hb), ?_, Nat.div_le_self .., ?_, ?_, ?_⟩
  · have := Nat.div_add_mod x b
    rw [Nat.mul_comm] at this; exact this
  · intro f hx
    rw [Nat.pow_succ] at hx
    exact half _ _ _ (Nat.div_le_div_left hb (by decide)) hx
  · rw [Int.tmod_eq_emod_of_nonneg (Int.natCast_nonneg _)]; exact (Int.natCast_emod ..).symm
  · rw [Int.tdiv_eq_ediv_of_nonneg (Int.natCast_nonneg _)]; exact (Int.natCast_ediv ..).symm
theorem loop (n b : Nat) (minus : Bool) (ds : ByteArray) (hds : Ds ds) (hb : 2 ≤ b ∧ b ≤ 36) (hn : n ≤ 9223372036854775807) (f : Nat) : ∀ (k x : Nat) (s : ByteArray), s.size + f = 64 → x < 2 ^ f → x ≤ 9223372036854775807 → okD b s.data.toList = true → valA b x s.data.toList = n → f + 2 ≤ k →
    selkielaw03_ConvBases.l0 k (n : Int) minus (b : Int) ds s (n : Int) (x : Int) = some true := by
  have step : ∀ (f k x : Nat) (s : ByteArray), (∀ (k x : Nat) (s : ByteArray), s.size + f = 64 → x < 2 ^ f → x ≤ 9223372036854775807 → okD b s.data.toList = true → valA b x s.data.toList = n → f + 2 ≤ k →
      selkielaw03_ConvBases.l0 k (n : Int) minus (b : Int) ds s (n : Int) (x : Int) = some true) → s.size + (f + 1) = 64 → x < 2 ^ (f + 1) → x ≤ 9223372036854775807 → okD b s.data.toList = true → valA b x s.data.toList = n → f + 2 ≤ k →
      (if (b : Int) = 0 then (none) else (if 0 ≤ (Int.tmod (x : Int) (b : Int)) then (if (Int.tmod (x : Int) (b : Int)) ≤ (wrap64 ((Int.tmod (x : Int) (b : Int)) + 1)) then (if (wrap64 ((Int.tmod (x : Int) (b : Int)) + 1)) ≤ (ds.size : Int) then (if (ds.extract ((Int.tmod (x : Int) (b : Int)) : Int).toNat ((wrap64 ((Int.tmod (x : Int) (b : Int)) + 1)) : Int).toNat).size + s.size ≤ 9223372036854775807 then (selkielaw03_ConvBases.l0 k (n : Int) minus (b : Int) ds ((ds.extract ((Int.tmod (x : Int) (b : Int)) : Int).toNat ((wrap64 ((Int.tmod (x : Int) (b : Int)) + 1)) : Int).toNat) ++ s) (n : Int) (wrap64 (Int.tdiv (x : Int) (b : Int)))) else (none)) else (none)) else (none)) else (none))) = some true := by
    intro f k x s ih hs hx hm ho hv hk
    obtain ⟨q, m, hmod, hqm, hle, hq2', e1, e2⟩ := divmod x b hb.1
    have hq2 := Lib.hid (hq2' f hx)
    clear hq2' hx
    rw [e1, e2]
    clear e1 e2
    have ew : wrap64 ((m : Int) + 1) = ((m + 1 : Nat) : Int) := by rw [wrap64_in (by omega)]; omega
    have h36 : ds.size = 36 := hds.1
    have h3 : m < 36 := Nat.lt_of_lt_of_le hmod hb.2
    have hl := one ds hds m h3
    have hD := Lib.hid (hds.2 m h3)
    clear hds
    have hz : (ds.extract m (m + 1)).size = 1 := by rw [← size_list, hl]; rfl
    have c1 : (0 : Int) ≤ (m : Int) := Int.natCast_nonneg m
    have c2 : (m : Int) ≤ ((m + 1 : Nat) : Int) := Int.ofNat_le.2 (Nat.le_succ m)
    have c3 : ((m + 1 : Nat) : Int) ≤ (ds.size : Int) := Int.ofNat_le.2 (by rw [h36]; exact h3)
    have c4 : 1 + s.size ≤ 9223372036854775807 := by clear ih hv ho hqm h36; omega
    have c5n : q ≤ 9223372036854775807 := Nat.le_trans hle hm
    have c5 : -9223372036854775808 ≤ (q : Int) ∧ (q : Int) ≤ 9223372036854775807 := by clear ih hv ho hqm h36; omega
    rw [ew, if_neg (by omega), if_pos c1, if_pos c2, if_pos c3, Int.toNat_natCast, Int.toNat_natCast, hz, if_pos c4, wrap64_in c5]
    have hd := hD.out
    refine ih k q _ (by rw [ByteArray.size_append, hz]; clear hd hv ho hqm h36; omega) hq2.out c5n ?_ ?_ hk
    · rw [app_list, hl]
      have : okD b ([ds.data.toList.getD m 0] ++ s.data.toList) = (decide (dig (ds.data.toList.getD m 0) < b) && okD b s.data.toList) := rfl
      rw [this, hd, ho, decide_eq_true hmod]; rfl
    · rw [app_list, hl]
      show valA b q (ds.data.toList.getD m 0 :: s.data.toList) = n
      rw [valA_cons, hd, hqm]; exact hv
  induction f with
  | zero =>
    intro k x s hs hx hm ho hv hk
    obtain ⟨k, rfl⟩ : ∃ m, k = m + 1 := ⟨k - 1, by omega⟩
    obtain rfl : x = 0 := by omega
    have h0 : s.data.toList ≠ [] := by intro e; have := size_list s; rw [e] at this; simp at this; omega
    rw [selkielaw03_ConvBases.l0, if_neg (by omega), if_neg (by rw [ByteArray.toList_eq]; exact h0)]
    exact fin n b minus s hb hn ho hv h0 (by omega)
  | succ f ih =>
    intro k x s hs hx hm ho hv hk
    obtain ⟨k, rfl⟩ : ∃ m, k = m + 1 := ⟨k - 1, by omega⟩
    rw [selkielaw03_ConvBases.l0]
    by_cases h : (x : Int) > 0
    · rw [if_pos h]; exact step f k x s ih hs hx hm ho hv (by omega)
    · rw [if_neg h]
      by_cases h0 : s.toList = []
      · rw [if_pos h0]; exact step f k x s ih hs hx hm ho hv (by omega)
      · rw [if_neg h0]
        obtain rfl : x = 0 := by omega
        exact fin n b minus s hb hn ho hv (by rw [← ByteArray.toList_eq]; exact h0) (by omega)
theorem bases_is (n b : Int) (c m : Bool) (hn : -9223372036854775808 ≤ n ∧ n ≤ 9223372036854775807) (hb : 0 ≤ b ∧ b ≤ 255) : selkielaw03_ConvBases.f 100 n b c m = some true := by
  unfold selkielaw03_ConvBases.f
  have : selkielaw03_alive.f = some true := rfl
  rw [this]; simp only [Option.bind_some, if_true]
  by_cases h : n < 0
  · rw [if_pos h]
  rw [if_neg h]
  obtain ⟨n, rfl⟩ := Int.eq_ofNat_of_zero_le (show 0 ≤ n by omega)
  obtain ⟨b, rfl⟩ := Int.eq_ofNat_of_zero_le hb.1
  have e1 : Int.tmod (wrap64 (b : Int)) 35 = ((b % 35 : Nat) : Int) := by rw [wrap64_in (by omega), Int.tmod_eq_emod_of_nonneg (by omega)]; simp
  have e2 : wrap64 (Int.tmod (wrap64 (b : Int)) 35 + 2) = ((b % 35 + 2 : Nat) : Int) := by rw [e1, wrap64_in (by omega)]; omega
  rw [e2]
  have hx : n < 2 ^ 64 := by omega
  cases c with
  | true => rw [if_pos rfl, selkielaw03_ConvBases.j0]; exact loop n _ m _ ds_great (by omega) (by omega) 64 99 n ⟨#[]⟩ rfl hx (by omega) rfl rfl (by omega)
  | false => rw [if_neg (by decide), selkielaw03_ConvBases.j0]; exact loop n _ m _ ds_small (by omega) (by omega) 64 99 n ⟨#[]⟩ rfl hx (by omega) rfl rfl (by omega)
theorem bases_walk (n b : Int) (c m : Bool) (w : World) (hT : Tab w) (hn : -9223372036854775808 ≤ n ∧ n ≤ 9223372036854775807) (hb : 0 ≤ b ∧ b ≤ 255) :
    Calls Tryd.prog 6 #[.agg #[.int .i64 n, .int .u8 b, .bool c, .bool m]] w fun e w' => e = .returned (.bool true) ∧ Below w.heap.size w w' :=
  selkielaw03_ConvBases.calls 100 n b c m true w hT rfl (bases_is n b c m hn hb)
end Go.Proofs.YtjbnlebnofnkoaaDoor.Bases
