/- Chapter 37: the reference's interpretation. -/
import Derived.Test.YtjnlmmjadlidlaaDoorNPure2
import Derived.Test.YtjnlmmjadlidlaaDoorPNamesx
namespace Go.Proofs.YtjnlmmjadlidlaaDoor.Pure
open Go.RowKit Go.Proofs.YtjnlmmjadlidlaaDoor.PNames Go.Proofs.YtjnlmmjadlidlaaDoorW.PrintWords

theorem decimal_f {n : Int} (h0 : 0 ≤ n) (h1 : n ≤ 9223372036854775807) : kauditref01_Decimal.f n = some ⟨(Lib.decDigits n.toNat).toArray⟩ := by
  unfold kauditref01_Decimal.f
  rw [if_pos ⟨h0, h1⟩]

theorem digits_small {u : Nat} (h : u < 10) : Lib.decDigits u = [UInt8.ofNat (48 + u)] := by rw [Lib.decDigits, dif_pos h]
theorem digits_len20 : ∀ (m u : Nat), u < 10 ^ m → (Lib.decDigits u).length ≤ m + 1 := by
  intro m
  induction m with
  | zero => intro u h; rw [digits_small (by omega)]; simp
  | succ m ih =>
    intro u h
    rw [Lib.decDigits]
    split
    · simp
    · have := ih (u / 10) (by rw [Nat.pow_succ] at h; omega)
      simp only [List.length_append, List.length_cons, List.length_nil]
      omega

theorem itoa_neg {n : Int} (h : n < 0) : Lib.itoa n = 45 :: Lib.decDigits n.natAbs := by unfold Lib.itoa; rw [if_pos h]
theorem itoa_pos {n : Int} (h : ¬ n < 0) : Lib.itoa n = Lib.decDigits n.toNat := by unfold Lib.itoa; rw [if_neg h]

theorem number_f (n : Int) (hn : I64 n) : kauditref02_Number.f n = some ⟨(Lib.itoa n).toArray⟩ := by
  unfold kauditref02_Number.f
  by_cases h : n ≥ 0
  · rw [if_pos h, decimal_f h hn.2, itoa_pos (by omega)]; rfl
  · rw [if_neg h, itoa_neg (by omega)]
    by_cases hm : n = -9223372036854775808
    · subst hm
      have e1 : wrap64 (-(-9223372036854775808)) = -9223372036854775808 := by decide +kernel
      have e2 : wrap64 (-(wrap64 (Int.tdiv (-9223372036854775808) 10))) = 922337203685477580 := by decide +kernel
      have e3 : wrap64 (-(Int.tmod (-9223372036854775808) 10)) = 8 := by decide +kernel
      have l1 := digits_len20 18 922337203685477580 (by decide)
      rw [e1, if_pos (by decide), e2, decimal_f (by decide) (by decide)]
      simp only [Option.bind_some]
      rw [e3, decimal_f (by decide) (by decide)]
      simp only [Option.bind_some]
      have z1 : (⟨(Lib.decDigits (922337203685477580 : Int).toNat).toArray⟩ : ByteArray).size ≤ 19 := by simpa [ByteArray.size] using l1
      have z2 : (⟨(Lib.decDigits (8 : Int).toNat).toArray⟩ : ByteArray).size = 1 := by
        show (Lib.decDigits (8 : Int).toNat).toArray.size = 1
        rw [show (8 : Int).toNat = 8 from rfl, digits_small (by omega)]
        rfl
      rw [if_pos (by omega), z2, if_pos (by omega)]
      have hd : Lib.decDigits (-9223372036854775808 : Int).natAbs = Lib.decDigits 922337203685477580 ++ [56] := by
        have q1 : (9223372036854775808 : Nat) / 10 = 922337203685477580 := by decide +kernel
        have q2 : (9223372036854775808 : Nat) % 10 = 8 := by decide +kernel
        rw [show (-9223372036854775808 : Int).natAbs = 9223372036854775808 from rfl, Lib.decDigits, dif_neg (by omega), q1, q2]
        rfl
      rw [hd]
      congr 1
      apply ByteArray.ext
      rw [ByteArray.data_append, ByteArray.data_append]
      show (#[45] ++ (Lib.decDigits (922337203685477580 : Int).toNat).toArray) ++ (Lib.decDigits (8 : Int).toNat).toArray = _
      rw [show (8 : Int).toNat = 8 from rfl, digits_small (u := 8) (by omega), show (922337203685477580 : Int).toNat = 922337203685477580 from rfl]
      apply Array.ext'
      simp
    · have hb : n > -9223372036854775808 := by have := hn.1; omega
      have e1 : wrap64 (-n) = -n := w64 (by omega) (by omega)
      rw [e1, if_neg (by omega), decimal_f (by omega) (by omega)]
      simp only [Option.bind_some]
      have l1 := digits_len20 19 (-n).toNat (by omega)
      have z1 : (⟨(Lib.decDigits (-n).toNat).toArray⟩ : ByteArray).size ≤ 20 := by simpa [ByteArray.size] using l1
      rw [if_pos (by omega), show n.natAbs = (-n).toNat by omega]
      congr 1

theorem refplain_f (name : ByteArray) (kind num : Int) (text : ByteArray) (hn : I64 num) : kauditref37_Plain.f name kind num text = some (plainS kind num text) := by
  unfold kauditref37_Plain.f plainS
  by_cases h1 : kind = 1
  · rw [if_pos h1, if_pos h1, number_f num hn]; rfl
  · rw [if_neg h1, if_neg h1]
    by_cases h2 : kind = 2
    · rw [if_pos h2, if_pos h2]
    · rw [if_neg h2, if_neg h2]
      by_cases h3 : kind = 3
      · rw [if_pos h3, if_pos h3]
      · rw [if_neg h3, if_neg h3]

def errNums : List Int := [1, 2, 3, 4, 9, 11, 13, 16, 17, 18, 20, 21, 22, 24, 28, 36, 39, 40, 111]
def errNames : List ByteArray := [(⟨#[69, 80, 69, 82, 77]⟩ : ByteArray), (⟨#[69, 78, 79, 69, 78, 84]⟩ : ByteArray), (⟨#[69, 83, 82, 67, 72]⟩ : ByteArray), (⟨#[69, 73, 78, 84, 82]⟩ : ByteArray), (⟨#[69, 66, 65, 68, 70]⟩ : ByteArray), (⟨#[69, 65, 71, 65, 73, 78]⟩ : ByteArray), (⟨#[69, 65, 67, 67, 69, 83]⟩ : ByteArray), (⟨#[69, 66, 85, 83, 89]⟩ : ByteArray), (⟨#[69, 69, 88, 73, 83, 84]⟩ : ByteArray), (⟨#[69, 88, 68, 69, 86]⟩ : ByteArray), (⟨#[69, 78, 79, 84, 68, 73, 82]⟩ : ByteArray), (⟨#[69, 73, 83, 68, 73, 82]⟩ : ByteArray), (⟨#[69, 73, 78, 86, 65, 76]⟩ : ByteArray), (⟨#[69, 77, 70, 73, 76, 69]⟩ : ByteArray), (⟨#[69, 78, 79, 83, 80, 67]⟩ : ByteArray), (⟨#[69, 78, 65, 77, 69, 84, 79, 79, 76, 79, 78, 71]⟩ : ByteArray), (⟨#[69, 78, 79, 84, 69, 77, 80, 84, 89]⟩ : ByteArray), (⟨#[69, 76, 79, 79, 80]⟩ : ByteArray), (⟨#[69, 67, 79, 78, 78, 82, 69, 70, 85, 83, 69, 68]⟩ : ByteArray)]

theorem errTab_at : ∀ i, i < 19 → errTab.drop i = (rd errNums (i : Int), (rdOf ByteArray.empty errNames (i : Int)).data.toList) :: errTab.drop (i + 1) := by decide
theorem errTab_end : errTab.drop 19 = [] := by decide

def errFrom (n : Int) (i : Nat) : List UInt8 := (((errTab.drop i).find? fun x => x.1 == n).map (·.2)).getD []
theorem errFrom_hit {n : Int} {i : Nat} (hi : i < 19) (h : rd errNums (i : Int) = n) : (⟨(errFrom n i).toArray⟩ : ByteArray) = rdOf ByteArray.empty errNames (i : Int) := by
  unfold errFrom
  rw [errTab_at i hi, List.find?_cons, show ((rd errNums (i : Int), (rdOf ByteArray.empty errNames (i : Int)).data.toList).1 == n) = true from by simpa using h]
  simp
theorem errFrom_miss {n : Int} {i : Nat} (hi : i < 19) (h : ¬ rd errNums (i : Int) = n) : errFrom n i = errFrom n (i + 1) := by
  unfold errFrom
  rw [errTab_at i hi, List.find?_cons, show ((rd errNums (i : Int), (rdOf ByteArray.empty errNames (i : Int)).data.toList).1 == n) = false from by simpa using h]

theorem referr_l0 (n : Int) (d : Nat) : ∀ (k i : Nat), i + d = 19 → d < k → kauditref37_ErrorName.l0 k n errNames errNums 19 (i : Int) = some ⟨(errFrom n i).toArray⟩ := by
  induction d with
  | zero =>
    intro k i hi hk
    obtain ⟨k, rfl⟩ : ∃ m, k = m + 1 := ⟨k - 1, by omega⟩
    obtain rfl : i = 19 := by omega
    simp only [kauditref37_ErrorName.l0]
    rw [if_neg (by omega)]
    unfold errFrom
    rw [errTab_end]
    rfl
  | succ d ih =>
    intro k i hi hk
    obtain ⟨k, rfl⟩ : ∃ m, k = m + 1 := ⟨k - 1, by omega⟩
    have hw : wrap64 ((i : Int) + 1) = ((i + 1 : Nat) : Int) := by rw [w64 (by omega) (by omega)]; omega
    have l1 : (errNums.length : Int) = 19 := by decide
    have l2 : (errNames.length : Int) = 19 := by decide
    simp only [kauditref37_ErrorName.l0]
    rw [if_pos (by omega), if_pos (by omega), if_pos (by omega)]
    by_cases h : rd errNums (i : Int) = n
    · rw [if_pos h, if_pos (by omega), errFrom_hit (by omega) h]
    · rw [if_neg h, hw, errFrom_miss (by omega) h]
      exact ih k (i + 1) (by omega) (by omega)

theorem referr_ev (n : Int) : Ev (fun k => kauditref37_ErrorName.f k n) ⟨(errName n).toArray⟩ :=
  ⟨20, fun k hk => referr_l0 n 19 k 0 (by omega) (by omega)⟩

theorem nmAt_snoc (pre : List S47) (x : S47) (t kind id : Int) : nmAt (pre ++ [x]) t kind id = if hit kind id t x = true then x.f3 else nmAt pre t kind id := by
  unfold nmAt findBack
  rw [List.reverse_append, List.reverse_singleton, List.singleton_append, List.find?_cons]
  cases hit kind id t x <;> rfl

theorem refname_l0 (kind id t : Int) (rest : List S47) : ∀ (pre : List S47), (pre ++ rest).length ≤ 9223372036854775807 →
    Ev (fun k => kauditref37_Name.l0 k kind id t (nmAt pre t kind id) (pre ++ rest) ((pre ++ rest).length : Int) (pre.length : Int)) (nmAt (pre ++ rest) t kind id, (nmAt (pre ++ rest) t kind id).toList != []) := by
  induction rest with
  | nil =>
    intro pre hl
    rw [List.append_nil]
    refine Ev.step (f := fun _ => some (nmAt pre t kind id, (nmAt pre t kind id).toList != [])) (fun k => ?_) (Ev.now _)
    simp only [kauditref37_Name.l0]
    rw [if_neg (by omega)]
  | cons x r ih =>
    intro pre hl
    have hlen : (pre ++ x :: r).length = pre.length + (r.length + 1) := by simp
    have hgo := ih (pre ++ [x]) (by simpa using hl)
    rw [List.append_assoc, List.singleton_append, show ((pre ++ [x]).length : Int) = (pre.length : Int) + 1 from by simp] at hgo
    have hw1 : wrap64 ((pre.length : Int) + 1) = (pre.length : Int) + 1 := w64 (by omega) (by omega)
    refine Ev.step (f := fun k => kauditref37_Name.l0 k kind id t (nmAt (pre ++ [x]) t kind id) (pre ++ x :: r) ((pre ++ x :: r).length : Int) ((pre.length : Int) + 1)) (fun k => ?_) hgo
    simp only [kauditref37_Name.l0]
    rw [if_pos (by omega), if_pos (by omega), if_pos (by omega), rd_at, hw1, nmAt_snoc]
    by_cases h1 : x.f1 = kind
    · rw [if_pos h1]
      by_cases h2 : x.f2 = id
      · rw [if_pos h2]
        by_cases h3 : x.f0 ≤ t
        · rw [if_pos h3, if_pos (by simp [hit, h1, h2, h3])]
        · rw [if_neg h3, if_neg (by simp [hit, h3])]
      · rw [if_neg h2, if_neg (by simp [hit, h2])]
    · rw [if_neg h1, if_neg (by simp [hit, h1])]

theorem refname_ev (l : List S47) (kind id t : Int) (hl : l.length ≤ 9223372036854775807) : Ev (fun k => kauditref37_Name.f k l kind id t) (nmAt l t kind id, (nmAt l t kind id).toList != []) := by
  unfold kauditref37_Name.f
  exact refname_l0 kind id t l [] hl

def modeC (b : Nat → Bool) (i : Nat) : UInt8 := if b i then 45 else ([114, 119, 120, 114, 119, 120, 114, 119, 120] : List UInt8).getD i 0
theorem modeBytes9 (b : Nat → Bool) : modeBytes b 9 = (List.range 9).map (modeC b) := by
  have h : (List.range 9).map (modeC b) = [modeC b 0, modeC b 1, modeC b 2, modeC b 3, modeC b 4, modeC b 5, modeC b 6, modeC b 7, modeC b 8] := rfl
  rw [h]
  simp only [modeBytes, modeC]
  generalize b 0 = b0, b 1 = b1, b 2 = b2, b 3 = b3, b 4 = b4, b 5 = b5, b 6 = b6, b 7 = b7, b 8 = b8
  revert b0 b1 b2 b3 b4 b5 b6 b7 b8
  decide +kernel

theorem and1 : ∀ a : Nat, a < 512 → (Go.bits .and .i64 (a : Int) 1 = 1 ∨ Go.bits .and .i64 (a : Int) 1 = 0) := by decide +kernel

theorem rwx_at : ∀ i, i < 9 → ((⟨#[114, 119, 120, 114, 119, 120, 114, 119, 120]⟩ : ByteArray).extract i (i + 1)).data.toList = [([114, 119, 120, 114, 119, 120, 114, 119, 120] : List UInt8).getD i 0] := by decide

def modeTo (m : Int) (i : Nat) : ByteArray := ⟨((List.range i).map (modeC (bitOff m))).toArray⟩
theorem modeTo_succ (m : Int) (i : Nat) (s : ByteArray) (hs : s.data.toList = [modeC (bitOff m) i]) : modeTo m i ++ s = modeTo m (i + 1) := by
  apply ByteArray.ext
  rw [ByteArray.data_append]
  apply Array.ext'
  rw [Array.toList_append, hs]
  simp [modeTo, List.range_succ]

theorem refmode_l0 (m : Int) (hm : 0 ≤ m ∧ m ≤ 511) (d : Nat) : ∀ (k i : Nat), i + d = 9 → d < k → kauditref08_Format.l0 k m (modeTo m i) (i : Int) = some (modeTo m 9) := by
  induction d with
  | zero =>
    intro k i hi hk
    obtain ⟨k, rfl⟩ : ∃ q, k = q + 1 := ⟨k - 1, by omega⟩
    obtain rfl : i = 9 := by omega
    simp only [kauditref08_Format.l0]
    rw [if_neg (by omega)]
  | succ d ih =>
    intro k i hi hk
    obtain ⟨k, rfl⟩ : ∃ q, k = q + 1 := ⟨k - 1, by omega⟩
    have hw : wrap64 ((i : Int) + 1) = ((i + 1 : Nat) : Int) := by rw [w64 (by omega) (by omega)]; omega
    have hw2 : IntKind.u64.wrap (wrap64 (8 - (i : Int))) = ((8 - i : Nat) : Int) := by
      rw [w64 (by omega) (by omega)]
      have : ∀ i : Nat, i < 9 → IntKind.u64.wrap (8 - (i : Int)) = ((8 - i : Nat) : Int) := by decide
      exact this i (by omega)
    have hsz : (modeTo m i).size = i := by simp [modeTo, ByteArray.size]
    have hshr : shr .i64 m ((8 - i : Nat) : Int) = m / 2 ^ (8 - i) := by
      unfold shr
      rw [show ((8 - i : Nat) : Int).toNat = 8 - i by omega, show min (8 - i) IntKind.i64.bits = 8 - i from by have : IntKind.i64.bits = 64 := rfl; omega]
    obtain ⟨q, hq⟩ : ∃ q : Nat, m / 2 ^ (8 - i) = (q : Int) ∧ q < 512 := by
      refine ⟨m.toNat / 2 ^ (8 - i), ?_, ?_⟩
      · rw [show m = ((m.toNat : Nat) : Int) by omega]
        simp
      · exact Nat.lt_of_le_of_lt (Nat.div_le_self _ _) (by omega)
    have hb : bitOff m i = decide (Go.bits .and .i64 (q : Int) 1 = 0) := by unfold bitOff; rw [hq.1]; rfl
    simp only [kauditref08_Format.l0]
    rw [if_pos (by omega), hw2, if_pos (by omega), hshr, hq.1, hw]
    rcases and1 q hq.2 with h1 | h1
    · have he : ((⟨#[114, 119, 120, 114, 119, 120, 114, 119, 120]⟩ : ByteArray).extract ((i : Nat) : Int).toNat (((i + 1 : Nat) : Int)).toNat).data.toList = [modeC (bitOff m) i] := by
        rw [show ((i : Nat) : Int).toNat = i by omega, show ((i + 1 : Nat) : Int).toNat = i + 1 by omega]
        have := rwx_at i (by omega)
        unfold modeC
        rw [hb, h1]
        simpa using this
      have hz : ((⟨#[114, 119, 120, 114, 119, 120, 114, 119, 120]⟩ : ByteArray).extract ((i : Nat) : Int).toNat (((i + 1 : Nat) : Int)).toNat).size = 1 := by
        have := congrArg List.length he
        rw [Array.length_toList] at this
        exact this
      rw [if_pos h1, if_pos (by omega), if_pos (by omega), if_pos (by omega), hz, hsz, if_pos (by omega), modeTo_succ m i _ he]
      exact ih k (i + 1) (by omega) (by omega)
    · have he : (⟨#[45]⟩ : ByteArray).data.toList = [modeC (bitOff m) i] := by
        unfold modeC
        rw [hb, h1]
        rfl
      rw [if_neg (by rw [h1]; decide), hsz, if_pos (by omega), modeTo_succ m i _ he]
      exact ih k (i + 1) (by omega) (by omega)

theorem refmode_ev (m : Int) : Ev (fun k => kauditref08_Format.f k m) (modeS m) := by
  refine ⟨20, fun k hk => ?_⟩
  obtain ⟨k, rfl⟩ : ∃ q, k = q + 1 := ⟨k - 1, by omega⟩
  show kauditref08_Format.f (k + 1) m = some (modeS m)
  unfold kauditref08_Format.f modeS
  by_cases h : m < 0
  · rw [if_pos h, if_neg (by omega)]
    simp only [kauditref08_Format.j0]
    rw [if_pos trivial]
  · rw [if_neg h]
    simp only [kauditref08_Format.j0]
    by_cases h2 : m > 511
    · rw [if_pos (decide_eq_true h2), if_neg (by omega)]
    · rw [if_neg (by rw [decide_eq_false h2]; exact Bool.false_ne_true), if_pos (by omega)]
      have := refmode_l0 m (by omega) 9 k 0 (by omega) (by omega)
      rw [show modeTo m 0 = ⟨#[]⟩ from rfl] at this
      rw [show modeText m = modeTo m 9 from by unfold modeText modeTo; rw [modeBytes9]]
      exact this

def permLetters : List ByteArray := [(⟨#[114]⟩ : ByteArray), (⟨#[119]⟩ : ByteArray), (⟨#[120]⟩ : ByteArray), (⟨#[97]⟩ : ByteArray)]
def permBits : List Int := [4, 2, 1, 8]

theorem refperm_l0 (n : Int) (k : Nat) : kauditref37_special.l0 (k + 5) n ⟨#[]⟩ permLetters 4 0 = some (permS n) := by
  have w0 : wrap64 (0 + 1) = 1 := by decide +kernel
  have w1 : wrap64 (1 + 1) = 2 := by decide +kernel
  have w2 : wrap64 (2 + 1) = 3 := by decide +kernel
  have w3 : wrap64 (3 + 1) = 4 := by decide +kernel
  have lp : (permLetters.length : Int) = 4 := rfl
  have lb : (([4, 2, 1, 8] : List Int).length : Int) = 4 := rfl
  have stop : ∀ s k, kauditref37_special.l0 (k + 1) n s permLetters 4 4 = some s := fun s k => by simp only [kauditref37_special.l0]; rw [if_neg (by omega)]
  unfold permS
  by_cases h : 1 ≤ n ∧ n ≤ 15
  · have step : ∀ (s : ByteArray) (i : Int) (k : Nat) (c : UInt8) (b : Int), 0 ≤ i → i < 4 → s.size ≤ 10 → rdOf ByteArray.empty permLetters i = ⟨#[c]⟩ → rd ([4, 2, 1, 8] : List Int) i = b →
        kauditref37_special.l0 (k + 1) n s permLetters 4 i = kauditref37_special.l0 k n ⟨(s.data.toList ++ letterIf n b c).toArray⟩ permLetters 4 (wrap64 (i + 1)) := fun s i k c b h0 h1 hs hc hb => by
      simp only [kauditref37_special.l0, Option.bind_some]
      rw [if_pos h1, if_pos h0, if_pos (by omega), if_pos (by omega), if_pos (by omega), if_pos (by omega), hc, hb]
      unfold letterIf
      by_cases hz : Go.bits .and .i64 n b = 0
      · rw [if_pos hz, if_neg (by rw [hz]; decide)]
        congr 1
        apply ByteArray.ext
        apply Array.ext'
        simp
      · rw [if_neg hz, if_pos (show s.size + (⟨#[c]⟩ : ByteArray).size ≤ 9223372036854775807 by show s.size + 1 ≤ _; omega), if_pos (show (Go.bits .and .i64 n b != 0) = true by simpa using hz)]
        congr 1
    have li : ∀ b c, (letterIf n b c).length ≤ 1 := letterIf_le n
    have sz : ∀ l : List UInt8, (⟨l.toArray⟩ : ByteArray).size = l.length := fun l => by simp [ByteArray.size]
    have dt : ∀ l : List UInt8, (⟨l.toArray⟩ : ByteArray).data.toList = l := fun l => by simp
    have a1 := li 4 114
    have a2 := li 2 119
    have a3 := li 1 120
    rw [if_pos h, show k + 5 = (k + 4) + 1 from rfl, step ⟨#[]⟩ 0 (k + 4) 114 4 (by omega) (by omega) (by decide) rfl rfl, w0, show k + 4 = (k + 3) + 1 from rfl,
      step _ 1 (k + 3) 119 2 (by omega) (by omega) (by rw [sz]; simp; omega) rfl rfl, w1, dt, show k + 3 = (k + 2) + 1 from rfl,
      step _ 2 (k + 2) 120 1 (by omega) (by omega) (by rw [sz]; simp; omega) rfl rfl, w2, dt, show k + 2 = (k + 1) + 1 from rfl,
      step _ 3 (k + 1) 97 8 (by omega) (by omega) (by rw [sz]; simp; omega) rfl rfl, w3, dt, stop]
    rfl
  · have skip : ∀ (i : Int) (k : Nat), 0 ≤ i → i < 4 → kauditref37_special.l0 (k + 1) n ⟨#[]⟩ permLetters 4 i = kauditref37_special.l0 k n ⟨#[]⟩ permLetters 4 (wrap64 (i + 1)) := fun i k h0 h1 => by
      simp only [kauditref37_special.l0]
      rw [if_pos h1, if_pos h0, if_pos (by omega)]
      by_cases g1 : n ≥ 1
      · rw [if_pos g1, if_neg (by omega)]
      · rw [if_neg g1]
    rw [if_neg h, show k + 5 = (k + 4) + 1 from rfl, skip 0 (k + 4) (by omega) (by omega), w0, show k + 4 = (k + 3) + 1 from rfl, skip 1 (k + 3) (by omega) (by omega), w1, show k + 3 = (k + 2) + 1 from rfl,
      skip 2 (k + 2) (by omega) (by omega), w2, show k + 2 = (k + 1) + 1 from rfl, skip 3 (k + 1) (by omega) (by omega), w3, stop]

end Go.Proofs.YtjnlmmjadlidlaaDoor.Pure
