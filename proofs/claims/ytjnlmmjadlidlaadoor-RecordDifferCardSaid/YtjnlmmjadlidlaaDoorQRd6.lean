/-
  A part of the proof of this: RecordDiffer holds for every input: of records that are made of any numbers the lines are equal exactly if the records are (the card).
-/
import Derived.Test.YtjnlmmjadlidlaaDoorRows
import Derived.LaidMore
import Derived.MakeChecks
import Derived.Stop.LaidErr
import Derived.Lib.LaidTab
import Derived.Deep.Strs
import Derived.Test.YtjnlmmjadlidlaaDoorQRd5
section
namespace Go.Proofs.YtjnlmmjadlidlaaDoor.Pure3
open Go.RowKit Go.Proofs.YtjnlmmjadlidlaaDoor.PRec Go.Proofs.YtjnlmmjadlidlaaDoorW.PrintWords
def tx (s : ByteArray) : List UInt8 := s.data.toList
theorem tx_app (a b : ByteArray) : tx (a ++ b) = tx a ++ tx b := by simp [tx, ByteArray.data_append]
theorem tx_len (s : ByteArray) : (tx s).length = s.size := by
  show s.data.toList.length = s.data.size
  exact Array.length_toList
theorem tx_mk (l : List UInt8) : tx ⟨l.toArray⟩ = l := rfl
theorem tx_inj {a b : ByteArray} (h : tx a = tx b) : a = b := by
  apply ByteArray.ext
  exact Array.ext' h
def Ends (c : UInt8) (l : List UInt8) : Prop := l = [] ∨ ∃ q, l = c :: q
theorem split_end {c : UInt8} : ∀ {l1 l2 r1 r2 : List UInt8}, c ∉ l1 → c ∉ l2 → Ends c r1 → Ends c r2 → l1 ++ r1 = l2 ++ r2 → l1 = l2 ∧ r1 = r2
  | [], [], _, _, _, _, _, _, h => ⟨rfl, h⟩
  | [], y :: l2, r1, r2, _, h2, e1, _, h => by
    rcases e1 with rfl | ⟨q, rfl⟩
    · simp at h
    · simp only [List.nil_append, List.cons_append, List.cons.injEq] at h
      exact absurd (h.1 ▸ List.mem_cons_self ..) h2
  | x :: l1, [], r1, r2, h1, _, _, e2, h => by
    rcases e2 with rfl | ⟨q, rfl⟩
    · simp at h
    · simp only [List.nil_append, List.cons_append, List.cons.injEq] at h
      exact absurd (h.1 ▸ List.mem_cons_self ..) h1
  | x :: l1, y :: l2, r1, r2, h1, h2, e1, e2, h => by
    simp only [List.cons_append, List.cons.injEq] at h
    obtain ⟨a, b⟩ := split_end (fun hm => h1 (List.mem_cons_of_mem _ hm)) (fun hm => h2 (List.mem_cons_of_mem _ hm)) e1 e2 h.2
    exact ⟨by rw [h.1, a], b⟩
theorem split_at {c : UInt8} {l1 l2 r1 r2 : List UInt8} (h1 : c ∉ l1) (h2 : c ∉ l2) (h : l1 ++ c :: r1 = l2 ++ c :: r2) : l1 = l2 ∧ r1 = r2 := by
  obtain ⟨a, b⟩ := split_end h1 h2 (.inr ⟨r1, rfl⟩) (.inr ⟨r2, rfl⟩) h
  exact ⟨a, by simpa using b⟩
def isDig (c : UInt8) : Prop := 48 ≤ c.toNat ∧ c.toNat ≤ 57
theorem ofNat_toNat {n : Nat} (h : n < 256) : (UInt8.ofNat n).toNat = n := by simp [UInt8.toNat_ofNat']; omega
theorem dec_digs (u : Nat) : ∀ c ∈ Lib.decDigits u, isDig c := by
  induction u using Nat.strongRecOn with
  | _ u ih =>
    intro c hc
    rw [Lib.decDigits] at hc
    split at hc
    · rw [List.mem_singleton.1 hc]
      unfold isDig
      rw [ofNat_toNat (by omega)]
      omega
    · rcases List.mem_append.1 hc with h | h
      · exact ih (u / 10) (by omega) c h
      · rw [List.mem_singleton.1 h]
        unfold isDig
        rw [ofNat_toNat (by omega)]
        omega
def valD (l : List UInt8) : Nat := l.foldl (fun a c => 10 * a + (c.toNat - 48)) 0
theorem val_dec (u : Nat) : valD (Lib.decDigits u) = u := by
  induction u using Nat.strongRecOn with
  | _ u ih =>
    rw [Lib.decDigits]
    split
    · rename_i h
      show 10 * 0 + ((UInt8.ofNat (48 + u)).toNat - 48) = u
      rw [ofNat_toNat (by omega)]
      omega
    · have := ih (u / 10) (by omega)
      unfold valD at this ⊢
      rw [List.foldl_append, this]
      show 10 * (u / 10) + ((UInt8.ofNat (48 + u % 10)).toNat - 48) = u
      rw [ofNat_toNat (by omega)]
      omega
theorem dec_inj {u v : Nat} (h : Lib.decDigits u = Lib.decDigits v) : u = v := by rw [← val_dec u, h, val_dec v]
theorem dec_ne (u : Nat) : ∃ c q, Lib.decDigits u = c :: q ∧ isDig c := by
  cases h : Lib.decDigits u with
  | nil =>
    rw [Lib.decDigits] at h
    split at h
    · cases h
    · simp at h
  | cons c q => exact ⟨c, q, rfl, dec_digs u c (by rw [h]; exact List.mem_cons_self ..)⟩
theorem itoa_inj {m n : Int} (h : Lib.itoa m = Lib.itoa n) : m = n := by
  by_cases hm : m < 0
  · rw [itoa_neg hm] at h
    by_cases hn : n < 0
    · rw [itoa_neg hn] at h
      have := dec_inj (List.cons.inj h).2
      omega
    · rw [itoa_pos hn] at h
      obtain ⟨c, q, e, hc⟩ := dec_ne n.toNat
      rw [e] at h
      have := (List.cons.inj h).1
      rw [← this] at hc
      exact absurd hc.1 (by decide)
  · rw [itoa_pos hm] at h
    by_cases hn : n < 0
    · rw [itoa_neg hn] at h
      obtain ⟨c, q, e, hc⟩ := dec_ne m.toNat
      rw [e] at h
      have := (List.cons.inj h).1
      rw [this] at hc
      exact absurd hc.1 (by decide)
    · rw [itoa_pos hn] at h
      have := dec_inj h
      omega
theorem itoa_bytes (n : Int) : ∀ c ∈ Lib.itoa n, isDig c ∨ c = 45 := by
  intro c hc
  by_cases h : n < 0
  · rw [itoa_neg h] at hc
    rcases List.mem_cons.1 hc with e | e
    · exact .inr e
    · exact .inl (dec_digs _ c e)
  · rw [itoa_pos h] at hc
    exact .inl (dec_digs _ c hc)
theorem itoa_head (n : Int) : ∃ c q, Lib.itoa n = c :: q ∧ (isDig c ∨ c = 45) := by
  by_cases h : n < 0
  · exact ⟨45, _, itoa_neg h, .inr rfl⟩
  · obtain ⟨c, q, e, hc⟩ := dec_ne n.toNat
    exact ⟨c, q, by rw [itoa_pos h, e], .inl hc⟩
theorem bt_get (s : ByteArray) (i : Nat) (h : i < s.size) : ∃ c, (tx s)[i]? = some c ∧ (c.toNat : Int) = bt s (i : Int) := by
  refine ⟨s[i], ?_, ?_⟩
  · unfold tx
    rw [Array.getElem?_toList]
    exact Array.getElem?_eq_getElem h
  · exact bt_at s (i : Int) h
theorem mem_bt {s : ByteArray} {c : UInt8} (h : c ∈ tx s) : ∃ i, i < s.size ∧ (c.toNat : Int) = bt s (i : Int) := by
  obtain ⟨i, hi, rfl⟩ := List.getElem_of_mem h
  have hi' : i < s.size := by rw [← tx_len]; exact hi
  obtain ⟨c, hc, hb⟩ := bt_get s i hi'
  rw [List.getElem?_eq_getElem hi] at hc
  injection hc with hc
  exact ⟨i, hi', by rw [← hb, hc]⟩
theorem name_bytes {s : ByteArray} (h : isName s = true) : ∀ c ∈ tx s, midB (c.toNat : Int) = true := by
  unfold isName at h
  simp only [Bool.and_eq_true] at h
  have ha := (allFrom_iff _ _ _).1 h.2.2.2
  intro c hc
  obtain ⟨i, hi, e⟩ := mem_bt hc
  rw [e]
  exact ha i (by omega) (by omega)
theorem mid_ne {c : UInt8} (h : midB (c.toNat : Int) = true) : c ≠ 32 ∧ c ≠ 61 := by
  constructor
  · rintro rfl; exact absurd h (by decide)
  · rintro rfl; exact absurd h (by decide)
theorem safe_bytes {s : ByteArray} (h : isSafe s = true) : ∀ c ∈ tx s, safeB (c.toNat : Int) = true := by
  unfold isSafe at h
  have ha := (allFrom_iff _ _ _).1 h
  intro c hc
  obtain ⟨i, hi, e⟩ := mem_bt hc
  rw [e]
  exact ha i (by omega) (by omega)
def h8 (n : Nat) : UInt8 := UInt8.ofNat (rd digitsTab (n : Int)).toNat
theorem h8_inj : ∀ a, a < 16 → ∀ b, b < 16 → h8 a = h8 b → a = b := by decide
theorem h8_ne : ∀ a, a < 16 → h8 a ≠ 32 := by decide
def hexL (l : List UInt8) : List UInt8 := l.flatMap fun c => [h8 (c.toNat / 16), h8 (c.toNat % 16)]
theorem hexL_inj : ∀ {a b : List UInt8}, hexL a = hexL b → a = b
  | [], [], _ => rfl
  | [], y :: s, h => by simp [hexL] at h
  | x :: r, [], h => by simp [hexL] at h
  | x :: r, y :: s, h => by
    have hx := x.toNat_lt
    have hy := y.toNat_lt
    simp only [hexL, List.flatMap_cons, List.cons_append, List.nil_append, List.cons.injEq] at h
    have e1 := h8_inj _ (by omega) _ (by omega) h.1
    have e2 := h8_inj _ (by omega) _ (by omega) h.2.1
    have e : x = y := UInt8.toNat_inj.1 (by omega)
    rw [e, hexL_inj h.2.2]
theorem hexL_ne (l : List UInt8) : (32 : UInt8) ∉ hexL l := by
  intro h
  obtain ⟨c, hc, h⟩ := List.mem_flatMap.1 h
  have := c.toNat_lt
  simp only [List.mem_cons, List.not_mem_nil, or_false] at h
  rcases h with h | h
  · exact h8_ne _ (by omega) h.symm
  · exact h8_ne _ (by omega) h.symm
theorem hexFrom_tx (s : ByteArray) (d : Nat) : ∀ i, i + d = s.size → tx (strOfNums (hexFrom s d i)) = hexL ((tx s).drop i) := by
  induction d with
  | zero =>
    intro i hi
    rw [List.drop_of_length_le (by rw [tx_len]; omega)]
    rfl
  | succ d ih =>
    intro i hi
    obtain ⟨c, hc, hb⟩ := bt_get s i (by omega)
    have hlt : i < (tx s).length := (List.getElem?_eq_some_iff.1 hc).1
    have hcc : (tx s)[i] = c := (List.getElem?_eq_some_iff.1 hc).2
    rw [List.drop_eq_getElem_cons hlt, hcc]
    simp only [hexFrom, str_app, tx_app, ih (i + 1) (by omega)]
    show tx (strOfNums (hx (bt s i))) ++ _ = [h8 (c.toNat / 16), h8 (c.toNat % 16)] ++ _
    congr 1
    rw [← hb]
    rfl
theorem quote_hex {s : ByteArray} (h : ¬ (s.size : Int) > 640) (h2 : ¬ isSafe s = true) : tx (quoteS s).1 = 120 :: hexL (tx s) := by
  unfold quoteS
  rw [if_neg h, if_neg h2]
  show tx (strOfNums ([120] ++ hexFrom s s.size 0)) = _
  rw [str_app, tx_app, hexFrom_tx s s.size 0 (by omega)]
  rfl
theorem quote_safe {s : ByteArray} (h : ¬ (s.size : Int) > 640) (h2 : isSafe s = true) : tx (quoteS s).1 = 34 :: (tx s ++ [34]) := by
  unfold quoteS
  rw [if_neg h, if_pos h2]
  show tx (((⟨#[34]⟩ : ByteArray) ++ s) ++ (⟨#[34]⟩ : ByteArray)) = _
  rw [tx_app, tx_app]
  rfl
theorem quote_inj {a b : ByteArray} (ha : ¬ (a.size : Int) > 640) (hb : ¬ (b.size : Int) > 640) (h : tx (quoteS a).1 = tx (quoteS b).1) : a = b := by
  by_cases sa : isSafe a = true
  · rw [quote_safe ha sa] at h
    by_cases sb : isSafe b = true
    · rw [quote_safe hb sb] at h
      exact tx_inj (List.append_cancel_right (List.cons.inj h).2)
    · rw [quote_hex hb sb] at h
      exact absurd (List.cons.inj h).1 (by decide)
  · rw [quote_hex ha sa] at h
    by_cases sb : isSafe b = true
    · rw [quote_safe hb sb] at h
      exact absurd (List.cons.inj h).1 (by decide)
    · rw [quote_hex hb sb] at h
      exact tx_inj (hexL_inj (List.cons.inj h).2)
structure Valid (x : S34) : Prop where
  name : isName x.f0 = true
  kind : x.f1 = 1 ∧ x.f3 = ⟨#[]⟩ ∨ x.f1 = 2 ∧ x.f2 = 0 ∨ x.f1 = 3 ∧ x.f2 = 0 ∧ x.f3 = ⟨#[]⟩
  size : ¬ (x.f3.size : Int) > 640
theorem nil_text {s : ByteArray} (h : s.toList = []) : s = ⟨#[]⟩ := toL_inj.1 (by rw [h, empty_toList])
theorem valid_of {x : S34} (h : chk x = 0) : Valid x := by
  have h' : checkV x.f0 x.f1 x.f2 x.f3 = 0 := h
  obtain ⟨_, hs, hk⟩ := check_name h'
  unfold checkV at h'
  by_cases h1 : isName x.f0 = true
  · rw [if_pos h1] at h'
    by_cases h2 : badB x.f1 x.f2 x.f3 = true
    · rw [if_pos h2] at h'; cases h'
    · have h4 : badB x.f1 x.f2 x.f3 = false := by simpa using h2
      unfold badB at h4
      simp only [Bool.not_eq_false', Bool.and_eq_true, Bool.or_eq_true, decide_eq_true_eq] at h4
      refine ⟨h1, ?_, hs⟩
      rcases hk with k1 | k2 | k3
      · exact .inl ⟨k1, nil_text (h4.2.resolve_right (by omega))⟩
      · exact .inr (.inl ⟨k2, h4.1.2.resolve_right (by omega)⟩)
      · exact .inr (.inr ⟨k3, h4.1.2.resolve_right (by omega), nil_text (h4.2.resolve_right (by omega))⟩)
  · rw [if_neg h1] at h'; cases h'
def nullL : List UInt8 := [40, 110, 117, 108, 108, 41]
theorem body_tx {x : S34} (h : chk x = 0) : tx (fmt34 x) = tx x.f0 ++ 61 :: tx (textV x.f1 x.f2 x.f3) := by
  have h' : checkV x.f0 x.f1 x.f2 x.f3 = 0 := h
  unfold fmt34 fmtV
  rw [if_pos h']
  show tx ((x.f0 ++ (⟨#[61]⟩ : ByteArray)) ++ textV x.f1 x.f2 x.f3) = _
  rw [tx_app, tx_app, List.append_assoc]
  rfl
theorem text1 (n : Int) (s : ByteArray) : tx (textV 1 n s) = Lib.itoa n := rfl
theorem text2 (n : Int) (s : ByteArray) : tx (textV 2 n s) = tx (quoteS s).1 := rfl
theorem text3 (n : Int) (s : ByteArray) : tx (textV 3 n s) = nullL := rfl
theorem quote_head {s : ByteArray} (h : ¬ (s.size : Int) > 640) : ∃ c q, tx (quoteS s).1 = c :: q ∧ (c = 34 ∨ c = 120) := by
  by_cases h2 : isSafe s = true
  · exact ⟨34, _, quote_safe h h2, .inl rfl⟩
  · exact ⟨120, _, quote_hex h h2, .inr rfl⟩
theorem num_quote {n : Int} {s : ByteArray} (h : ¬ (s.size : Int) > 640) (e : Lib.itoa n = tx (quoteS s).1) : False := by
  obtain ⟨c, q, e1, hc⟩ := itoa_head n
  obtain ⟨d, r, e2, hd⟩ := quote_head h
  rw [e1, e2] at e
  have := (List.cons.inj e).1
  subst this
  rcases hd with rfl | rfl
  · rcases hc with hc | hc
    · exact absurd hc.1 (by decide)
    · exact absurd hc (by decide)
  · rcases hc with hc | hc
    · exact absurd hc.2 (by decide)
    · exact absurd hc (by decide)
theorem num_null {n : Int} (e : Lib.itoa n = nullL) : False := by
  obtain ⟨c, q, e1, hc⟩ := itoa_head n
  rw [e1] at e
  have := (List.cons.inj e).1
  subst this
  rcases hc with hc | hc
  · exact absurd hc.1 (by decide)
  · exact absurd hc (by decide)
theorem null_quote {s : ByteArray} (h : ¬ (s.size : Int) > 640) (e : nullL = tx (quoteS s).1) : False := by
  obtain ⟨d, r, e2, hd⟩ := quote_head h
  rw [e2] at e
  have := (List.cons.inj e).1
  subst this
  rcases hd with hd | hd <;> exact absurd hd (by decide)
theorem pair_inj {x y : S34} (hx : chk x = 0) (hy : chk y = 0) (h : tx (fmt34 x) = tx (fmt34 y)) : x = y := by
  have vx := valid_of hx
  have vy := valid_of hy
  rw [body_tx hx, body_tx hy] at h
  obtain ⟨hn, ht⟩ := split_at (fun hm => (mid_ne (name_bytes vx.name _ hm)).2 rfl) (fun hm => (mid_ne (name_bytes vy.name _ hm)).2 rfl) h
  have hn := tx_inj hn
  obtain ⟨xn, xk, xm, xt⟩ := x
  obtain ⟨yn, yk, ym, yt⟩ := y
  have kx := vx.kind
  have ky := vy.kind
  have sx := vx.size
  have sy := vy.size
  simp only at kx ky sx sy hn ht
  subst hn
  rcases kx with ⟨rfl, rfl⟩ | ⟨rfl, rfl⟩ | ⟨rfl, rfl, rfl⟩
  · rcases ky with ⟨rfl, rfl⟩ | ⟨rfl, rfl⟩ | ⟨rfl, rfl, rfl⟩
    · rw [text1, text1] at ht; rw [itoa_inj ht]
    · rw [text1, text2] at ht; exact (num_quote sy ht).elim
    · rw [text1, text3] at ht; exact (num_null ht).elim
  · rcases ky with ⟨rfl, rfl⟩ | ⟨rfl, rfl⟩ | ⟨rfl, rfl, rfl⟩
    · rw [text1, text2] at ht; exact (num_quote sx ht.symm).elim
    · rw [text2, text2] at ht; rw [quote_inj sx sy ht]
    · rw [text2, text3] at ht; exact (null_quote sx ht.symm).elim
  · rcases ky with ⟨rfl, rfl⟩ | ⟨rfl, rfl⟩ | ⟨rfl, rfl, rfl⟩
    · rw [text1, text3] at ht; exact (num_null ht.symm).elim
    · rw [text2, text3] at ht; exact (null_quote sy ht).elim
    · rfl
theorem body_ne {x : S34} (h : chk x = 0) : (32 : UInt8) ∉ tx (fmt34 x) := by
  have vx := valid_of h
  rw [body_tx h]
  intro hm
  rcases List.mem_append.1 hm with hm | hm
  · exact (mid_ne (name_bytes vx.name _ hm)).1 rfl
  · rcases List.mem_cons.1 hm with hm | hm
    · exact absurd hm (by decide)
    · have sx := vx.size
      rcases vx.kind with ⟨e1, e2⟩ | ⟨e1, e2⟩ | ⟨e1, e2, e3⟩
      · rw [e1, text1] at hm
        rcases itoa_bytes _ _ hm with h | h
        · exact absurd h.1 (by decide)
        · exact absurd h (by decide)
      · rw [e1, text2] at hm
        by_cases sa : isSafe x.f3 = true
        · rw [quote_safe sx sa] at hm
          rcases List.mem_cons.1 hm with hm | hm
          · exact absurd hm (by decide)
          · rcases List.mem_append.1 hm with hm | hm
            · exact absurd (safe_bytes sa _ hm) (by decide)
            · exact absurd (List.mem_singleton.1 hm) (by decide)
        · rw [quote_hex sx sa] at hm
          rcases List.mem_cons.1 hm with hm | hm
          · exact absurd hm (by decide)
          · exact hexL_ne _ hm
      · rw [e1, text3] at hm
        exact absurd hm (by decide)
def tailL (ps : List S34) : List UInt8 := ps.flatMap fun x => 32 :: tx (fmt34 x)
theorem tail_ends (ps : List S34) : Ends 32 (tailL ps) := by
  cases ps with
  | nil => exact .inl rfl
  | cons x r => exact .inr ⟨tx (fmt34 x) ++ tailL r, by simp [tailL]⟩
theorem tail_inj : ∀ {a b : List S34}, (∀ x ∈ a, chk x = 0) → (∀ x ∈ b, chk x = 0) → tailL a = tailL b → a = b
  | [], [], _, _, _ => rfl
  | [], y :: s, _, _, h => by simp [tailL] at h
  | x :: r, [], _, _, h => by simp [tailL] at h
  | x :: r, y :: s, ha, hb, h => by
    simp only [tailL, List.flatMap_cons, List.cons_append, List.cons.injEq, true_and] at h
    obtain ⟨h1, h2⟩ := split_end (body_ne (ha x (List.mem_cons_self ..))) (body_ne (hb y (List.mem_cons_self ..))) (tail_ends r) (tail_ends s) h
    rw [pair_inj (ha x (List.mem_cons_self ..)) (hb y (List.mem_cons_self ..)) h1, tail_inj (fun z hz => ha z (List.mem_cons_of_mem _ hz)) (fun z hz => hb z (List.mem_cons_of_mem _ hz)) h2]
theorem textPairs_tx : ∀ (ps : List S34) (s : ByteArray), tx (textPairs ps s) = tx s ++ tailL ps
  | [], s => by simp [textPairs, tailL]
  | p :: r, s => by
    simp only [textPairs]
    rw [textPairs_tx r, tx_app, tx_app]
    simp only [tailL, List.flatMap_cons, List.append_assoc]
    rfl
def ms3 (time : Int) : List UInt8 := tx (head2 time)
theorem head_tx (t time serial : Int) : tx (lineHead t time serial) = [116, 121, 112, 101, 61] ++ (tx (typeName t) ++ 32 :: ([109, 115, 103, 61, 97, 117, 100, 105, 116, 40] ++ (Lib.itoa (Int.tdiv time 1000) ++ 46 :: (ms3 time ++ 58 :: (Lib.itoa serial ++ 41 :: [58]))))) := by
  unfold lineHead head1 head3 ms3
  simp only [tx_app, tx_mk, List.append_assoc]
  rfl
theorem find_row {t : Int} (h : ¬ (typeName t).toList = []) : ∃ x ∈ typesTab, findT t 0 = some x ∧ x.2.1 = t ∧ tx (typeName t) = x.1 := by
  cases hf : findT t 0 with
  | none => exact absurd (by unfold typeName; rw [hf]; exact empty_toList) h
  | some x =>
    have hm := List.mem_of_find?_eq_some hf
    have he := List.find?_some hf
    refine ⟨x, hm, rfl, by simpa using he, ?_⟩
    unfold typeName
    rw [hf]
    rfl
theorem type_inj {t t' : Int} (h : ¬ (typeName t).toList = []) (h' : ¬ (typeName t').toList = []) (e : tx (typeName t) = tx (typeName t')) : t = t' := by
  obtain ⟨x, hx, _, x1, x2⟩ := find_row h
  obtain ⟨y, hy, _, y1, y2⟩ := find_row h'
  have hall : ∀ x ∈ typesTab, ∀ y ∈ typesTab, x.1 = y.1 → x.2.1 = y.2.1 := by decide
  rw [x2, y2] at e
  rw [← x1, ← y1]
  exact hall x hx y hy e
theorem type_ne {t : Int} (h : ¬ (typeName t).toList = []) : (32 : UInt8) ∉ tx (typeName t) := by
  obtain ⟨x, hx, _, _, x2⟩ := find_row h
  have hall : ∀ x ∈ typesTab, (32 : UInt8) ∉ x.1 := by decide
  rw [x2]
  exact hall x hx
theorem ms3_eq {a : Int} (h0 : 0 ≤ a) : ms3 a = [UInt8.ofNat (48 + (a % 1000).toNat / 100), UInt8.ofNat (48 + (a % 1000).toNat / 10 % 10), UInt8.ofNat (48 + (a % 1000).toNat % 10)] := by
  have e : Int.tmod a 1000 = a % 1000 := Int.tmod_eq_emod_of_nonneg h0
  obtain ⟨m, hm⟩ : ∃ m : Nat, a % 1000 = (m : Int) := ⟨(a % 1000).toNat, by omega⟩
  unfold ms3 head2 msS
  rw [e, hm, itoa_pos (by omega), tx_app, tx_mk, tx_mk, Int.toNat_natCast]
  have h := three_text m (by omega)
  rw [Lib.decDigits_one (i := m / 100) (by omega), Lib.decDigits_one (i := m / 10 % 10) (by omega), Lib.decDigits_one (i := m % 10) (by omega)] at h
  exact h
theorem ofNat_inj {m n : Nat} (hm : m < 256) (hn : n < 256) (h : UInt8.ofNat m = UInt8.ofNat n) : m = n := by rw [← ofNat_toNat hm, h, ofNat_toNat hn]
theorem ms3_inj {a b : Int} (ha : 0 ≤ a) (hb : 0 ≤ b) (h : ms3 a = ms3 b) : a % 1000 = b % 1000 := by
  rw [ms3_eq ha, ms3_eq hb] at h
  simp only [List.cons.injEq, and_true] at h
  have e1 := ofNat_inj (by omega) (by omega) h.1
  have e2 := ofNat_inj (by omega) (by omega) h.2.1
  have e3 := ofNat_inj (by omega) (by omega) h.2.2
  omega
theorem ms3_ne {a : Int} (h0 : 0 ≤ a) : (58 : UInt8) ∉ ms3 a := by
  rw [ms3_eq h0]
  intro h
  simp only [List.mem_cons, List.not_mem_nil, or_false] at h
  have e58 : ∀ n, n < 256 → (58 : UInt8) = UInt8.ofNat n → n = 58 := fun n hn h => by
    have := congrArg UInt8.toNat h
    rw [ofNat_toNat hn] at this
    exact this.symm
  rcases h with h | h | h
  · have := e58 _ (by omega) h; omega
  · have := e58 _ (by omega) h; omega
  · have := e58 _ (by omega) h; omega
theorem itoa_not {n : Int} {c : UInt8} (h : ¬ (isDig c ∨ c = 45)) : c ∉ Lib.itoa n := fun hm => h (itoa_bytes n c hm)
theorem line_inj {a b : S50} (ha : checkR a.f0 a.f1 a.f2 a.f3 = 0) (hb : checkR b.f0 b.f1 b.f2 b.f3 = 0) (h : (formatR a.f0 a.f1 a.f2 a.f3).1 = (formatR b.f0 b.f1 b.f2 b.f3).1) : a = b := by
  obtain ⟨a1, a2, a3, a4⟩ := checkR_ok ha
  obtain ⟨b1, b2, b3, b4⟩ := checkR_ok hb
  have na : ¬ (typeName a.f0).toList = [] := fun e => by unfold checkR at ha; rw [if_pos e] at ha; cases ha
  have nb : ¬ (typeName b.f0).toList = [] := fun e => by unfold checkR at hb; rw [if_pos e] at hb; cases hb
  unfold formatR at h
  rw [if_pos ha, if_pos hb] at h
  have h := congrArg tx h
  simp only [textPairs_tx, head_tx, List.append_assoc, List.cons_append, List.nil_append, List.cons.injEq, true_and] at h
  obtain ⟨e1, h⟩ := split_at (type_ne na) (type_ne nb) h
  simp only [List.cons.injEq, true_and] at h
  obtain ⟨e2, h⟩ := split_at (itoa_not (by unfold isDig; decide)) (itoa_not (by unfold isDig; decide)) h
  obtain ⟨e3, h⟩ := split_at (ms3_ne a1.1) (ms3_ne b1.1) h
  obtain ⟨e4, h⟩ := split_at (itoa_not (by unfold isDig; decide)) (itoa_not (by unfold isDig; decide)) h
  simp only [List.cons.injEq, true_and] at h
  have e1 := type_inj na nb e1
  have e2 := itoa_inj e2
  have e3 := ms3_inj a1.1 b1.1 e3
  have e4 := itoa_inj e4
  have e5 := tail_inj a4 b4 h
  rw [Int.tdiv_eq_ediv_of_nonneg a1.1, Int.tdiv_eq_ediv_of_nonneg b1.1] at e2
  have e23 : a.f1 = b.f1 := by omega
  cases a; cases b; simp_all
end Go.Proofs.YtjnlmmjadlidlaaDoor.Pure3
end
section
namespace Go.Proofs.YtjnlmmjadlidlaaDoor.Pure3
open Go.RowKit Go.Proofs.YtjnlmmjadlidlaaDoor.PRec Go.Proofs.YtjnlmmjadlidlaaDoorW.PrintWords
def cwdP : S34 := ⟨(⟨#[99, 119, 100]⟩ : ByteArray), 2, 0, (⟨#[47, 116, 109, 112]⟩ : ByteArray)⟩
theorem cwd_check : checkR 1307 12345 7 [cwdP] = 0 := by decide +kernel
theorem cwd_text : fmt34 cwdP = ⟨#[99, 119, 100, 61, 34, 47, 116, 109, 112, 34]⟩ := by
  have h : chk cwdP = 0 := by decide +kernel
  have h' : checkV cwdP.f0 cwdP.f1 cwdP.f2 cwdP.f3 = 0 := h
  unfold fmt34 fmtV
  rw [if_pos h']
  show (cwdP.f0 ++ (⟨#[61]⟩ : ByteArray)) ++ textV 2 0 cwdP.f3 = _
  unfold textV
  rw [if_neg (by decide), if_pos rfl]
  unfold quoteS
  rw [if_neg (by decide), if_pos (by decide +kernel)]
  decide +kernel
theorem cwd_head : lineHead 1307 12345 7 = ⟨#[116, 121, 112, 101, 61, 67, 87, 68, 32, 109, 115, 103, 61, 97, 117, 100, 105, 116, 40, 49, 50, 46, 51, 52, 53, 58, 55, 41, 58]⟩ := by
  have e1 : Lib.itoa (Int.tdiv 12345 1000) = [49, 50] := by
    rw [show Int.tdiv 12345 1000 = 12 from rfl, itoa_pos (by decide), show (12 : Int).toNat = 12 from rfl, Lib.decDigits_two (by omega) (by omega)]
    rfl
  have e2 : Lib.itoa (Int.tmod 12345 1000) = [51, 52, 53] := by
    rw [show Int.tmod 12345 1000 = 345 from rfl, itoa_pos (by decide), show (345 : Int).toNat = 345 from rfl, Lib.decDigits, dif_neg (by omega), Lib.decDigits_two (by omega) (by omega)]
    rfl
  have e3 : Lib.itoa 7 = [55] := by
    rw [itoa_pos (by decide), show (7 : Int).toNat = 7 from rfl, Lib.decDigits_one (by omega)]
    rfl
  have e4 : typeName 1307 = ⟨#[67, 87, 68]⟩ := by rfl
  unfold lineHead head1 head2 head3 msS
  rw [e1, e2, e3, e4]
  rfl
theorem awake_ev : Ev (fun k => kauditlaw03_awake.f k) true := by
  unfold kauditlaw03_awake.f
  refine Ev.bind (format_ev 1307 12345 7 [cwdP] (fun x hx => by rw [List.mem_singleton.1 hx]; exact ⟨by decide, by decide⟩)) ?_
  have e : formatR 1307 12345 7 [cwdP] = (⟨#[116, 121, 112, 101, 61, 67, 87, 68, 32, 109, 115, 103, 61, 97, 117, 100, 105, 116, 40, 49, 50, 46, 51, 52, 53, 58, 55, 41, 58, 32, 99, 119, 100, 61, 34, 47, 116, 109, 112, 34]⟩, 0) := by
    unfold formatR
    rw [if_pos cwd_check]
    simp only [textPairs]
    rw [cwd_text, cwd_head]
    rfl
  rw [e]
  refine Ev.congr (fun k => ?_) (Ev.now true)
  rw [if_pos rfl]
  simp [ByteArray.toList_eq]
end Go.Proofs.YtjnlmmjadlidlaaDoor.Pure3
end
section
namespace Go.Proofs.YtjnlmmjadlidlaaDoor.PRec
open Go.RowKit Go.Proofs.YtjnlmmjadlidlaaDoorW.PrintWords Go.Proofs.YtjnlmmjadlidlaaDoorW.PrintLast Go.Proofs.YtjnlmmjadlidlaaDoorW.PrintMore
attribute [local go_sem] max2_int min2_int max_two min_two max_three min_three max_four min_four
set_option linter.unusedVariables false
set_option linter.unusedSimpArgs false
def kauditlaw03_RecordDiffer.j0 : Nat → Int → Int → Int → List (S34) → Int → Int → Int → List (S34) → Option (Bool)
  | 0, _, _, _, _, _, _, _, _ => none
  | k + 1, x396000, x396001, x396002, x396003, x397000, x397001, x397002, x397003 => (record_Format.f k x396000 x396001 x396002 x396003).bind fun bt419 => ((record_Format.f k x397000 x397001 x397002 x397003).bind fun bt421 => (if bt419.2 = 0 then (if bt421.2 = 0 then ((kauditref03_Same.f k x396000 x396001 x396002 x396003 x397000 x397001 x397002 x397003).bind fun t423 => (if ((bt419.1.toList == bt421.1.toList) == t423) = true then ((kauditlaw03_awake.f k).bind fun t424 => (some t424)) else (some false))) else ((kauditlaw03_awake.f k).bind fun t425 => (some t425))) else ((kauditlaw03_awake.f k).bind fun t426 => (some t426))))
def kauditlaw03_RecordDiffer.f (k : Nat) (l0 : List Int) : Option (Bool) := (kauditmake_New.f l0).bind fun bt385 => ((kauditmake_Src_Record.f k bt385.1 bt385.2).bind fun bt388 => ((kauditmake_Src_N.f bt385.1 bt388.2.2.2.2 4).bind fun bt397 => (if bt397.1 = 0 then ((kauditmake_Src_Record.f k bt385.1 bt397.2).bind fun bt399 => (kauditlaw03_RecordDiffer.j0 k bt388.1 bt388.2.1 bt388.2.2.1 bt388.2.2.2.1 bt399.1 bt399.2.1 bt399.2.2.1 bt399.2.2.2.1)) else (if bt397.1 = 1 then ((kauditmake_Src_N.f bt385.1 bt397.2 2).bind fun bt406 => (kauditlaw03_RecordDiffer.j0 k bt388.1 bt388.2.1 bt388.2.2.1 bt388.2.2.2.1 bt388.1 (wrap64 (bt388.2.1 + bt406.1)) bt388.2.2.1 bt388.2.2.2.1)) else (if bt397.1 = 2 then (if ([] : List (S34)).length + bt388.2.2.2.1.length < 2932031007402 then ((some (([] : List (S34)) ++ bt388.2.2.2.1 : List (S34))).bind fun y408 => ((kauditmake_Src_Pair.f k bt385.1 bt397.2).bind fun bt411 => (if y408.length < 2932031007402 then (kauditlaw03_RecordDiffer.j0 k bt388.1 bt388.2.1 bt388.2.2.1 bt388.2.2.2.1 bt388.1 bt388.2.1 bt388.2.2.1 (y408 ++ [(⟨bt411.1, bt411.2.1, bt411.2.2.1, bt411.2.2.2.1⟩ : S34)])) else (none)))) else (none)) else (kauditlaw03_RecordDiffer.j0 k bt388.1 bt388.2.1 bt388.2.2.1 bt388.2.2.2.1 bt388.1 bt388.2.1 bt388.2.2.1 bt388.2.2.2.1))))))
theorem kauditlaw03_RecordDiffer.mono_l : ∀ k, (∀ y0 y1 y2 y3 y4 y5 y6 y7, LeO (kauditlaw03_RecordDiffer.j0 k y0 y1 y2 y3 y4 y5 y6 y7) (kauditlaw03_RecordDiffer.j0 (k + 1) y0 y1 y2 y3 y4 y5 y6 y7))
  | 0 => fun _ _ _ _ _ _ _ _ r h => by simp [kauditlaw03_RecordDiffer.j0] at h
  | k + 1 => by
    have ih0 := kauditlaw03_RecordDiffer.mono_l k
    · intro y0 y1 y2 y3 y4 y5 y6 y7
      unfold kauditlaw03_RecordDiffer.j0
      repeat' first
      | (with_reducible exact ih0 _ _ _ _ _ _ _ _)
      | (with_reducible exact kauditlaw03_awake.mono _)
      | (with_reducible exact kauditmake_Src_Pair.mono _ _ _)
      | (with_reducible exact kauditmake_Src_Record.mono _ _ _)
      | (with_reducible exact kauditref03_Same.mono _ _ _ _ _ _ _ _ _)
      | (with_reducible exact record_Format.mono _ _ _ _ _)
      | (with_reducible exact LeO.refl _)
      | (with_reducible exact LeO.none _)
      | (with_reducible refine LeO.ite ?_ ?_)
      | (with_reducible refine LeO.bind ?_ (fun _ => ?_))
      | exact ih0 _ _ _ _ _ _ _ _
      | exact kauditlaw03_awake.mono _
      | exact kauditmake_Src_Pair.mono _ _ _
      | exact kauditmake_Src_Record.mono _ _ _
      | exact kauditref03_Same.mono _ _ _ _ _ _ _ _ _
      | exact record_Format.mono _ _ _ _ _
      | exact LeO.none _
      | refine LeO.ite ?_ ?_
      | refine LeO.bind ?_ (fun _ => ?_)
theorem kauditlaw03_RecordDiffer.mono : ∀ a0 k, LeO (kauditlaw03_RecordDiffer.f k a0) (kauditlaw03_RecordDiffer.f (k + 1) a0) := by
  intro a0 k
  have ih0 := kauditlaw03_RecordDiffer.mono_l k
  unfold kauditlaw03_RecordDiffer.f
  repeat' first
      | (with_reducible exact ih0 _ _ _ _ _ _ _ _)
      | (with_reducible exact kauditlaw03_awake.mono _)
      | (with_reducible exact kauditmake_Src_Pair.mono _ _ _)
      | (with_reducible exact kauditmake_Src_Record.mono _ _ _)
      | (with_reducible exact kauditref03_Same.mono _ _ _ _ _ _ _ _ _)
      | (with_reducible exact record_Format.mono _ _ _ _ _)
      | (with_reducible exact LeO.refl _)
      | (with_reducible exact LeO.none _)
      | (with_reducible refine LeO.ite ?_ ?_)
      | (with_reducible refine LeO.bind ?_ (fun _ => ?_))
      | exact ih0 _ _ _ _ _ _ _ _
      | exact kauditlaw03_awake.mono _
      | exact kauditmake_Src_Pair.mono _ _ _
      | exact kauditmake_Src_Record.mono _ _ _
      | exact kauditref03_Same.mono _ _ _ _ _ _ _ _ _
      | exact record_Format.mono _ _ _ _ _
      | exact LeO.none _
      | refine LeO.ite ?_ ?_
      | refine LeO.bind ?_ (fun _ => ?_)
set_option maxHeartbeats 8000000 in
set_option maxRecDepth 100000 in
theorem kauditlaw03_RecordDiffer.calls (k : Nat) (A0 : Option Addr) (c0 : Nat) (l0 : List Int) (r : Bool) (w : World) (hr0 : Kd.C (Kd.int .i64) w A0 l0.length l0) (hc0 : l0.length ≤ c0) (hG : GL w) (h : kauditlaw03_RecordDiffer.f k l0 = some r) :
    Calls Tryd.prog 7 #[.slice A0 l0.length c0] w fun e w' => e = .returned (.bool r) ∧ Below w.heap.size w w' := by
  have hu50 := Tryd.underlying50
  have HR0 := Aside0.mk hr0
  have HC0 := Aside0.mk hc0
  clear hr0 hc0
  have HB := Aside0.mk (Below.refl w.heap.size w)
  have HGL := Aside0.mk hG
  clear hG
  have H : ((kauditmake_New.f l0).bind fun bt385 => ((kauditmake_Src_Record.f k bt385.1 bt385.2).bind fun bt388 => ((kauditmake_Src_N.f bt385.1 bt388.2.2.2.2 4).bind fun bt397 => (if bt397.1 = 0 then ((kauditmake_Src_Record.f k bt385.1 bt397.2).bind fun bt399 => (kauditlaw03_RecordDiffer.j0 k bt388.1 bt388.2.1 bt388.2.2.1 bt388.2.2.2.1 bt399.1 bt399.2.1 bt399.2.2.1 bt399.2.2.2.1)) else (if bt397.1 = 1 then ((kauditmake_Src_N.f bt385.1 bt397.2 2).bind fun bt406 => (kauditlaw03_RecordDiffer.j0 k bt388.1 bt388.2.1 bt388.2.2.1 bt388.2.2.2.1 bt388.1 (wrap64 (bt388.2.1 + bt406.1)) bt388.2.2.1 bt388.2.2.2.1)) else (if bt397.1 = 2 then (if ([] : List (S34)).length + bt388.2.2.2.1.length < 2932031007402 then ((some (([] : List (S34)) ++ bt388.2.2.2.1 : List (S34))).bind fun y408 => ((kauditmake_Src_Pair.f k bt385.1 bt397.2).bind fun bt411 => (if y408.length < 2932031007402 then (kauditlaw03_RecordDiffer.j0 k bt388.1 bt388.2.1 bt388.2.2.1 bt388.2.2.2.1 bt388.1 bt388.2.1 bt388.2.2.1 (y408 ++ [(⟨bt411.1, bt411.2.1, bt411.2.2.1, bt411.2.2.2.1⟩ : S34)])) else (none)))) else (none)) else (kauditlaw03_RecordDiffer.j0 k bt388.1 bt388.2.1 bt388.2.2.1 bt388.2.2.2.1 bt388.1 bt388.2.1 bt388.2.2.1 bt388.2.2.2.1))))))) = some r := h
  clear h
  replace H := Option.bind_eq_some_iff.mp H
  obtain ⟨⟨t385, t386⟩, A20, H⟩ := H
  replace H : ((kauditmake_Src_Record.f k t385 t386).bind fun bt388 => ((kauditmake_Src_N.f t385 bt388.2.2.2.2 4).bind fun bt397 => (if bt397.1 = 0 then ((kauditmake_Src_Record.f k t385 bt397.2).bind fun bt399 => (kauditlaw03_RecordDiffer.j0 k bt388.1 bt388.2.1 bt388.2.2.1 bt388.2.2.2.1 bt399.1 bt399.2.1 bt399.2.2.1 bt399.2.2.2.1)) else (if bt397.1 = 1 then ((kauditmake_Src_N.f t385 bt397.2 2).bind fun bt406 => (kauditlaw03_RecordDiffer.j0 k bt388.1 bt388.2.1 bt388.2.2.1 bt388.2.2.2.1 bt388.1 (wrap64 (bt388.2.1 + bt406.1)) bt388.2.2.1 bt388.2.2.2.1)) else (if bt397.1 = 2 then (if ([] : List (S34)).length + bt388.2.2.2.1.length < 2932031007402 then ((some (([] : List (S34)) ++ bt388.2.2.2.1 : List (S34))).bind fun y408 => ((kauditmake_Src_Pair.f k t385 bt397.2).bind fun bt411 => (if y408.length < 2932031007402 then (kauditlaw03_RecordDiffer.j0 k bt388.1 bt388.2.1 bt388.2.2.1 bt388.2.2.2.1 bt388.1 bt388.2.1 bt388.2.2.1 (y408 ++ [(⟨bt411.1, bt411.2.1, bt411.2.2.1, bt411.2.2.2.1⟩ : S34)])) else (none)))) else (none)) else (kauditlaw03_RecordDiffer.j0 k bt388.1 bt388.2.1 bt388.2.2.1 bt388.2.2.2.1 bt388.1 bt388.2.1 bt388.2.2.1 bt388.2.2.2.1)))))) = some r := H
  have A2 := Aside0.mk A20
  clear A20
  replace H := Option.bind_eq_some_iff.mp H
  obtain ⟨⟨t388, t389, t390, t391, t394⟩, A30, H⟩ := H
  replace H : ((kauditmake_Src_N.f t385 t394 4).bind fun bt397 => (if bt397.1 = 0 then ((kauditmake_Src_Record.f k t385 bt397.2).bind fun bt399 => (kauditlaw03_RecordDiffer.j0 k t388 t389 t390 t391 bt399.1 bt399.2.1 bt399.2.2.1 bt399.2.2.2.1)) else (if bt397.1 = 1 then ((kauditmake_Src_N.f t385 bt397.2 2).bind fun bt406 => (kauditlaw03_RecordDiffer.j0 k t388 t389 t390 t391 t388 (wrap64 (t389 + bt406.1)) t390 t391)) else (if bt397.1 = 2 then (if ([] : List (S34)).length + t391.length < 2932031007402 then ((some (([] : List (S34)) ++ t391 : List (S34))).bind fun y408 => ((kauditmake_Src_Pair.f k t385 bt397.2).bind fun bt411 => (if y408.length < 2932031007402 then (kauditlaw03_RecordDiffer.j0 k t388 t389 t390 t391 t388 t389 t390 (y408 ++ [(⟨bt411.1, bt411.2.1, bt411.2.2.1, bt411.2.2.2.1⟩ : S34)])) else (none)))) else (none)) else (kauditlaw03_RecordDiffer.j0 k t388 t389 t390 t391 t388 t389 t390 t391))))) = some r := H
  have A3 := Aside0.mk A30
  clear A30
  replace H := Option.bind_eq_some_iff.mp H
  obtain ⟨⟨t397, t398⟩, A40, H⟩ := H
  replace H : (if t397 = 0 then ((kauditmake_Src_Record.f k t385 t398).bind fun bt399 => (kauditlaw03_RecordDiffer.j0 k t388 t389 t390 t391 bt399.1 bt399.2.1 bt399.2.2.1 bt399.2.2.2.1)) else (if t397 = 1 then ((kauditmake_Src_N.f t385 t398 2).bind fun bt406 => (kauditlaw03_RecordDiffer.j0 k t388 t389 t390 t391 t388 (wrap64 (t389 + bt406.1)) t390 t391)) else (if t397 = 2 then (if ([] : List (S34)).length + t391.length < 2932031007402 then ((some (([] : List (S34)) ++ t391 : List (S34))).bind fun y408 => ((kauditmake_Src_Pair.f k t385 t398).bind fun bt411 => (if y408.length < 2932031007402 then (kauditlaw03_RecordDiffer.j0 k t388 t389 t390 t391 t388 t389 t390 (y408 ++ [(⟨bt411.1, bt411.2.1, bt411.2.2.1, bt411.2.2.2.1⟩ : S34)])) else (none)))) else (none)) else (kauditlaw03_RecordDiffer.j0 k t388 t389 t390 t391 t388 t389 t390 t391)))) = some r := H
  have A4 := Aside0.mk A40
  clear A40
  have HC5 := Aside0.mk H
  clear H
  go_enter Tryd.func7, Tryd.ntmps7
  go_upto_block 0 with (first | ((with_reducible refine gate_callee (f := 32) rfl ?_); refine goesL_ (some 11) rfl rfl Tryd.func32 (by kernel_rfl) rfl #[.slice A0 l0.length c0] rfl (by (try simp only [List.map_toArray, List.map_cons, List.map_nil]); first | done | rfl | (simp only [List.length_drop, List.length_take]; rfl)) ?_; (with_reducible refine (kauditmake_New.calls _ _ l0 t385 t386 w _ ?side1 ?side2 ?side3 A2.out).mono ?_); (case side1 => repeat (first | (with_reducible first | exact HB.out | apply below_alloc | apply pw_below_drewN | apply below_drew1) | exact HB.out)); (case side2 => exact HR0.out); (case side3 => exact HC0.out); rintro e w6 ⟨g387, rfl, hi, hb, hb2⟩; refine ⟨_, rfl, ?_⟩; have n0_ := Aside0.mk (hb); have n1_ := Aside0.mk (hi); clear HB; have HB := n0_; have HI387 := n1_; clear n0_ n1_; (try clear hb); (try clear hb2); (try clear hk); (try clear hi)) | ((with_reducible refine gate_callee (f := 33) rfl ?_); refine goesL_ (some 13) rfl rfl Tryd.func33 (by kernel_rfl) rfl #[.pointer (some ⟨g387, 0, none⟩)] rfl (by (try simp only [List.map_toArray, List.map_cons, List.map_nil]); first | done | rfl | (simp only [List.length_drop, List.length_take]; rfl)) ?_; (with_reducible refine (kauditmake_Src_Record.calls k g387 t385 t386 t388 t389 t390 t391 t394 w _ ?side1 ?side2 A3.out).mono ?_); (case side1 => repeat (first | (with_reducible first | exact HI387.out | apply IsS107.alloc | apply IsS107.drewN | apply IsS107.drew | apply IsS107.set_1) | exact HI387.out)); (case side2 => repeat (first | (with_reducible first | exact HB.out | apply below_alloc | apply pw_below_drewN | apply below_drew1 | refine below_set ?_ (IsS107.ge HI387.out)) | exact HB.out)); rintro e w7 ⟨v392, rfl, ho0, hi, hb, hk⟩; refine ⟨_, rfl, ?_⟩; have n0_ := Aside0.mk (Kd.R_lower ho0 (below_size (by repeat (first | (with_reducible first | exact HB.out | apply below_alloc | apply pw_below_drewN | apply below_drew1 | refine below_set ?_ (IsS107.ge HI387.out)) | exact HB.out)))); have n1_ := Aside0.mk (hb); have n2_ := Aside0.mk (hi); clear HB; clear HI387; have HO393 := n0_; have HB := n1_; have HI387 := n2_; clear n0_ n1_ n2_; (try clear hb); (try clear hb2); (try clear hk); (try clear hi); (try clear ho0)) | ((with_reducible refine gate_dst (N := 4) rfl ?_); refine box_event ?hg (N := 4) ?hd (cs := #[.int .i64 0, .int .i64 0, .int .i64 0, .slice none 0 0]) (t := 50) ?hr ?_; (case hd => rfl); (case hg => rfl); (case hr => first | (go_simp; done) | (go_simp; rfl)); intro gb395 hg w8 hbox hb; have n0_ := Aside0.mk (Kd.R_below (by (with_reducible repeat (first | apply Kd.R_alloc | apply Kd.R_drewN | apply Kd.R_drew)); exact HO393.out) hb); have n1_ := Aside0.mk (IsS107.below (by repeat (first | (with_reducible first | exact HI387.out | apply IsS107.alloc | apply IsS107.drewN | apply IsS107.drew | apply IsS107.set_1) | exact HI387.out)) hb); have n2_ := Aside0.mk (below_step (by repeat (first | (with_reducible first | exact HB.out | apply below_alloc | apply pw_below_drewN | apply below_drew1 | refine below_set ?_ (IsS107.ge HI387.out)) | exact HB.out)) hb); have n3_ := Aside0.mk (hbox); have n4_ := Aside0.mk ((by rw [hg]; exact (below_size (by repeat (first | (with_reducible first | exact HB.out | apply below_alloc | apply pw_below_drewN | apply below_drew1 | refine below_set ?_ (IsS107.ge HI387.out)) | exact HB.out))) : w.heap.size ≤ gb395)); have n5_ := Aside0.mk ((by rw [hg]; exact (below_size (by repeat (first | (with_reducible first | exact HB.out | apply below_alloc | apply pw_below_drewN | apply below_drew1 | refine below_set ?_ (IsS107.ge HI387.out)) | exact HB.out))) : w.heap.size ≤ gb395)); have n6_ := Aside0.mk ((by rw [hg]; exact Nat.ne_of_lt (IsS107.lt (show IsS107 w _ g387 t385 t394 from by repeat (first | (with_reducible first | exact HI387.out | apply IsS107.alloc | apply IsS107.drewN | apply IsS107.drew | apply IsS107.set_1) | exact HI387.out))) : g387 ≠ gb395)); have n7_ := Aside0.mk ((by rw [hg]; exact Nat.ne_of_gt (IsS107.lt (show IsS107 w _ g387 t385 t394 from by repeat (first | (with_reducible first | exact HI387.out | apply IsS107.alloc | apply IsS107.drewN | apply IsS107.drew | apply IsS107.set_1) | exact HI387.out))) : gb395 ≠ g387)); clear HO393; clear HI387; clear HB; have HO393 := n0_; have HI387 := n1_; have HB := n2_; have BK395 := n3_; have GW395 := n4_; have GE395 := n5_; have NB387_395 := n6_; have NB395_387 := n7_; clear n0_ n1_ n2_ n3_ n4_ n5_ n6_ n7_; clear hb hbox hg; have hnb9 := NB395_387.out; have hnc9 := NB387_395.out; have hcz10_0 : w8.cell? ⟨gb395, 0, none⟩ = some (.int .i64 0) := (blk_cell BK395.out 0).trans rfl; have hcz10_1 : w8.cell? ⟨gb395, 1, none⟩ = some (.int .i64 0) := (blk_cell BK395.out 1).trans rfl; have hcz10_2 : w8.cell? ⟨gb395, 2, none⟩ = some (.int .i64 0) := (blk_cell BK395.out 2).trans rfl; have hcz10_3 : w8.cell? ⟨gb395, 3, none⟩ = some (.slice none 0 0) := (blk_cell BK395.out 3).trans rfl; have hfz10_0 := blk_frozen BK395.out 0; have hfz10_1 := blk_frozen BK395.out 1; have hfz10_2 := blk_frozen BK395.out 2; have hfz10_3 := blk_frozen BK395.out 3; obtain ⟨Ao11, co11, eo11⟩ := Kd.R_slice HO393.out; subst eo11) | ((with_reducible refine gate_dst (N := 5) rfl ?_); refine box_event ?hg (N := 5) ?hd (cs := #[.int .i64 0, .int .i64 0, .int .i64 0, .slice none 0 0]) (t := 50) ?hr ?_; (case hd => rfl); (case hg => rfl); (case hr => first | (go_simp; done) | (go_simp; rfl)); intro gb396 hg w12 hbox hb; have n0_ := Aside0.mk (Kd.R_below (by (with_reducible repeat (first | apply Kd.R_alloc | apply Kd.R_drewN | apply Kd.R_drew)); exact (Kd.R_mono (Kd.R_far (p := ⟨gb395, 3, none⟩) (Kd.R_far (p := ⟨gb395, 2, none⟩) (Kd.R_far (p := ⟨gb395, 1, none⟩) (Kd.R_far (p := ⟨gb395, 0, none⟩) (Kd.R_types HO393.out BK395.out (by decide)) (fun _ hk => hk.2) (.int .i64 t388)) (fun _ hk => hk.2) (.int .i64 t389)) (fun _ hk => hk.2) (.int .i64 t390)) (fun _ hk => hk.2) (.slice Ao11 t391.length co11)) (fun _ h_ => h_.1))) hb); have n1_ := Aside0.mk (IsS107.below (show IsS107 w ((((w8.setCell ⟨gb395, 0, none⟩ (.int .i64 t388)).setCell ⟨gb395, 1, none⟩ (.int .i64 t389)).setCell ⟨gb395, 2, none⟩ (.int .i64 t390)).setCell ⟨gb395, 3, none⟩ (.slice Ao11 t391.length co11)) g387 t385 t394 from by repeat (first | (with_reducible first | exact HI387.out | apply IsS107.alloc | apply IsS107.drewN | apply IsS107.drew | apply IsS107.set_1 | refine IsS107.far ?_ NB387_395.out _) | exact HI387.out)) hb); have n2_ := Aside0.mk (blk_below (g := gb395) (o := .cells #[.int .i64 t388, .int .i64 t389, .int .i64 t390, .slice Ao11 t391.length co11] 50 (0, 0)) (by (with_reducible repeat (first | refine blk_drewN ?_ _ | refine blk_drew ?_ | refine blk_alloc ?_ _)); refine blk_put (cs := #[.int .i64 t388, .int .i64 t389, .int .i64 t390, .slice none 0 0]) ?_ 3 _ rfl; (with_reducible repeat (first | refine blk_drewN ?_ _ | refine blk_drew ?_ | refine blk_alloc ?_ _)); refine blk_put (cs := #[.int .i64 t388, .int .i64 t389, .int .i64 0, .slice none 0 0]) ?_ 2 _ rfl; (with_reducible repeat (first | refine blk_drewN ?_ _ | refine blk_drew ?_ | refine blk_alloc ?_ _)); refine blk_put (cs := #[.int .i64 t388, .int .i64 0, .int .i64 0, .slice none 0 0]) ?_ 1 _ rfl; (with_reducible repeat (first | refine blk_drewN ?_ _ | refine blk_drew ?_ | refine blk_alloc ?_ _)); refine blk_put (cs := #[.int .i64 0, .int .i64 0, .int .i64 0, .slice none 0 0]) ?_ 0 _ rfl; (with_reducible repeat (first | refine blk_drewN ?_ _ | refine blk_drew ?_ | refine blk_alloc ?_ _)); exact BK395.out) hb); have n3_ := Aside0.mk (below_step (by repeat (first | (with_reducible first | exact HB.out | apply below_alloc | apply pw_below_drewN | apply below_drew1 | refine below_set ?_ (IsS107.ge HI387.out) | refine below_set ?_ GE395.out) | exact HB.out)) hb); have n4_ := Aside0.mk (hbox); have n5_ := Aside0.mk ((by rw [hg]; exact (below_size (by repeat (first | (with_reducible first | exact HB.out | apply below_alloc | apply pw_below_drewN | apply below_drew1 | refine below_set ?_ (IsS107.ge HI387.out) | refine below_set ?_ GE395.out) | exact HB.out))) : w.heap.size ≤ gb396)); have n6_ := Aside0.mk ((by rw [hg]; exact (below_size (by repeat (first | (with_reducible first | exact HB.out | apply below_alloc | apply pw_below_drewN | apply below_drew1 | refine below_set ?_ (IsS107.ge HI387.out) | refine below_set ?_ GE395.out) | exact HB.out))) : w.heap.size ≤ gb396)); have n7_ := Aside0.mk ((by rw [hg]; exact Nat.ne_of_lt (blk_lt (g := gb395) (o := .cells #[.int .i64 t388, .int .i64 t389, .int .i64 t390, .slice Ao11 t391.length co11] 50 (0, 0)) (by (with_reducible repeat (first | refine blk_drewN ?_ _ | refine blk_drew ?_ | refine blk_alloc ?_ _)); refine blk_put (cs := #[.int .i64 t388, .int .i64 t389, .int .i64 t390, .slice none 0 0]) ?_ 3 _ rfl; (with_reducible repeat (first | refine blk_drewN ?_ _ | refine blk_drew ?_ | refine blk_alloc ?_ _)); refine blk_put (cs := #[.int .i64 t388, .int .i64 t389, .int .i64 0, .slice none 0 0]) ?_ 2 _ rfl; (with_reducible repeat (first | refine blk_drewN ?_ _ | refine blk_drew ?_ | refine blk_alloc ?_ _)); refine blk_put (cs := #[.int .i64 t388, .int .i64 0, .int .i64 0, .slice none 0 0]) ?_ 1 _ rfl; (with_reducible repeat (first | refine blk_drewN ?_ _ | refine blk_drew ?_ | refine blk_alloc ?_ _)); refine blk_put (cs := #[.int .i64 0, .int .i64 0, .int .i64 0, .slice none 0 0]) ?_ 0 _ rfl; (with_reducible repeat (first | refine blk_drewN ?_ _ | refine blk_drew ?_ | refine blk_alloc ?_ _)); exact BK395.out)) : gb395 ≠ gb396)); have n8_ := Aside0.mk ((by rw [hg]; exact Nat.ne_of_gt (blk_lt (g := gb395) (o := .cells #[.int .i64 t388, .int .i64 t389, .int .i64 t390, .slice Ao11 t391.length co11] 50 (0, 0)) (by (with_reducible repeat (first | refine blk_drewN ?_ _ | refine blk_drew ?_ | refine blk_alloc ?_ _)); refine blk_put (cs := #[.int .i64 t388, .int .i64 t389, .int .i64 t390, .slice none 0 0]) ?_ 3 _ rfl; (with_reducible repeat (first | refine blk_drewN ?_ _ | refine blk_drew ?_ | refine blk_alloc ?_ _)); refine blk_put (cs := #[.int .i64 t388, .int .i64 t389, .int .i64 0, .slice none 0 0]) ?_ 2 _ rfl; (with_reducible repeat (first | refine blk_drewN ?_ _ | refine blk_drew ?_ | refine blk_alloc ?_ _)); refine blk_put (cs := #[.int .i64 t388, .int .i64 0, .int .i64 0, .slice none 0 0]) ?_ 1 _ rfl; (with_reducible repeat (first | refine blk_drewN ?_ _ | refine blk_drew ?_ | refine blk_alloc ?_ _)); refine blk_put (cs := #[.int .i64 0, .int .i64 0, .int .i64 0, .slice none 0 0]) ?_ 0 _ rfl; (with_reducible repeat (first | refine blk_drewN ?_ _ | refine blk_drew ?_ | refine blk_alloc ?_ _)); exact BK395.out)) : gb396 ≠ gb395)); have n9_ := Aside0.mk ((by rw [hg]; exact Nat.ne_of_lt (IsS107.lt (show IsS107 w _ g387 t385 t394 from by repeat (first | (with_reducible first | exact HI387.out | apply IsS107.alloc | apply IsS107.drewN | apply IsS107.drew | apply IsS107.set_1 | refine IsS107.far ?_ NB387_395.out _) | exact HI387.out))) : g387 ≠ gb396)); have n10_ := Aside0.mk ((by rw [hg]; exact Nat.ne_of_gt (IsS107.lt (show IsS107 w _ g387 t385 t394 from by repeat (first | (with_reducible first | exact HI387.out | apply IsS107.alloc | apply IsS107.drewN | apply IsS107.drew | apply IsS107.set_1 | refine IsS107.far ?_ NB387_395.out _) | exact HI387.out))) : gb396 ≠ g387)); clear HO393; clear HI387; clear BK395; clear HB; have HO393 := n0_; have HI387 := n1_; have BK395 := n2_; have HB := n3_; have BK396 := n4_; have GW396 := n5_; have GE396 := n6_; have NB395_396 := n7_; have NB396_395 := n8_; have NB387_396 := n9_; have NB396_387 := n10_; clear n0_ n1_ n2_ n3_ n4_ n5_ n6_ n7_ n8_ n9_ n10_; clear hb hbox hg; have hnb13 := NB396_395.out; have hnc13 := NB395_396.out; have hnb14 := NB396_387.out; have hnc14 := NB387_396.out; have hcz15_0 : w12.cell? ⟨gb396, 0, none⟩ = some (.int .i64 0) := (blk_cell BK396.out 0).trans rfl; have hcz15_1 : w12.cell? ⟨gb396, 1, none⟩ = some (.int .i64 0) := (blk_cell BK396.out 1).trans rfl; have hcz15_2 : w12.cell? ⟨gb396, 2, none⟩ = some (.int .i64 0) := (blk_cell BK396.out 2).trans rfl; have hcz15_3 : w12.cell? ⟨gb396, 3, none⟩ = some (.slice none 0 0) := (blk_cell BK396.out 3).trans rfl; have hfz15_0 := blk_frozen BK396.out 0; have hfz15_1 := blk_frozen BK396.out 1; have hfz15_2 := blk_frozen BK396.out 2; have hfz15_3 := blk_frozen BK396.out 3) | ((with_reducible refine gate_callee (f := 34) rfl ?_); refine goesL_ (some 16) rfl rfl Tryd.func34 (by kernel_rfl) rfl #[.pointer (some ⟨g387, 0, none⟩), .int .i64 4] rfl (by (try simp only [List.map_toArray, List.map_cons, List.map_nil]); first | done | rfl | (simp only [List.length_drop, List.length_take]; rfl)) ?_; (with_reducible refine (kauditmake_Src_N.calls g387 t385 t394 4 t397 t398 w _ ?side1 ?side2 A4.out).mono ?_); (case side1 => repeat (first | (with_reducible first | exact HI387.out | apply IsS107.alloc | apply IsS107.drewN | apply IsS107.drew | apply IsS107.set_1 | refine IsS107.far ?_ NB387_395.out _ | refine IsS107.far ?_ NB387_396.out _) | exact HI387.out)); (case side2 => repeat (first | (with_reducible first | exact HB.out | apply below_alloc | apply pw_below_drewN | apply below_drew1 | refine below_set ?_ (IsS107.ge HI387.out) | refine below_set ?_ GE395.out | refine below_set ?_ GE396.out) | exact HB.out)); rintro e w16 ⟨rfl, hi, hb, hk⟩; refine ⟨_, rfl, ?_⟩; have n0_ := Aside0.mk (Kd.R_mono (Kd.R_keep (IsS107.apart (show IsS107 w _ g387 t385 t394 from by repeat (first | (with_reducible first | exact HI387.out | apply IsS107.alloc | apply IsS107.drewN | apply IsS107.drew | apply IsS107.set_1 | refine IsS107.far ?_ NB387_395.out _ | refine IsS107.far ?_ NB387_396.out _) | exact HI387.out)) (by (with_reducible repeat (first | apply Kd.R_alloc | apply Kd.R_drewN | apply Kd.R_drew)); exact (Kd.R_mono (Kd.R_far (p := ⟨gb396, 3, none⟩) (Kd.R_far (p := ⟨gb396, 2, none⟩) (Kd.R_far (p := ⟨gb396, 1, none⟩) (Kd.R_far (p := ⟨gb396, 0, none⟩) (Kd.R_types HO393.out BK396.out (by decide)) (fun _ hk => hk.2) (.int .i64 t388)) (fun _ hk => hk.2) (.int .i64 t389)) (fun _ hk => hk.2) (.int .i64 t390)) (fun _ hk => hk.2) (.slice Ao11 t391.length co11)) (fun _ h_ => h_.1))) (by decide)) hk (fun _ h => h.2)) (fun _ h => h.1)); have n1_ := Aside0.mk (KeepBut.blk hk (g' := gb395) (o := .cells #[.int .i64 t388, .int .i64 t389, .int .i64 t390, .slice Ao11 t391.length co11] 50 (0, 0)) (by (with_reducible repeat (first | refine blk_drewN ?_ _ | refine blk_drew ?_ | refine blk_alloc ?_ _)); refine blk_far ?_ NB395_396.out _; (with_reducible repeat (first | refine blk_drewN ?_ _ | refine blk_drew ?_ | refine blk_alloc ?_ _)); refine blk_far ?_ NB395_396.out _; (with_reducible repeat (first | refine blk_drewN ?_ _ | refine blk_drew ?_ | refine blk_alloc ?_ _)); refine blk_far ?_ NB395_396.out _; (with_reducible repeat (first | refine blk_drewN ?_ _ | refine blk_drew ?_ | refine blk_alloc ?_ _)); refine blk_far ?_ NB395_396.out _; (with_reducible repeat (first | refine blk_drewN ?_ _ | refine blk_drew ?_ | refine blk_alloc ?_ _)); exact BK395.out) NB395_387.out (by simp)); have n2_ := Aside0.mk (KeepBut.blk hk (g' := gb396) (o := .cells #[.int .i64 t388, .int .i64 t389, .int .i64 t390, .slice Ao11 t391.length co11] 50 (0, 0)) (by (with_reducible repeat (first | refine blk_drewN ?_ _ | refine blk_drew ?_ | refine blk_alloc ?_ _)); refine blk_put (cs := #[.int .i64 t388, .int .i64 t389, .int .i64 t390, .slice none 0 0]) ?_ 3 _ rfl; (with_reducible repeat (first | refine blk_drewN ?_ _ | refine blk_drew ?_ | refine blk_alloc ?_ _)); refine blk_put (cs := #[.int .i64 t388, .int .i64 t389, .int .i64 0, .slice none 0 0]) ?_ 2 _ rfl; (with_reducible repeat (first | refine blk_drewN ?_ _ | refine blk_drew ?_ | refine blk_alloc ?_ _)); refine blk_put (cs := #[.int .i64 t388, .int .i64 0, .int .i64 0, .slice none 0 0]) ?_ 1 _ rfl; (with_reducible repeat (first | refine blk_drewN ?_ _ | refine blk_drew ?_ | refine blk_alloc ?_ _)); refine blk_put (cs := #[.int .i64 0, .int .i64 0, .int .i64 0, .slice none 0 0]) ?_ 0 _ rfl; (with_reducible repeat (first | refine blk_drewN ?_ _ | refine blk_drew ?_ | refine blk_alloc ?_ _)); exact BK396.out) NB396_387.out (by simp)); have n3_ := Aside0.mk (hb); have n4_ := Aside0.mk (hi); clear HO393; clear BK395; clear BK396; clear HB; clear HI387; have HO393 := n0_; have BK395 := n1_; have BK396 := n2_; have HB := n3_; have HI387 := n4_; clear n0_ n1_ n2_ n3_ n4_; (try clear hb); (try clear hb2); (try clear hk); (try clear hi)))
  (try simp only [Act.put, List.setIfInBounds_toArray, List.set_cons_zero, List.set_cons_succ])
  go_cut [] (fun wc => ∃ (kq : Nat) (x397000_4 : Int) (x397001_4 : Int) (x397002_4 : Int) (x397003_4 : List (S34)) (u397003 : Value), Aside0 (kauditlaw03_RecordDiffer.j0 kq t388 t389 t390 t391 x397000_4 x397001_4 x397002_4 x397003_4 = some r) ∧ Aside0 (kq ≤ k) ∧ Aside0 (Kd.R k34 34 wc w.heap.size (fun _ => True) (.slice Ao11 t391.length co11) t391) ∧ Aside0 (Kd.R k34 34 wc w.heap.size (fun _ => True) u397003 x397003_4) ∧ Aside0 (wc.heap[gb395]? = some (.cells #[.int .i64 t388, .int .i64 t389, .int .i64 t390, (.slice Ao11 t391.length co11)] 50 (0, 0))) ∧ Aside0 (wc.heap[gb396]? = some (.cells #[.int .i64 x397000_4, .int .i64 x397001_4, .int .i64 x397002_4, u397003] 50 (0, 0))) ∧ Aside0 (Below w.heap.size w wc))
  case first =>
    have H := HC5.out
    clear HC5
    by_cases c17 : t397 = 0
    · rw [if_pos c17] at H
      have c17b0 : (t397 == 0) = true := beq_iff_eq.mpr c17
      have c17b1 : (t397 != 0) = false := bne_eq_false_iff_eq.mpr c17
      clear c17
      (first | rw [c17b0] | (simp only [i64_w, i32_w]; rw [c17b0]) | skip)
      replace H := Option.bind_eq_some_iff.mp H
      obtain ⟨⟨t399, t400, t401, t402, t405⟩, A180, H⟩ := H
      replace H : (kauditlaw03_RecordDiffer.j0 k t388 t389 t390 t391 t399 t400 t401 t402) = some r := H
      have A18 := Aside0.mk A180
      clear A180
      have H' := Aside0.mk H
      clear H
      go_wp2_with (first | ((with_reducible refine gate_callee (f := 33) rfl ?_); refine goesL_ (some 20) rfl rfl Tryd.func33 (by kernel_rfl) rfl #[.pointer (some ⟨g387, 0, none⟩)] rfl (by (try simp only [List.map_toArray, List.map_cons, List.map_nil]); first | done | rfl | (simp only [List.length_drop, List.length_take]; rfl)) ?_; (with_reducible refine (kauditmake_Src_Record.calls k g387 t385 t398 t399 t400 t401 t402 t405 w _ ?side1 ?side2 A18.out).mono ?_); (case side1 => repeat (first | (with_reducible first | exact HI387.out | apply IsS107.alloc | apply IsS107.drewN | apply IsS107.drew | apply IsS107.set_1 | refine IsS107.far ?_ NB387_395.out _ | refine IsS107.far ?_ NB387_396.out _) | exact HI387.out)); (case side2 => repeat (first | (with_reducible first | exact HB.out | apply below_alloc | apply pw_below_drewN | apply below_drew1 | refine below_set ?_ (IsS107.ge HI387.out) | refine below_set ?_ GE395.out | refine below_set ?_ GE396.out) | exact HB.out)); rintro e w19 ⟨v403, rfl, ho0, hi, hb, hk⟩; refine ⟨_, rfl, ?_⟩; have n0_ := Aside0.mk (Kd.R_mono (Kd.R_told (Kd.R_oldK (IsS107.apart (show IsS107 w _ g387 t385 t398 from by repeat (first | (with_reducible first | exact HI387.out | apply IsS107.alloc | apply IsS107.drewN | apply IsS107.drew | apply IsS107.set_1 | refine IsS107.far ?_ NB387_395.out _ | refine IsS107.far ?_ NB387_396.out _) | exact HI387.out)) (by (with_reducible repeat (first | apply Kd.R_alloc | apply Kd.R_drewN | apply Kd.R_drew)); exact HO393.out) (by decide)) hk) (Kd.R_base ho0)) (fun _ h_ => h_.1)); have n1_ := Aside0.mk (KeepBut.blk hk (g' := gb395) (o := .cells #[.int .i64 t388, .int .i64 t389, .int .i64 t390, .slice Ao11 t391.length co11] 50 (0, 0)) (by (with_reducible repeat (first | refine blk_drewN ?_ _ | refine blk_drew ?_ | refine blk_alloc ?_ _)); exact BK395.out) NB395_387.out (by simp)); have n2_ := Aside0.mk (KeepBut.blk hk (g' := gb396) (o := .cells #[.int .i64 t388, .int .i64 t389, .int .i64 t390, .slice Ao11 t391.length co11] 50 (0, 0)) (by (with_reducible repeat (first | refine blk_drewN ?_ _ | refine blk_drew ?_ | refine blk_alloc ?_ _)); exact BK396.out) NB396_387.out (by simp)); have n3_ := Aside0.mk (Kd.R_lower (Kd.R_new' ho0 (Kd.R_lt (by (with_reducible repeat (first | apply Kd.R_alloc | apply Kd.R_drewN | apply Kd.R_drew)); exact HO393.out))) (below_size (by repeat (first | (with_reducible first | exact HB.out | apply below_alloc | apply pw_below_drewN | apply below_drew1 | refine below_set ?_ (IsS107.ge HI387.out) | refine below_set ?_ GE395.out | refine below_set ?_ GE396.out) | exact HB.out)))); have n4_ := Aside0.mk (hb); have n5_ := Aside0.mk (hi); clear HO393; clear BK395; clear BK396; clear HB; clear HI387; have HO393 := n0_; have BK395 := n1_; have BK396 := n2_; have HO404 := n3_; have HB := n4_; have HI387 := n5_; clear n0_ n1_ n2_ n3_ n4_ n5_; (try clear hb); (try clear hb2); (try clear hk); (try clear hi); (try clear ho0); have hnb20 := NB396_395.out; have hnc20 := NB395_396.out; have hnb21 := NB396_387.out; have hnc21 := NB387_396.out; have hcz22_0 : w19.cell? ⟨gb396, 0, none⟩ = some (.int .i64 t388) := (blk_cell BK396.out 0).trans rfl; have hcz22_1 : w19.cell? ⟨gb396, 1, none⟩ = some (.int .i64 t389) := (blk_cell BK396.out 1).trans rfl; have hcz22_2 : w19.cell? ⟨gb396, 2, none⟩ = some (.int .i64 t390) := (blk_cell BK396.out 2).trans rfl; have hcz22_3 : w19.cell? ⟨gb396, 3, none⟩ = some (.slice Ao11 t391.length co11) := (blk_cell BK396.out 3).trans rfl; have hfz22_0 := blk_frozen BK396.out 0; have hfz22_1 := blk_frozen BK396.out 1; have hfz22_2 := blk_frozen BK396.out 2; have hfz22_3 := blk_frozen BK396.out 3; obtain ⟨Ao23, co23, eo23⟩ := Kd.R_slice HO404.out; subst eo23))
      go_meet
      case rel => exact ⟨_, (t399), (t400), (t401), (t402), (.slice Ao23 t402.length co23), H', ⟨by first | omega | exact Nat.le_refl _⟩, ⟨by (with_reducible repeat (first | apply Kd.R_alloc | apply Kd.R_drewN | apply Kd.R_drew)); exact Kd.R_mono (Kd.R_far (p := ⟨gb396, 3, none⟩) (Kd.R_far (p := ⟨gb396, 2, none⟩) (Kd.R_far (p := ⟨gb396, 1, none⟩) (Kd.R_far (p := ⟨gb396, 0, none⟩) (Kd.R_types HO393.out BK396.out (by decide)) (fun _ hk => hk.2) (.int .i64 t399)) (fun _ hk => hk.2) (.int .i64 t400)) (fun _ hk => hk.2) (.int .i64 t401)) (fun _ hk => hk.2) (.slice Ao23 t402.length co23)) (fun _ hk => trivial)⟩, ⟨by (with_reducible repeat (first | apply Kd.R_alloc | apply Kd.R_drewN | apply Kd.R_drew)); exact Kd.R_mono (Kd.R_far (p := ⟨gb396, 3, none⟩) (Kd.R_far (p := ⟨gb396, 2, none⟩) (Kd.R_far (p := ⟨gb396, 1, none⟩) (Kd.R_far (p := ⟨gb396, 0, none⟩) (Kd.R_types HO404.out BK396.out (by decide)) (fun _ hk => hk.2) (.int .i64 t399)) (fun _ hk => hk.2) (.int .i64 t400)) (fun _ hk => hk.2) (.int .i64 t401)) (fun _ hk => hk.2) (.slice Ao23 t402.length co23)) (fun _ hk => trivial)⟩, ⟨by (with_reducible repeat (first | refine blk_drewN ?_ _ | refine blk_drew ?_ | refine blk_alloc ?_ _)); refine blk_far ?_ NB395_396.out _; (with_reducible repeat (first | refine blk_drewN ?_ _ | refine blk_drew ?_ | refine blk_alloc ?_ _)); refine blk_far ?_ NB395_396.out _; (with_reducible repeat (first | refine blk_drewN ?_ _ | refine blk_drew ?_ | refine blk_alloc ?_ _)); refine blk_far ?_ NB395_396.out _; (with_reducible repeat (first | refine blk_drewN ?_ _ | refine blk_drew ?_ | refine blk_alloc ?_ _)); refine blk_far ?_ NB395_396.out _; (with_reducible repeat (first | refine blk_drewN ?_ _ | refine blk_drew ?_ | refine blk_alloc ?_ _)); exact BK395.out⟩, ⟨by (with_reducible repeat (first | refine blk_drewN ?_ _ | refine blk_drew ?_ | refine blk_alloc ?_ _)); refine blk_put (cs := #[.int .i64 t399, .int .i64 t400, .int .i64 t401, .slice Ao11 t391.length co11]) ?_ 3 _ rfl; (with_reducible repeat (first | refine blk_drewN ?_ _ | refine blk_drew ?_ | refine blk_alloc ?_ _)); refine blk_put (cs := #[.int .i64 t399, .int .i64 t400, .int .i64 t390, .slice Ao11 t391.length co11]) ?_ 2 _ rfl; (with_reducible repeat (first | refine blk_drewN ?_ _ | refine blk_drew ?_ | refine blk_alloc ?_ _)); refine blk_put (cs := #[.int .i64 t399, .int .i64 t389, .int .i64 t390, .slice Ao11 t391.length co11]) ?_ 1 _ rfl; (with_reducible repeat (first | refine blk_drewN ?_ _ | refine blk_drew ?_ | refine blk_alloc ?_ _)); refine blk_put (cs := #[.int .i64 t388, .int .i64 t389, .int .i64 t390, .slice Ao11 t391.length co11]) ?_ 0 _ rfl; (with_reducible repeat (first | refine blk_drewN ?_ _ | refine blk_drew ?_ | refine blk_alloc ?_ _)); exact BK396.out⟩, ⟨by repeat (first | (with_reducible first | exact HB.out | apply below_alloc | apply pw_below_drewN | apply below_drew1 | refine below_set ?_ (IsS107.ge HI387.out) | refine below_set ?_ GE395.out | refine below_set ?_ GE396.out) | exact HB.out)⟩⟩
    · rw [if_neg c17] at H
      have c17b0 : (t397 == 0) = false := beq_eq_false_iff_ne.mpr c17
      have c17b1 : (t397 != 0) = true := bne_iff_ne.mpr c17
      (first | rw [c17b0] | (simp only [i64_w, i32_w]; rw [c17b0]) | skip)
      by_cases c24 : t397 = 1
      · rw [if_pos c24] at H
        have c24b0 : (t397 == 1) = true := beq_iff_eq.mpr c24
        have c24b1 : (t397 != 1) = false := bne_eq_false_iff_eq.mpr c24
        clear c24
        replace H := Option.bind_eq_some_iff.mp H
        obtain ⟨⟨t406, t407⟩, A250, H⟩ := H
        replace H : (kauditlaw03_RecordDiffer.j0 k t388 t389 t390 t391 t388 (wrap64 (t389 + t406)) t390 t391) = some r := H
        have A25 := Aside0.mk A250
        clear A250
        have H' := Aside0.mk H
        clear H
        try go_wp2
        have n0_ := Aside0.mk (Kd.R_drew HO393.out)
        have n1_ := Aside0.mk (blk_drew BK395.out)
        have n2_ := Aside0.mk (blk_drew BK396.out)
        have n3_ := Aside0.mk (IsS107.drew HI387.out)
        have n4_ := Aside0.mk (below_drew1 HB.out)
        clear HO393
        clear BK395
        clear BK396
        clear HI387
        clear HB
        have HO393 := n0_
        have BK395 := n1_
        have BK396 := n2_
        have HI387 := n3_
        have HB := n4_
        clear n0_ n1_ n2_ n3_ n4_
        refine start_ (n := 7) (S := fun w' => w'.cell? ⟨gb396, 0, none⟩ = some (.int .i64 t388) ∧ w'.cell? ⟨gb396, 1, none⟩ = some (.int .i64 t389) ∧ w'.cell? ⟨gb396, 2, none⟩ = some (.int .i64 t390) ∧ w'.cell? ⟨gb396, 3, none⟩ = some (.slice Ao11 t391.length co11)) (ds := [6]) #[false, false, false, false, false, false, false] (by kernel_rfl) rfl rfl ⟨(blk_cell BK396.out 0).trans rfl, (blk_cell BK396.out 1).trans rfl, (blk_cell BK396.out 2).trans rfl, (blk_cell BK396.out 3).trans rfl⟩ (fun hHeld => ?_)
        generalize w16.drew = w26 at HO393 BK395 BK396 HI387 HB hHeld ⊢
        refine pure_ (i := 0) (N := some 23) (v := ?_) (a' := ?_) #[true, false, false, false, false, false, false] rfl rfl (by kernel_rfl) (fun _ _ _ h => h) (Or.inl ⟨by rfl, ?_⟩) ?_ ?_
        rotate_left
        · intro w'
          go_simp
          with_reducible rfl
        rotate_left
        · simp only [Act.put, List.setIfInBounds_toArray, List.set_cons_zero, List.set_cons_succ, i64_w, i32_w]
          rfl
        refine pure_ (i := 2) (N := some 25) (v := ?_) (a' := ?_) #[true, false, true, false, false, false, false] rfl rfl (by kernel_rfl) (fun _ _ _ h => h) (Or.inl ⟨by rfl, ?_⟩) ?_ ?_
        rotate_left
        · intro w'
          go_simp
          with_reducible rfl
        rotate_left
        · simp only [Act.put, List.setIfInBounds_toArray, List.set_cons_zero, List.set_cons_succ, i64_w, i32_w]
          rfl
        refine take_ (i := 1) (N := some 24) (v := ?_) (a' := ?_) #[true, true, true, false, false, false, false] rfl rfl (by kernel_rfl) (fun _ _ _ h => h) (Or.inl ⟨by rfl, ?_⟩) hHeld ?_ ?_
        rotate_left
        · rintro w' ⟨s0, s1, s2, s3⟩
          go_simp
          with_reducible rfl
        rotate_left
        · simp only [Act.put, List.setIfInBounds_toArray, List.set_cons_zero, List.set_cons_succ, i64_w, i32_w]
          rfl
        refine one_ (i := 3) (N := some 26) #[true, true, true, true, false, false, false] rfl rfl (by kernel_rfl) (by decide) (fun K hK => ?_)
        refine goes_ Tryd.func34 (by kernel_rfl) rfl #[.pointer (some ⟨g387, 0, none⟩), .int .i64 2] (by rfl) rfl rfl (by (try simp only [List.map_toArray, List.map_cons, List.map_nil]); first | done | rfl | (simp only [List.length_drop, List.length_take]; rfl)) ?_
        with_reducible refine (kauditmake_Src_N.calls g387 t385 t398 2 t406 t407 w _ ?side1 ?side2 A25.out).mono ?_
        (case side1 => repeat (first | (with_reducible first | exact HI387.out | apply IsS107.alloc | apply IsS107.drewN | apply IsS107.drew | apply IsS107.set_1 | refine IsS107.far ?_ NB387_395.out _ | refine IsS107.far ?_ NB387_396.out _) | exact HI387.out))
        (case side2 => repeat (first | (with_reducible first | exact HB.out | apply below_alloc | apply pw_below_drewN | apply below_drew1 | refine below_set ?_ (IsS107.ge HI387.out) | refine below_set ?_ GE395.out | refine below_set ?_ GE396.out) | exact HB.out))
        rintro e w27 ⟨rfl, hi, hb, hk⟩
        refine ⟨_, rfl, ?_⟩
        have n0_ := Aside0.mk (Kd.R_mono (Kd.R_keep (IsS107.apart (show IsS107 w _ g387 t385 t398 from by repeat (first | (with_reducible first | exact HI387.out | apply IsS107.alloc | apply IsS107.drewN | apply IsS107.drew | apply IsS107.set_1 | refine IsS107.far ?_ NB387_395.out _ | refine IsS107.far ?_ NB387_396.out _) | exact HI387.out)) (by (with_reducible repeat (first | apply Kd.R_alloc | apply Kd.R_drewN | apply Kd.R_drew)); exact HO393.out) (by decide)) hk (fun _ h => h.2)) (fun _ h => h.1))
        have n1_ := Aside0.mk (KeepBut.blk hk (g' := gb395) (o := .cells #[.int .i64 t388, .int .i64 t389, .int .i64 t390, .slice Ao11 t391.length co11] 50 (0, 0)) (by (with_reducible repeat (first | refine blk_drewN ?_ _ | refine blk_drew ?_ | refine blk_alloc ?_ _)); exact BK395.out) NB395_387.out (by simp))
        have n2_ := Aside0.mk (KeepBut.blk hk (g' := gb396) (o := .cells #[.int .i64 t388, .int .i64 t389, .int .i64 t390, .slice Ao11 t391.length co11] 50 (0, 0)) (by (with_reducible repeat (first | refine blk_drewN ?_ _ | refine blk_drew ?_ | refine blk_alloc ?_ _)); exact BK396.out) NB396_387.out (by simp))
        have n3_ := Aside0.mk (hb)
        have n4_ := Aside0.mk (hi)
        clear HO393
        clear BK395
        clear BK396
        clear HB
        clear HI387
        have HO393 := n0_
        have BK395 := n1_
        have BK396 := n2_
        have HB := n3_
        have HI387 := n4_
        clear n0_ n1_ n2_ n3_ n4_
        (try clear hb)
        (try clear hb2)
        (try clear hk)
        (try clear hi)
        refine hK.out _ _ ⟨(blk_cell BK396.out 0).trans rfl, (blk_cell BK396.out 1).trans rfl, (blk_cell BK396.out 2).trans rfl, (blk_cell BK396.out 3).trans rfl⟩ (fun hHeld => ?_)
        clear hK K
        refine norm_ (a' := ?_) ?_ ?_
        rotate_left
        · show Act.put _ (some 26) _ = _
          simp only [Act.put, List.setIfInBounds_toArray, List.set_cons_zero, List.set_cons_succ, i64_w, i32_w]
          rfl
        refine pure_ (i := 4) (N := some 27) (v := ?_) (a' := ?_) #[true, true, true, true, true, false, false] rfl rfl (by kernel_rfl) (fun _ _ _ h => h) (Or.inl ⟨by rfl, ?_⟩) ?_ ?_
        rotate_left
        · intro w'
          go_simp
          with_reducible rfl
        rotate_left
        · simp only [Act.put, List.setIfInBounds_toArray, List.set_cons_zero, List.set_cons_succ, i64_w, i32_w]
          rfl
        refine pure_ (i := 5) (N := some 28) (v := ?_) (a' := ?_) #[true, true, true, true, true, true, false] rfl rfl (by kernel_rfl) (fun _ _ _ h => h) (Or.inl ⟨by rfl, ?_⟩) ?_ ?_
        rotate_left
        · intro w'
          go_simp
          with_reducible rfl
        rotate_left
        · simp only [Act.put, List.setIfInBounds_toArray, List.set_cons_zero, List.set_cons_succ, i64_w, i32_w]
          rfl
        refine last_ (i := 6) (N := none) #[true, true, true, true, true, true, true] rfl rfl (by kernel_rfl) (by decide) (fun K hK => ?_)
        have hs28 : w27.cell? ⟨gb396, 1, none⟩ = some (.int .i64 t389) := (blk_cell BK396.out 1).trans rfl
        have hfs28 := blk_frozen BK396.out 1
        have hns28_0 := NB395_396.out
        have hms28_0 := NB396_395.out
        refine skip_ (w1 := ?_) (by rfl) rfl ?_ ?_
        rotate_left
        · go_simp
          rfl
        refine hK.out _ _ ?_
        clear hK K
        refine done_ (by kernel_rfl) ?_
        try go_wp2
        go_meet
        case rel => exact ⟨_, (t388), (wrap64 (t389 + t406)), (t390), (t391), (.slice Ao11 t391.length co11), H', ⟨by first | omega | exact Nat.le_refl _⟩, ⟨by (with_reducible repeat (first | apply Kd.R_alloc | apply Kd.R_drewN | apply Kd.R_drew)); exact Kd.R_mono (Kd.R_far (p := ⟨gb396, 1, none⟩) (Kd.R_types HO393.out BK396.out (by decide)) (fun _ hk => hk.2) (.int .i64 (wrap64 (t389 + t406)))) (fun _ hk => trivial)⟩, ⟨by (with_reducible repeat (first | apply Kd.R_alloc | apply Kd.R_drewN | apply Kd.R_drew)); exact Kd.R_mono (Kd.R_far (p := ⟨gb396, 1, none⟩) (Kd.R_types HO393.out BK396.out (by decide)) (fun _ hk => hk.2) (.int .i64 (wrap64 (t389 + t406)))) (fun _ hk => trivial)⟩, ⟨by (with_reducible repeat (first | refine blk_drewN ?_ _ | refine blk_drew ?_ | refine blk_alloc ?_ _)); refine blk_far ?_ NB395_396.out _; (with_reducible repeat (first | refine blk_drewN ?_ _ | refine blk_drew ?_ | refine blk_alloc ?_ _)); exact BK395.out⟩, ⟨by (with_reducible repeat (first | refine blk_drewN ?_ _ | refine blk_drew ?_ | refine blk_alloc ?_ _)); refine blk_put (cs := #[.int .i64 t388, .int .i64 t389, .int .i64 t390, .slice Ao11 t391.length co11]) ?_ 1 _ rfl; (with_reducible repeat (first | refine blk_drewN ?_ _ | refine blk_drew ?_ | refine blk_alloc ?_ _)); exact BK396.out⟩, ⟨by repeat (first | (with_reducible first | exact HB.out | apply below_alloc | apply pw_below_drewN | apply below_drew1 | refine below_set ?_ (IsS107.ge HI387.out) | refine below_set ?_ GE395.out | refine below_set ?_ GE396.out) | exact HB.out)⟩⟩
      · rw [if_neg c24] at H
        have c24b0 : (t397 == 1) = false := beq_eq_false_iff_ne.mpr c24
        have c24b1 : (t397 != 1) = true := bne_iff_ne.mpr c24
        by_cases c29 : t397 = 2
        · rw [if_pos c29] at H
          have c29b0 : (t397 == 2) = true := beq_iff_eq.mpr c29
          have c29b1 : (t397 != 2) = false := bne_eq_false_iff_eq.mpr c29
          clear c29
          by_cases c30 : ([] : List (S34)).length + t391.length < 2932031007402
          · rw [if_pos c30] at H
            have LMc30 := Aside0.mk c30
            clear c30
            obtain ⟨y408, hy408⟩ : ∃ y_ : List (S34), y_ = (([] : List (S34)) ++ t391) := ⟨_, rfl⟩
            replace H : ((kauditmake_Src_Pair.f k t385 t398).bind fun bt411 => (if y408.length < 2932031007402 then (kauditlaw03_RecordDiffer.j0 k t388 t389 t390 t391 t388 t389 t390 (y408 ++ [(⟨bt411.1, bt411.2.1, bt411.2.2.1, bt411.2.2.2.1⟩ : S34)])) else (none))) = some r := by first | (rw [hy408]; with_reducible exact H) | (have H2_ := (Option.bind_some _ _).symm.trans H; rw [hy408]; with_reducible exact H2_) | (have H2_ := (Option.bind_some _ _).symm.trans H; with_reducible exact H2_) | with_reducible exact H | (rw [hy408]; exact H) | exact H
            have Ny408 := Aside0.mk hy408
            clear hy408
            replace H := Option.bind_eq_some_iff.mp H
            obtain ⟨⟨t411, t412, t413, t414, t415⟩, A310, H⟩ := H
            replace H : (if y408.length < 2932031007402 then (kauditlaw03_RecordDiffer.j0 k t388 t389 t390 t391 t388 t389 t390 (y408 ++ [(⟨t411, t412, t413, t414⟩ : S34)])) else (none)) = some r := H
            have A31 := Aside0.mk A310
            clear A310
            by_cases c32 : y408.length < 2932031007402
            · rw [if_pos c32] at H
              have LMc32 := Aside0.mk c32
              clear c32
              obtain ⟨y416, hy416⟩ : ∃ y_ : List (S34), y_ = (y408 ++ [(⟨t411, t412, t413, t414⟩ : S34)]) := ⟨_, rfl⟩
              replace H : (kauditlaw03_RecordDiffer.j0 k t388 t389 t390 t391 t388 t389 t390 y416) = some r := by first | (rw [hy416]; with_reducible exact H) | (have H2_ := (Option.bind_some _ _).symm.trans H; rw [hy416]; with_reducible exact H2_) | (have H2_ := (Option.bind_some _ _).symm.trans H; with_reducible exact H2_) | with_reducible exact H | (rw [hy416]; exact H) | exact H
              have Ny416 := Aside0.mk hy416
              clear hy416
              have H' := Aside0.mk H
              clear H
              have hnb33 := NB395_396.out
              have hnc33 := NB396_395.out
              have hnb34 := NB395_387.out
              have hnc34 := NB387_395.out
              have hcz35_0 : w16.cell? ⟨gb395, 0, none⟩ = some (.int .i64 t388) := (blk_cell BK395.out 0).trans rfl
              have hcz35_1 : w16.cell? ⟨gb395, 1, none⟩ = some (.int .i64 t389) := (blk_cell BK395.out 1).trans rfl
              have hcz35_2 : w16.cell? ⟨gb395, 2, none⟩ = some (.int .i64 t390) := (blk_cell BK395.out 2).trans rfl
              have hcz35_3 : w16.cell? ⟨gb395, 3, none⟩ = some (.slice Ao11 t391.length co11) := (blk_cell BK395.out 3).trans rfl
              have hfz35_0 := blk_frozen BK395.out 0
              have hfz35_1 := blk_frozen BK395.out 1
              have hfz35_2 := blk_frozen BK395.out 2
              have hfz35_3 := blk_frozen BK395.out 3
              go_wp2_with (first | ((with_reducible refine gate_builtin (b := .append) (xs := #[.const (.slice none 0 0), .tmp 32]) rfl ?_); at_builtin; refine Kd.R_append_rows k34 (w0 := w) w.heap.size rfl (.const (.slice none 0 0)) (.tmp 32) 35 34 (.agg #[(.string ⟨#[]⟩), (.int .i64 0), (.int .i64 0), (.string ⟨#[]⟩)]) 48 rfl Tryd.underlying35 info34 rfl (by decide) (by omega) (.slice none 0 0) ([] : List (S34)) t391 _ _ _ (fun k_ => some k_ ≠ (.slice Ao11 t391.length co11 : Value).ownBlock) (fun _ => False) rfl rfl ?aO ?aR (fun _ _ h => h) (fun _ h => h.elim) ?aF ?aB ?aS ?aL ?_; (case aR => repeat (first | exact (Kd.R_reads' HO393.out).2.2 | (with_reducible refine Kd.C_alloc ?_ _) | (with_reducible refine Kd.C_drewN ?_ _) | (with_reducible refine Kd.C_drew ?_))); (case aB => exact (by repeat (first | (with_reducible first | exact HB.out | apply below_alloc | apply pw_below_drewN | apply below_drew1 | refine below_set ?_ (IsS107.ge HI387.out) | refine below_set ?_ GE395.out | refine below_set ?_ GE396.out) | exact HB.out))); (case aF => exact (fun k_ hk => Kd.fresh' (Kd.R_lt (by (with_reducible repeat (first | apply Kd.R_alloc | apply Kd.R_drewN | apply Kd.R_drew)); exact HO393.out)) k_ hk)); (case aO => exact ((Kd.R_nil _ _ _ _ (fun k_ => some k_ ≠ (.slice Ao11 t391.length co11 : Value).ownBlock)))); (case aS => exact (below_size (by repeat (first | (with_reducible first | exact HB.out | apply below_alloc | apply pw_below_drewN | apply below_drew1 | refine below_set ?_ (IsS107.ge HI387.out) | refine below_set ?_ GE395.out | refine below_set ?_ GE396.out) | exact HB.out)))); (case aL => have := LMc30.out; omega); intro v409 w36 ho hb hg hat; rw [← Ny408.out] at ho; have n0_ := Aside0.mk (IsS107.grown (by repeat (first | (with_reducible first | exact HI387.out | apply IsS107.alloc | apply IsS107.drewN | apply IsS107.drew | apply IsS107.set_1 | refine IsS107.far ?_ NB387_395.out _ | refine IsS107.far ?_ NB387_396.out _) | exact HI387.out)) hg (by simp [Value.ownBlock])); have n1_ := Aside0.mk (Kd.R_after (Kd.R_apart_nil (by (with_reducible repeat (first | apply Kd.R_alloc | apply Kd.R_drewN | apply Kd.R_drew)); exact HO393.out)) hg hat); have n2_ := Aside0.mk (blk_grown (g := gb395) (o := .cells #[.int .i64 t388, .int .i64 t389, .int .i64 t390, .slice Ao11 t391.length co11] 50 (0, 0)) (by (with_reducible repeat (first | refine blk_drewN ?_ _ | refine blk_drew ?_ | refine blk_alloc ?_ _)); exact BK395.out) hg (by simp [Value.ownBlock])); have n3_ := Aside0.mk (blk_grown (g := gb396) (o := .cells #[.int .i64 t388, .int .i64 t389, .int .i64 t390, .slice Ao11 t391.length co11] 50 (0, 0)) (by (with_reducible repeat (first | refine blk_drewN ?_ _ | refine blk_drew ?_ | refine blk_alloc ?_ _)); exact BK396.out) hg (by simp [Value.ownBlock])); have n4_ := Aside0.mk (hb); have n5_ := Aside0.mk (ho); clear HI387; clear HO393; clear BK395; clear BK396; clear HB; have HI387 := n0_; have HO393 := n1_; have BK395 := n2_; have BK396 := n3_; have HB := n4_; have HO410 := n5_; clear n0_ n1_ n2_ n3_ n4_ n5_; clear ho hb hg hat) | ((with_reducible refine gate_callee (f := 35) rfl ?_); refine goesL_ (some 35) rfl rfl Tryd.func35 (by kernel_rfl) rfl #[.pointer (some ⟨g387, 0, none⟩)] rfl (by (try simp only [List.map_toArray, List.map_cons, List.map_nil]); first | done | rfl | (simp only [List.length_drop, List.length_take]; rfl)) ?_; (with_reducible refine (kauditmake_Src_Pair.calls k g387 t385 t398 t411 t412 t413 t414 t415 w _ ?side1 ?side2 A31.out).mono ?_); (case side1 => repeat (first | (with_reducible first | exact HI387.out | apply IsS107.alloc | apply IsS107.drewN | apply IsS107.drew | apply IsS107.set_1 | refine IsS107.far ?_ NB387_395.out _ | refine IsS107.far ?_ NB387_396.out _) | exact HI387.out)); (case side2 => repeat (first | (with_reducible first | exact HB.out | apply below_alloc | apply pw_below_drewN | apply below_drew1 | refine below_set ?_ (IsS107.ge HI387.out) | refine below_set ?_ GE395.out | refine below_set ?_ GE396.out) | exact HB.out)); rintro e w37 ⟨rfl, hi, hb, hk⟩; refine ⟨_, rfl, ?_⟩; have n0_ := Aside0.mk (Kd.R_mono (Kd.R_keep (IsS107.apart (show IsS107 w _ g387 t385 t398 from by repeat (first | (with_reducible first | exact HI387.out | apply IsS107.alloc | apply IsS107.drewN | apply IsS107.drew | apply IsS107.set_1 | refine IsS107.far ?_ NB387_395.out _ | refine IsS107.far ?_ NB387_396.out _) | exact HI387.out)) (by (with_reducible repeat (first | apply Kd.R_alloc | apply Kd.R_drewN | apply Kd.R_drew)); exact HO393.out) (by decide)) hk (fun _ h => h.2)) (fun _ h => h.1)); have n1_ := Aside0.mk (KeepBut.blk hk (g' := gb395) (o := .cells #[.int .i64 t388, .int .i64 t389, .int .i64 t390, .slice Ao11 t391.length co11] 50 (0, 0)) (by (with_reducible repeat (first | refine blk_drewN ?_ _ | refine blk_drew ?_ | refine blk_alloc ?_ _)); exact BK395.out) NB395_387.out (by simp)); have n2_ := Aside0.mk (KeepBut.blk hk (g' := gb396) (o := .cells #[.int .i64 t388, .int .i64 t389, .int .i64 t390, .slice Ao11 t391.length co11] 50 (0, 0)) (by (with_reducible repeat (first | refine blk_drewN ?_ _ | refine blk_drew ?_ | refine blk_alloc ?_ _)); exact BK396.out) NB396_387.out (by simp)); have n3_ := Aside0.mk (Kd.R_mono (Kd.R_keep (IsS107.apart (show IsS107 w _ g387 t385 t398 from by repeat (first | (with_reducible first | exact HI387.out | apply IsS107.alloc | apply IsS107.drewN | apply IsS107.drew | apply IsS107.set_1 | refine IsS107.far ?_ NB387_395.out _ | refine IsS107.far ?_ NB387_396.out _) | exact HI387.out)) (by (with_reducible repeat (first | apply Kd.R_alloc | apply Kd.R_drewN | apply Kd.R_drew)); exact HO410.out) (by decide)) hk (fun _ h => h.2)) (fun _ h => h.1)); have n4_ := Aside0.mk (hb); have n5_ := Aside0.mk (hi); clear HO393; clear BK395; clear BK396; clear HO410; clear HB; clear HI387; have HO393 := n0_; have BK395 := n1_; have BK396 := n2_; have HO410 := n3_; have HB := n4_; have HI387 := n5_; clear n0_ n1_ n2_ n3_ n4_ n5_; (try clear hb); (try clear hb2); (try clear hk); (try clear hi)) | ((with_reducible refine gate_builtin (b := .append) (xs := #[.tmp 33, .tmp 36]) rfl ?_); at_builtin; refine Kd.R_append k34 (w0 := w) w.heap.size rfl (.tmp 33) (.tmp 36) 35 34 (.agg #[(.string ⟨#[]⟩), (.int .i64 0), (.int .i64 0), (.string ⟨#[]⟩)]) 48 rfl Tryd.underlying35 info34 rfl (by decide) (by omega) v409 y408 (⟨t411, t412, t413, t414⟩ : S34) [.string t411, .int .i64 t412, .int .i64 t413, .string t414] (fun k_ => some k_ ≠ (.slice Ao11 t391.length co11 : Value).ownBlock) (fun _ => False) rfl rfl ?aP (fun _ hk => hk.elim) ?aF ?aO ?aB ?aS ?aL ?_; (case aP => exact k34_mkM _ _ _ (⟨t411, t412, t413, t414⟩ : S34)); (case aB => exact (by repeat (first | (with_reducible first | exact HB.out | apply below_alloc | apply pw_below_drewN | apply below_drew1 | refine below_set ?_ (IsS107.ge HI387.out) | refine below_set ?_ GE395.out | refine below_set ?_ GE396.out) | exact HB.out))); (case aF => exact (fun k_ hk => Kd.fresh' (Kd.R_lt (by (with_reducible repeat (first | apply Kd.R_alloc | apply Kd.R_drewN | apply Kd.R_drew)); exact HO393.out)) k_ hk)); (case aO => exact (by (with_reducible repeat (first | apply Kd.R_alloc | apply Kd.R_drewN | apply Kd.R_drew)); exact HO410.out)); (case aS => exact (below_size (by repeat (first | (with_reducible first | exact HB.out | apply below_alloc | apply pw_below_drewN | apply below_drew1 | refine below_set ?_ (IsS107.ge HI387.out) | refine below_set ?_ GE395.out | refine below_set ?_ GE396.out) | exact HB.out)))); (case aL => have := LMc32.out; omega); intro v417 w38 ho hb hg hat; rw [← Ny416.out] at ho; have n0_ := Aside0.mk (IsS107.grown (by repeat (first | (with_reducible first | exact HI387.out | apply IsS107.alloc | apply IsS107.drewN | apply IsS107.drew | apply IsS107.set_1 | refine IsS107.far ?_ NB387_395.out _ | refine IsS107.far ?_ NB387_396.out _) | exact HI387.out)) hg (IsS107.own_ne HI387.out HO410.out (by decide))); have n1_ := Aside0.mk (Kd.R_after (ok := (fun _ => True)) (by (with_reducible repeat (first | apply Kd.R_alloc | apply Kd.R_drewN | apply Kd.R_drew)); exact HO393.out) hg hat); have n2_ := Aside0.mk (blk_grown (g := gb395) (o := .cells #[.int .i64 t388, .int .i64 t389, .int .i64 t390, .slice Ao11 t391.length co11] 50 (0, 0)) (by (with_reducible repeat (first | refine blk_drewN ?_ _ | refine blk_drew ?_ | refine blk_alloc ?_ _)); exact BK395.out) hg (Kd.R_ne HO410.out BK395.out (by decide))); have n3_ := Aside0.mk (blk_grown (g := gb396) (o := .cells #[.int .i64 t388, .int .i64 t389, .int .i64 t390, .slice Ao11 t391.length co11] 50 (0, 0)) (by (with_reducible repeat (first | refine blk_drewN ?_ _ | refine blk_drew ?_ | refine blk_alloc ?_ _)); exact BK396.out) hg (Kd.R_ne HO410.out BK396.out (by decide))); have n4_ := Aside0.mk (hb); have n5_ := Aside0.mk (ho); clear HI387; clear HO393; clear BK395; clear BK396; clear HB; clear HO410; have HI387 := n0_; have HO393 := n1_; have BK395 := n2_; have BK396 := n3_; have HB := n4_; have HO418 := n5_; clear n0_ n1_ n2_ n3_ n4_ n5_; clear ho hb hg hat; obtain ⟨Ao39, co39, eo39⟩ := Kd.R_slice HO418.out; subst eo39; have hnb40 := NB396_387.out; have hnc40 := NB387_396.out; have hcz41_0 : w38.cell? ⟨gb396, 0, none⟩ = some (.int .i64 t388) := (blk_cell BK396.out 0).trans rfl; have hcz41_1 : w38.cell? ⟨gb396, 1, none⟩ = some (.int .i64 t389) := (blk_cell BK396.out 1).trans rfl; have hcz41_2 : w38.cell? ⟨gb396, 2, none⟩ = some (.int .i64 t390) := (blk_cell BK396.out 2).trans rfl; have hcz41_3 : w38.cell? ⟨gb396, 3, none⟩ = some (.slice Ao11 t391.length co11) := (blk_cell BK396.out 3).trans rfl; have hfz41_0 := blk_frozen BK396.out 0; have hfz41_1 := blk_frozen BK396.out 1; have hfz41_2 := blk_frozen BK396.out 2; have hfz41_3 := blk_frozen BK396.out 3))
              go_meet
              case rel => exact ⟨_, (t388), (t389), (t390), (y416), (.slice Ao39 y416.length co39), H', ⟨by first | omega | exact Nat.le_refl _⟩, ⟨by (with_reducible repeat (first | apply Kd.R_alloc | apply Kd.R_drewN | apply Kd.R_drew)); exact Kd.R_mono (Kd.R_far (p := ⟨gb396, 3, none⟩) (Kd.R_types HO393.out BK396.out (by decide)) (fun _ hk => hk.2) (.slice Ao39 y416.length co39)) (fun _ hk => trivial)⟩, ⟨by (with_reducible repeat (first | apply Kd.R_alloc | apply Kd.R_drewN | apply Kd.R_drew)); exact Kd.R_mono (Kd.R_far (p := ⟨gb396, 3, none⟩) (Kd.R_types HO418.out BK396.out (by decide)) (fun _ hk => hk.2) (.slice Ao39 y416.length co39)) (fun _ hk => trivial)⟩, ⟨by (with_reducible repeat (first | refine blk_drewN ?_ _ | refine blk_drew ?_ | refine blk_alloc ?_ _)); refine blk_far ?_ NB395_396.out _; (with_reducible repeat (first | refine blk_drewN ?_ _ | refine blk_drew ?_ | refine blk_alloc ?_ _)); exact BK395.out⟩, ⟨by (with_reducible repeat (first | refine blk_drewN ?_ _ | refine blk_drew ?_ | refine blk_alloc ?_ _)); refine blk_put (cs := #[.int .i64 t388, .int .i64 t389, .int .i64 t390, .slice Ao11 t391.length co11]) ?_ 3 _ rfl; (with_reducible repeat (first | refine blk_drewN ?_ _ | refine blk_drew ?_ | refine blk_alloc ?_ _)); exact BK396.out⟩, ⟨by repeat (first | (with_reducible first | exact HB.out | apply below_alloc | apply pw_below_drewN | apply below_drew1 | refine below_set ?_ (IsS107.ge HI387.out) | refine below_set ?_ GE395.out | refine below_set ?_ GE396.out) | exact HB.out)⟩⟩
            · rw [if_neg c32] at H
              exact absurd H (by simp)
          · rw [if_neg c30] at H
            exact absurd H (by simp)
        · rw [if_neg c29] at H
          have c29b0 : (t397 == 2) = false := beq_eq_false_iff_ne.mpr c29
          have c29b1 : (t397 != 2) = true := bne_iff_ne.mpr c29
          have H' := Aside0.mk H
          clear H
          go_wp2
          go_meet
          case rel => exact ⟨_, (t388), (t389), (t390), (t391), (.slice Ao11 t391.length co11), H', ⟨by first | omega | exact Nat.le_refl _⟩, ⟨by (with_reducible repeat (first | apply Kd.R_alloc | apply Kd.R_drewN | apply Kd.R_drew)); exact HO393.out⟩, ⟨by (with_reducible repeat (first | apply Kd.R_alloc | apply Kd.R_drewN | apply Kd.R_drew)); exact HO393.out⟩, ⟨by (with_reducible repeat (first | refine blk_drewN ?_ _ | refine blk_drew ?_ | refine blk_alloc ?_ _)); exact BK395.out⟩, ⟨by (with_reducible repeat (first | refine blk_drewN ?_ _ | refine blk_drew ?_ | refine blk_alloc ?_ _)); exact BK396.out⟩, ⟨by repeat (first | (with_reducible first | exact HB.out | apply below_alloc | apply pw_below_drewN | apply below_drew1 | refine below_set ?_ (IsS107.ge HI387.out) | refine below_set ?_ GE395.out | refine below_set ?_ GE396.out) | exact HB.out)⟩⟩
  case rest =>
    clear HC5
    try clear c1
    try clear c2
    try clear p2
    try clear c3
    try clear c4
    try clear p6
    try clear c7
    try clear c9
    try clear c13
    try clear c14
    try clear c17
    try clear c17b0
    try clear c17b1
    try clear c20
    try clear c21
    try clear c24
    try clear c24b0
    try clear c24b1
    try clear c29
    try clear c29b0
    try clear c29b1
    try clear c30
    try clear c32
    try clear c33
    try clear c34
    try clear c35
    try clear c40
    try clear hcz10_0
    try clear hcz10_1
    try clear hcz10_2
    try clear hcz10_3
    try clear hcz15_0
    try clear hcz15_1
    try clear hcz15_2
    try clear hcz15_3
    try clear hcz22_0
    try clear hcz22_1
    try clear hcz22_2
    try clear hcz22_3
    try clear hcz35_0
    try clear hcz35_1
    try clear hcz35_2
    try clear hcz35_3
    try clear hcz41_0
    try clear hcz41_1
    try clear hcz41_2
    try clear hcz41_3
    try clear hfz10_0
    try clear hfz10_1
    try clear hfz10_2
    try clear hfz10_3
    try clear hfz15_0
    try clear hfz15_1
    try clear hfz15_2
    try clear hfz15_3
    try clear hfz22_0
    try clear hfz22_1
    try clear hfz22_2
    try clear hfz22_3
    try clear hfz35_0
    try clear hfz35_1
    try clear hfz35_2
    try clear hfz35_3
    try clear hfz41_0
    try clear hfz41_1
    try clear hfz41_2
    try clear hfz41_3
    obtain ⟨kq, x397000_4, x397001_4, x397002_4, x397003_4, u397003, HA, HJ4, HO_396003, HO_397003, BK395, BK396, HB⟩ := hcut
    cases kq with
    | zero => exact absurd HA.out (by simp [kauditlaw03_RecordDiffer.j0])
    | succ kj4 =>
      have H := HA.out
      clear HA
      simp only [kauditlaw03_RecordDiffer.j0] at H
      replace H := Option.bind_eq_some_iff.mp H
      obtain ⟨⟨t419, t420⟩, A420, H⟩ := H
      replace H : ((record_Format.f kj4 x397000_4 x397001_4 x397002_4 x397003_4).bind fun bt421 => (if t420 = 0 then (if bt421.2 = 0 then ((kauditref03_Same.f kj4 t388 t389 t390 t391 x397000_4 x397001_4 x397002_4 x397003_4).bind fun t423 => (if ((t419.toList == bt421.1.toList) == t423) = true then ((kauditlaw03_awake.f kj4).bind fun t424 => (some t424)) else (some false))) else ((kauditlaw03_awake.f kj4).bind fun t425 => (some t425))) else ((kauditlaw03_awake.f kj4).bind fun t426 => (some t426)))) = some r := H
      have A42 := Aside0.mk A420
      clear A420
      replace H := Option.bind_eq_some_iff.mp H
      obtain ⟨⟨t421, t422⟩, A430, H⟩ := H
      replace H : (if t420 = 0 then (if t422 = 0 then ((kauditref03_Same.f kj4 t388 t389 t390 t391 x397000_4 x397001_4 x397002_4 x397003_4).bind fun t423 => (if ((t419.toList == t421.toList) == t423) = true then ((kauditlaw03_awake.f kj4).bind fun t424 => (some t424)) else (some false))) else ((kauditlaw03_awake.f kj4).bind fun t425 => (some t425))) else ((kauditlaw03_awake.f kj4).bind fun t426 => (some t426))) = some r := H
      have A43 := Aside0.mk A430
      clear A430
      by_cases c44 : t420 = 0
      · rw [if_pos c44] at H
        have c44b0 : (t420 == 0) = true := beq_iff_eq.mpr c44
        have c44b1 : (t420 != 0) = false := bne_eq_false_iff_eq.mpr c44
        clear c44
        by_cases c45 : t422 = 0
        · rw [if_pos c45] at H
          have c45b0 : (t422 == 0) = true := beq_iff_eq.mpr c45
          have c45b1 : (t422 != 0) = false := bne_eq_false_iff_eq.mpr c45
          clear c45
          replace H := Option.bind_eq_some_iff.mp H
          obtain ⟨t423, A460, H⟩ := H
          replace H : (if ((t419.toList == t421.toList) == t423) = true then ((kauditlaw03_awake.f kj4).bind fun t424 => (some t424)) else (some false)) = some r := H
          have A46 := Aside0.mk A460
          clear A460
          by_cases c47 : ((t419.toList == t421.toList) == t423) = true
          · rw [if_pos c47] at H
            have c47b0 : ((t419.toList == t421.toList) == t423) = true := c47
            (try (have c47b1 : decide ((t419.toList == t421.toList) = t423) = true := by simpa using c47))
            (try (have c47b2 : ((t419.toList == t421.toList) == t423) = true := by simpa using c47))
            clear c47
            replace H := Option.bind_eq_some_iff.mp H
            obtain ⟨t424, A480, H⟩ := H
            replace H : (some t424) = some r := H
            have A48 := Aside0.mk A480
            clear A480
            obtain rfl := Option.some.inj H
            have hnb49 := NB395_396.out
            have hnc49 := NB396_395.out
            have hcz50_0 : wc.cell? ⟨gb395, 0, none⟩ = some (.int .i64 t388) := (blk_cell BK395.out 0).trans rfl
            have hcz50_1 : wc.cell? ⟨gb395, 1, none⟩ = some (.int .i64 t389) := (blk_cell BK395.out 1).trans rfl
            have hcz50_2 : wc.cell? ⟨gb395, 2, none⟩ = some (.int .i64 t390) := (blk_cell BK395.out 2).trans rfl
            have hcz50_3 : wc.cell? ⟨gb395, 3, none⟩ = some (.slice Ao11 t391.length co11) := (blk_cell BK395.out 3).trans rfl
            have hfz50_0 := blk_frozen BK395.out 0
            have hfz50_1 := blk_frozen BK395.out 1
            have hfz50_2 := blk_frozen BK395.out 2
            have hfz50_3 := blk_frozen BK395.out 3
            go_wp2_with (first | ((with_reducible refine gate_callee (f := 36) rfl ?_); refine goesL_ (some 41) rfl rfl Tryd.func36 (by kernel_rfl) rfl #[.agg #[.int .i64 t388, .int .i64 t389, .int .i64 t390, .slice Ao11 t391.length co11]] rfl (by (try simp only [List.map_toArray, List.map_cons, List.map_nil]); first | done | rfl | (simp only [List.length_drop, List.length_take]; rfl)) ?_; (with_reducible refine (record_Format.calls kj4 t388 t389 t390 _ _ t391 t419 t420 _ ?side1 ?side2 ?side3 A42.out).mono ?_); (case side1 => repeat (first | exact (Kd.R_reads' HO_396003.out).2.2 | (with_reducible refine Kd.C_alloc ?_ _) | (with_reducible refine Kd.C_drewN ?_ _) | (with_reducible refine Kd.C_drew ?_))); (case side2 => exact (Kd.R_reads' HO_396003.out).2.1); (case side3 => refine GL.below HGL.out ?_; repeat (first | (with_reducible first | exact HB.out | apply below_alloc | apply pw_below_drewN | apply below_drew1 | refine below_set ?_ GE395.out | refine below_set ?_ GE396.out) | exact HB.out)); rintro e w51 ⟨rfl, hb⟩; refine ⟨_, rfl, ?_⟩; have n0_ := Aside0.mk (Kd.R_below (by (with_reducible repeat (first | apply Kd.R_alloc | apply Kd.R_drewN | apply Kd.R_drew)); exact HO_396003.out) hb); have n1_ := Aside0.mk (Kd.R_below (by (with_reducible repeat (first | apply Kd.R_alloc | apply Kd.R_drewN | apply Kd.R_drew)); exact HO_397003.out) hb); have n2_ := Aside0.mk (blk_below (g := gb395) (o := .cells #[.int .i64 t388, .int .i64 t389, .int .i64 t390, .slice Ao11 t391.length co11] 50 (0, 0)) (by (with_reducible repeat (first | refine blk_drewN ?_ _ | refine blk_drew ?_ | refine blk_alloc ?_ _)); exact BK395.out) hb); have n3_ := Aside0.mk (blk_below (g := gb396) (o := .cells #[.int .i64 x397000_4, .int .i64 x397001_4, .int .i64 x397002_4, u397003] 50 (0, 0)) (by (with_reducible repeat (first | refine blk_drewN ?_ _ | refine blk_drew ?_ | refine blk_alloc ?_ _)); exact BK396.out) hb); have n4_ := Aside0.mk (below_step (by repeat (first | (with_reducible first | exact HB.out | apply below_alloc | apply pw_below_drewN | apply below_drew1 | refine below_set ?_ GE395.out | refine below_set ?_ GE396.out) | exact HB.out)) hb); clear HO_396003; clear HO_397003; clear BK395; clear BK396; clear HB; have HO_396003 := n0_; have HO_397003 := n1_; have BK395 := n2_; have BK396 := n3_; have HB := n4_; clear n0_ n1_ n2_ n3_ n4_; (try clear hb); (try clear hb2); (try clear hk); (try clear hi); have hcz52_0 : w51.cell? ⟨gb396, 0, none⟩ = some (.int .i64 x397000_4) := (blk_cell BK396.out 0).trans rfl; have hcz52_1 : w51.cell? ⟨gb396, 1, none⟩ = some (.int .i64 x397001_4) := (blk_cell BK396.out 1).trans rfl; have hcz52_2 : w51.cell? ⟨gb396, 2, none⟩ = some (.int .i64 x397002_4) := (blk_cell BK396.out 2).trans rfl; have hcz52_3 : w51.cell? ⟨gb396, 3, none⟩ = some (u397003) := (blk_cell BK396.out 3).trans rfl; have hfz52_0 := blk_frozen BK396.out 0; have hfz52_1 := blk_frozen BK396.out 1; have hfz52_2 := blk_frozen BK396.out 2; have hfz52_3 := blk_frozen BK396.out 3; obtain ⟨Ao53, co53, eo53⟩ := Kd.R_slice HO_397003.out; subst eo53) | ((with_reducible refine gate_callee (f := 36) rfl ?_); refine goesL_ (some 46) rfl rfl Tryd.func36 (by kernel_rfl) rfl #[.agg #[.int .i64 x397000_4, .int .i64 x397001_4, .int .i64 x397002_4, .slice Ao53 x397003_4.length co53]] rfl (by (try simp only [List.map_toArray, List.map_cons, List.map_nil]); first | done | rfl | (simp only [List.length_drop, List.length_take]; rfl)) ?_; (with_reducible refine (record_Format.calls kj4 x397000_4 x397001_4 x397002_4 _ _ x397003_4 t421 t422 _ ?side1 ?side2 ?side3 A43.out).mono ?_); (case side1 => repeat (first | exact (Kd.R_reads' HO_397003.out).2.2 | (with_reducible refine Kd.C_alloc ?_ _) | (with_reducible refine Kd.C_drewN ?_ _) | (with_reducible refine Kd.C_drew ?_))); (case side2 => exact (Kd.R_reads' HO_397003.out).2.1); (case side3 => refine GL.below HGL.out ?_; repeat (first | (with_reducible first | exact HB.out | apply below_alloc | apply pw_below_drewN | apply below_drew1 | refine below_set ?_ GE395.out | refine below_set ?_ GE396.out) | exact HB.out)); rintro e w54 ⟨rfl, hb⟩; refine ⟨_, rfl, ?_⟩; have n0_ := Aside0.mk (Kd.R_below (by (with_reducible repeat (first | apply Kd.R_alloc | apply Kd.R_drewN | apply Kd.R_drew)); exact HO_396003.out) hb); have n1_ := Aside0.mk (Kd.R_below (by (with_reducible repeat (first | apply Kd.R_alloc | apply Kd.R_drewN | apply Kd.R_drew)); exact HO_397003.out) hb); have n2_ := Aside0.mk (blk_below (g := gb395) (o := .cells #[.int .i64 t388, .int .i64 t389, .int .i64 t390, .slice Ao11 t391.length co11] 50 (0, 0)) (by (with_reducible repeat (first | refine blk_drewN ?_ _ | refine blk_drew ?_ | refine blk_alloc ?_ _)); exact BK395.out) hb); have n3_ := Aside0.mk (blk_below (g := gb396) (o := .cells #[.int .i64 x397000_4, .int .i64 x397001_4, .int .i64 x397002_4, .slice Ao53 x397003_4.length co53] 50 (0, 0)) (by (with_reducible repeat (first | refine blk_drewN ?_ _ | refine blk_drew ?_ | refine blk_alloc ?_ _)); exact BK396.out) hb); have n4_ := Aside0.mk (below_step (by repeat (first | (with_reducible first | exact HB.out | apply below_alloc | apply pw_below_drewN | apply below_drew1 | refine below_set ?_ GE395.out | refine below_set ?_ GE396.out) | exact HB.out)) hb); clear HO_396003; clear HO_397003; clear BK395; clear BK396; clear HB; have HO_396003 := n0_; have HO_397003 := n1_; have BK395 := n2_; have BK396 := n3_; have HB := n4_; clear n0_ n1_ n2_ n3_ n4_; (try clear hb); (try clear hb2); (try clear hk); (try clear hi); have hcz55_0 : w54.cell? ⟨gb395, 0, none⟩ = some (.int .i64 t388) := (blk_cell BK395.out 0).trans rfl; have hcz55_1 : w54.cell? ⟨gb395, 1, none⟩ = some (.int .i64 t389) := (blk_cell BK395.out 1).trans rfl; have hcz55_2 : w54.cell? ⟨gb395, 2, none⟩ = some (.int .i64 t390) := (blk_cell BK395.out 2).trans rfl; have hcz55_3 : w54.cell? ⟨gb395, 3, none⟩ = some (.slice Ao11 t391.length co11) := (blk_cell BK395.out 3).trans rfl; have hfz55_0 := blk_frozen BK395.out 0; have hfz55_1 := blk_frozen BK395.out 1; have hfz55_2 := blk_frozen BK395.out 2; have hfz55_3 := blk_frozen BK395.out 3; have hcz56_0 : w54.cell? ⟨gb396, 0, none⟩ = some (.int .i64 x397000_4) := (blk_cell BK396.out 0).trans rfl; have hcz56_1 : w54.cell? ⟨gb396, 1, none⟩ = some (.int .i64 x397001_4) := (blk_cell BK396.out 1).trans rfl; have hcz56_2 : w54.cell? ⟨gb396, 2, none⟩ = some (.int .i64 x397002_4) := (blk_cell BK396.out 2).trans rfl; have hcz56_3 : w54.cell? ⟨gb396, 3, none⟩ = some (.slice Ao53 x397003_4.length co53) := (blk_cell BK396.out 3).trans rfl; have hfz56_0 := blk_frozen BK396.out 0; have hfz56_1 := blk_frozen BK396.out 1; have hfz56_2 := blk_frozen BK396.out 2; have hfz56_3 := blk_frozen BK396.out 3) | (go_at_call 37; (with_reducible refine (kauditref03_Same.calls kj4 t388 t389 t390 _ _ t391 x397000_4 x397001_4 x397002_4 _ _ x397003_4 t423 _ ?side1 ?side2 ?side3 ?side4 A46.out).mono ?_); (case side1 => repeat (first | exact (Kd.R_reads' HO_396003.out).2.2 | (with_reducible refine Kd.C_alloc ?_ _) | (with_reducible refine Kd.C_drewN ?_ _) | (with_reducible refine Kd.C_drew ?_))); (case side2 => exact (Kd.R_reads' HO_396003.out).2.1); (case side3 => repeat (first | exact (Kd.R_reads' HO_397003.out).2.2 | (with_reducible refine Kd.C_alloc ?_ _) | (with_reducible refine Kd.C_drewN ?_ _) | (with_reducible refine Kd.C_drew ?_))); (case side4 => exact (Kd.R_reads' HO_397003.out).2.1); rintro e w57 ⟨rfl, hb⟩; have n0_ := Aside0.mk (Kd.R_below (by (with_reducible repeat (first | apply Kd.R_alloc | apply Kd.R_drewN | apply Kd.R_drew)); exact HO_396003.out) hb); have n1_ := Aside0.mk (Kd.R_below (by (with_reducible repeat (first | apply Kd.R_alloc | apply Kd.R_drewN | apply Kd.R_drew)); exact HO_397003.out) hb); have n2_ := Aside0.mk (blk_below (g := gb395) (o := .cells #[.int .i64 t388, .int .i64 t389, .int .i64 t390, .slice Ao11 t391.length co11] 50 (0, 0)) (by (with_reducible repeat (first | refine blk_drewN ?_ _ | refine blk_drew ?_ | refine blk_alloc ?_ _)); exact BK395.out) hb); have n3_ := Aside0.mk (blk_below (g := gb396) (o := .cells #[.int .i64 x397000_4, .int .i64 x397001_4, .int .i64 x397002_4, .slice Ao53 x397003_4.length co53] 50 (0, 0)) (by (with_reducible repeat (first | refine blk_drewN ?_ _ | refine blk_drew ?_ | refine blk_alloc ?_ _)); exact BK396.out) hb); have n4_ := Aside0.mk (below_step (by repeat (first | (with_reducible first | exact HB.out | apply below_alloc | apply pw_below_drewN | apply below_drew1 | refine below_set ?_ GE395.out | refine below_set ?_ GE396.out) | exact HB.out)) hb); clear HO_396003; clear HO_397003; clear BK395; clear BK396; clear HB; have HO_396003 := n0_; have HO_397003 := n1_; have BK395 := n2_; have BK396 := n3_; have HB := n4_; clear n0_ n1_ n2_ n3_ n4_; (try clear hb); (try clear hb2); (try clear hk); (try clear hi)) | (go_at_call 30; (with_reducible refine (kauditlaw03_awake.calls kj4  t424 _ ?side1 A48.out).mono ?_); (case side1 => refine GL.below HGL.out ?_; repeat (first | (with_reducible first | exact HB.out | apply below_alloc | apply pw_below_drewN | apply below_drew1 | refine below_set ?_ GE395.out | refine below_set ?_ GE396.out) | exact HB.out)); rintro e w58 ⟨rfl, hb⟩; have n0_ := Aside0.mk (Kd.R_below (by (with_reducible repeat (first | apply Kd.R_alloc | apply Kd.R_drewN | apply Kd.R_drew)); exact HO_396003.out) hb); have n1_ := Aside0.mk (Kd.R_below (by (with_reducible repeat (first | apply Kd.R_alloc | apply Kd.R_drewN | apply Kd.R_drew)); exact HO_397003.out) hb); have n2_ := Aside0.mk (blk_below (g := gb395) (o := .cells #[.int .i64 t388, .int .i64 t389, .int .i64 t390, .slice Ao11 t391.length co11] 50 (0, 0)) (by (with_reducible repeat (first | refine blk_drewN ?_ _ | refine blk_drew ?_ | refine blk_alloc ?_ _)); exact BK395.out) hb); have n3_ := Aside0.mk (blk_below (g := gb396) (o := .cells #[.int .i64 x397000_4, .int .i64 x397001_4, .int .i64 x397002_4, .slice Ao53 x397003_4.length co53] 50 (0, 0)) (by (with_reducible repeat (first | refine blk_drewN ?_ _ | refine blk_drew ?_ | refine blk_alloc ?_ _)); exact BK396.out) hb); have n4_ := Aside0.mk (below_step (by repeat (first | (with_reducible first | exact HB.out | apply below_alloc | apply pw_below_drewN | apply below_drew1 | refine below_set ?_ GE395.out | refine below_set ?_ GE396.out) | exact HB.out)) hb); clear HO_396003; clear HO_397003; clear BK395; clear BK396; clear HB; have HO_396003 := n0_; have HO_397003 := n1_; have BK395 := n2_; have BK396 := n3_; have HB := n4_; clear n0_ n1_ n2_ n3_ n4_; (try clear hb); (try clear hb2); (try clear hk); (try clear hi)))
            go_ret
            exact ⟨by first | rfl | (simp [errW_none, errW_some] <;> rfl) | (simp [*, errW_none, errW_some] <;> rfl) | (simp only [isEmpty_ne_, isEmpty_eq_]; rfl) | (simp [*, isEmpty_ne_, isEmpty_eq_]; done), by repeat (first | (with_reducible first | exact HB.out | apply below_alloc | apply pw_below_drewN | apply below_drew1 | refine below_set ?_ GE395.out | refine below_set ?_ GE396.out) | exact HB.out)⟩
          · rw [if_neg c47] at H
            have c47b0 : ((t419.toList == t421.toList) == t423) = false := by simpa using c47
            (try (have c47b1 : decide ((t419.toList == t421.toList) = t423) = false := by simpa using c47))
            (try (have c47b2 : ((t419.toList == t421.toList) == t423) = false := by simpa using c47))
            (try (have c47b3 : ¬ ((t419.toList == t421.toList) = t423) := by simpa using c47))
            clear c47
            obtain rfl := Option.some.inj H
            have hnb59 := NB395_396.out
            have hnc59 := NB396_395.out
            have hcz60_0 : wc.cell? ⟨gb395, 0, none⟩ = some (.int .i64 t388) := (blk_cell BK395.out 0).trans rfl
            have hcz60_1 : wc.cell? ⟨gb395, 1, none⟩ = some (.int .i64 t389) := (blk_cell BK395.out 1).trans rfl
            have hcz60_2 : wc.cell? ⟨gb395, 2, none⟩ = some (.int .i64 t390) := (blk_cell BK395.out 2).trans rfl
            have hcz60_3 : wc.cell? ⟨gb395, 3, none⟩ = some (.slice Ao11 t391.length co11) := (blk_cell BK395.out 3).trans rfl
            have hfz60_0 := blk_frozen BK395.out 0
            have hfz60_1 := blk_frozen BK395.out 1
            have hfz60_2 := blk_frozen BK395.out 2
            have hfz60_3 := blk_frozen BK395.out 3
            go_wp2_with (first | ((with_reducible refine gate_callee (f := 36) rfl ?_); refine goesL_ (some 41) rfl rfl Tryd.func36 (by kernel_rfl) rfl #[.agg #[.int .i64 t388, .int .i64 t389, .int .i64 t390, .slice Ao11 t391.length co11]] rfl (by (try simp only [List.map_toArray, List.map_cons, List.map_nil]); first | done | rfl | (simp only [List.length_drop, List.length_take]; rfl)) ?_; (with_reducible refine (record_Format.calls kj4 t388 t389 t390 _ _ t391 t419 t420 _ ?side1 ?side2 ?side3 A42.out).mono ?_); (case side1 => repeat (first | exact (Kd.R_reads' HO_396003.out).2.2 | (with_reducible refine Kd.C_alloc ?_ _) | (with_reducible refine Kd.C_drewN ?_ _) | (with_reducible refine Kd.C_drew ?_))); (case side2 => exact (Kd.R_reads' HO_396003.out).2.1); (case side3 => refine GL.below HGL.out ?_; repeat (first | (with_reducible first | exact HB.out | apply below_alloc | apply pw_below_drewN | apply below_drew1 | refine below_set ?_ GE395.out | refine below_set ?_ GE396.out) | exact HB.out)); rintro e w61 ⟨rfl, hb⟩; refine ⟨_, rfl, ?_⟩; have n0_ := Aside0.mk (Kd.R_below (by (with_reducible repeat (first | apply Kd.R_alloc | apply Kd.R_drewN | apply Kd.R_drew)); exact HO_396003.out) hb); have n1_ := Aside0.mk (Kd.R_below (by (with_reducible repeat (first | apply Kd.R_alloc | apply Kd.R_drewN | apply Kd.R_drew)); exact HO_397003.out) hb); have n2_ := Aside0.mk (blk_below (g := gb395) (o := .cells #[.int .i64 t388, .int .i64 t389, .int .i64 t390, .slice Ao11 t391.length co11] 50 (0, 0)) (by (with_reducible repeat (first | refine blk_drewN ?_ _ | refine blk_drew ?_ | refine blk_alloc ?_ _)); exact BK395.out) hb); have n3_ := Aside0.mk (blk_below (g := gb396) (o := .cells #[.int .i64 x397000_4, .int .i64 x397001_4, .int .i64 x397002_4, u397003] 50 (0, 0)) (by (with_reducible repeat (first | refine blk_drewN ?_ _ | refine blk_drew ?_ | refine blk_alloc ?_ _)); exact BK396.out) hb); have n4_ := Aside0.mk (below_step (by repeat (first | (with_reducible first | exact HB.out | apply below_alloc | apply pw_below_drewN | apply below_drew1 | refine below_set ?_ GE395.out | refine below_set ?_ GE396.out) | exact HB.out)) hb); clear HO_396003; clear HO_397003; clear BK395; clear BK396; clear HB; have HO_396003 := n0_; have HO_397003 := n1_; have BK395 := n2_; have BK396 := n3_; have HB := n4_; clear n0_ n1_ n2_ n3_ n4_; (try clear hb); (try clear hb2); (try clear hk); (try clear hi); have hcz62_0 : w61.cell? ⟨gb396, 0, none⟩ = some (.int .i64 x397000_4) := (blk_cell BK396.out 0).trans rfl; have hcz62_1 : w61.cell? ⟨gb396, 1, none⟩ = some (.int .i64 x397001_4) := (blk_cell BK396.out 1).trans rfl; have hcz62_2 : w61.cell? ⟨gb396, 2, none⟩ = some (.int .i64 x397002_4) := (blk_cell BK396.out 2).trans rfl; have hcz62_3 : w61.cell? ⟨gb396, 3, none⟩ = some (u397003) := (blk_cell BK396.out 3).trans rfl; have hfz62_0 := blk_frozen BK396.out 0; have hfz62_1 := blk_frozen BK396.out 1; have hfz62_2 := blk_frozen BK396.out 2; have hfz62_3 := blk_frozen BK396.out 3; obtain ⟨Ao63, co63, eo63⟩ := Kd.R_slice HO_397003.out; subst eo63) | ((with_reducible refine gate_callee (f := 36) rfl ?_); refine goesL_ (some 46) rfl rfl Tryd.func36 (by kernel_rfl) rfl #[.agg #[.int .i64 x397000_4, .int .i64 x397001_4, .int .i64 x397002_4, .slice Ao63 x397003_4.length co63]] rfl (by (try simp only [List.map_toArray, List.map_cons, List.map_nil]); first | done | rfl | (simp only [List.length_drop, List.length_take]; rfl)) ?_; (with_reducible refine (record_Format.calls kj4 x397000_4 x397001_4 x397002_4 _ _ x397003_4 t421 t422 _ ?side1 ?side2 ?side3 A43.out).mono ?_); (case side1 => repeat (first | exact (Kd.R_reads' HO_397003.out).2.2 | (with_reducible refine Kd.C_alloc ?_ _) | (with_reducible refine Kd.C_drewN ?_ _) | (with_reducible refine Kd.C_drew ?_))); (case side2 => exact (Kd.R_reads' HO_397003.out).2.1); (case side3 => refine GL.below HGL.out ?_; repeat (first | (with_reducible first | exact HB.out | apply below_alloc | apply pw_below_drewN | apply below_drew1 | refine below_set ?_ GE395.out | refine below_set ?_ GE396.out) | exact HB.out)); rintro e w64 ⟨rfl, hb⟩; refine ⟨_, rfl, ?_⟩; have n0_ := Aside0.mk (Kd.R_below (by (with_reducible repeat (first | apply Kd.R_alloc | apply Kd.R_drewN | apply Kd.R_drew)); exact HO_396003.out) hb); have n1_ := Aside0.mk (Kd.R_below (by (with_reducible repeat (first | apply Kd.R_alloc | apply Kd.R_drewN | apply Kd.R_drew)); exact HO_397003.out) hb); have n2_ := Aside0.mk (blk_below (g := gb395) (o := .cells #[.int .i64 t388, .int .i64 t389, .int .i64 t390, .slice Ao11 t391.length co11] 50 (0, 0)) (by (with_reducible repeat (first | refine blk_drewN ?_ _ | refine blk_drew ?_ | refine blk_alloc ?_ _)); exact BK395.out) hb); have n3_ := Aside0.mk (blk_below (g := gb396) (o := .cells #[.int .i64 x397000_4, .int .i64 x397001_4, .int .i64 x397002_4, .slice Ao63 x397003_4.length co63] 50 (0, 0)) (by (with_reducible repeat (first | refine blk_drewN ?_ _ | refine blk_drew ?_ | refine blk_alloc ?_ _)); exact BK396.out) hb); have n4_ := Aside0.mk (below_step (by repeat (first | (with_reducible first | exact HB.out | apply below_alloc | apply pw_below_drewN | apply below_drew1 | refine below_set ?_ GE395.out | refine below_set ?_ GE396.out) | exact HB.out)) hb); clear HO_396003; clear HO_397003; clear BK395; clear BK396; clear HB; have HO_396003 := n0_; have HO_397003 := n1_; have BK395 := n2_; have BK396 := n3_; have HB := n4_; clear n0_ n1_ n2_ n3_ n4_; (try clear hb); (try clear hb2); (try clear hk); (try clear hi); have hcz65_0 : w64.cell? ⟨gb395, 0, none⟩ = some (.int .i64 t388) := (blk_cell BK395.out 0).trans rfl; have hcz65_1 : w64.cell? ⟨gb395, 1, none⟩ = some (.int .i64 t389) := (blk_cell BK395.out 1).trans rfl; have hcz65_2 : w64.cell? ⟨gb395, 2, none⟩ = some (.int .i64 t390) := (blk_cell BK395.out 2).trans rfl; have hcz65_3 : w64.cell? ⟨gb395, 3, none⟩ = some (.slice Ao11 t391.length co11) := (blk_cell BK395.out 3).trans rfl; have hfz65_0 := blk_frozen BK395.out 0; have hfz65_1 := blk_frozen BK395.out 1; have hfz65_2 := blk_frozen BK395.out 2; have hfz65_3 := blk_frozen BK395.out 3; have hcz66_0 : w64.cell? ⟨gb396, 0, none⟩ = some (.int .i64 x397000_4) := (blk_cell BK396.out 0).trans rfl; have hcz66_1 : w64.cell? ⟨gb396, 1, none⟩ = some (.int .i64 x397001_4) := (blk_cell BK396.out 1).trans rfl; have hcz66_2 : w64.cell? ⟨gb396, 2, none⟩ = some (.int .i64 x397002_4) := (blk_cell BK396.out 2).trans rfl; have hcz66_3 : w64.cell? ⟨gb396, 3, none⟩ = some (.slice Ao63 x397003_4.length co63) := (blk_cell BK396.out 3).trans rfl; have hfz66_0 := blk_frozen BK396.out 0; have hfz66_1 := blk_frozen BK396.out 1; have hfz66_2 := blk_frozen BK396.out 2; have hfz66_3 := blk_frozen BK396.out 3) | (go_at_call 37; (with_reducible refine (kauditref03_Same.calls kj4 t388 t389 t390 _ _ t391 x397000_4 x397001_4 x397002_4 _ _ x397003_4 t423 _ ?side1 ?side2 ?side3 ?side4 A46.out).mono ?_); (case side1 => repeat (first | exact (Kd.R_reads' HO_396003.out).2.2 | (with_reducible refine Kd.C_alloc ?_ _) | (with_reducible refine Kd.C_drewN ?_ _) | (with_reducible refine Kd.C_drew ?_))); (case side2 => exact (Kd.R_reads' HO_396003.out).2.1); (case side3 => repeat (first | exact (Kd.R_reads' HO_397003.out).2.2 | (with_reducible refine Kd.C_alloc ?_ _) | (with_reducible refine Kd.C_drewN ?_ _) | (with_reducible refine Kd.C_drew ?_))); (case side4 => exact (Kd.R_reads' HO_397003.out).2.1); rintro e w67 ⟨rfl, hb⟩; have n0_ := Aside0.mk (Kd.R_below (by (with_reducible repeat (first | apply Kd.R_alloc | apply Kd.R_drewN | apply Kd.R_drew)); exact HO_396003.out) hb); have n1_ := Aside0.mk (Kd.R_below (by (with_reducible repeat (first | apply Kd.R_alloc | apply Kd.R_drewN | apply Kd.R_drew)); exact HO_397003.out) hb); have n2_ := Aside0.mk (blk_below (g := gb395) (o := .cells #[.int .i64 t388, .int .i64 t389, .int .i64 t390, .slice Ao11 t391.length co11] 50 (0, 0)) (by (with_reducible repeat (first | refine blk_drewN ?_ _ | refine blk_drew ?_ | refine blk_alloc ?_ _)); exact BK395.out) hb); have n3_ := Aside0.mk (blk_below (g := gb396) (o := .cells #[.int .i64 x397000_4, .int .i64 x397001_4, .int .i64 x397002_4, .slice Ao63 x397003_4.length co63] 50 (0, 0)) (by (with_reducible repeat (first | refine blk_drewN ?_ _ | refine blk_drew ?_ | refine blk_alloc ?_ _)); exact BK396.out) hb); have n4_ := Aside0.mk (below_step (by repeat (first | (with_reducible first | exact HB.out | apply below_alloc | apply pw_below_drewN | apply below_drew1 | refine below_set ?_ GE395.out | refine below_set ?_ GE396.out) | exact HB.out)) hb); clear HO_396003; clear HO_397003; clear BK395; clear BK396; clear HB; have HO_396003 := n0_; have HO_397003 := n1_; have BK395 := n2_; have BK396 := n3_; have HB := n4_; clear n0_ n1_ n2_ n3_ n4_; (try clear hb); (try clear hb2); (try clear hk); (try clear hi)))
            go_ret
            exact ⟨by first | rfl | (simp [errW_none, errW_some] <;> rfl) | (simp [*, errW_none, errW_some] <;> rfl) | (simp only [isEmpty_ne_, isEmpty_eq_]; rfl) | (simp [*, isEmpty_ne_, isEmpty_eq_]; done), by repeat (first | (with_reducible first | exact HB.out | apply below_alloc | apply pw_below_drewN | apply below_drew1 | refine below_set ?_ GE395.out | refine below_set ?_ GE396.out) | exact HB.out)⟩
        · rw [if_neg c45] at H
          have c45b0 : (t422 == 0) = false := beq_eq_false_iff_ne.mpr c45
          have c45b1 : (t422 != 0) = true := bne_iff_ne.mpr c45
          replace H := Option.bind_eq_some_iff.mp H
          obtain ⟨t425, A680, H⟩ := H
          replace H : (some t425) = some r := H
          have A68 := Aside0.mk A680
          clear A680
          obtain rfl := Option.some.inj H
          have hnb69 := NB395_396.out
          have hnc69 := NB396_395.out
          have hcz70_0 : wc.cell? ⟨gb395, 0, none⟩ = some (.int .i64 t388) := (blk_cell BK395.out 0).trans rfl
          have hcz70_1 : wc.cell? ⟨gb395, 1, none⟩ = some (.int .i64 t389) := (blk_cell BK395.out 1).trans rfl
          have hcz70_2 : wc.cell? ⟨gb395, 2, none⟩ = some (.int .i64 t390) := (blk_cell BK395.out 2).trans rfl
          have hcz70_3 : wc.cell? ⟨gb395, 3, none⟩ = some (.slice Ao11 t391.length co11) := (blk_cell BK395.out 3).trans rfl
          have hfz70_0 := blk_frozen BK395.out 0
          have hfz70_1 := blk_frozen BK395.out 1
          have hfz70_2 := blk_frozen BK395.out 2
          have hfz70_3 := blk_frozen BK395.out 3
          go_wp2_with (first | ((with_reducible refine gate_callee (f := 36) rfl ?_); refine goesL_ (some 41) rfl rfl Tryd.func36 (by kernel_rfl) rfl #[.agg #[.int .i64 t388, .int .i64 t389, .int .i64 t390, .slice Ao11 t391.length co11]] rfl (by (try simp only [List.map_toArray, List.map_cons, List.map_nil]); first | done | rfl | (simp only [List.length_drop, List.length_take]; rfl)) ?_; (with_reducible refine (record_Format.calls kj4 t388 t389 t390 _ _ t391 t419 t420 _ ?side1 ?side2 ?side3 A42.out).mono ?_); (case side1 => repeat (first | exact (Kd.R_reads' HO_396003.out).2.2 | (with_reducible refine Kd.C_alloc ?_ _) | (with_reducible refine Kd.C_drewN ?_ _) | (with_reducible refine Kd.C_drew ?_))); (case side2 => exact (Kd.R_reads' HO_396003.out).2.1); (case side3 => refine GL.below HGL.out ?_; repeat (first | (with_reducible first | exact HB.out | apply below_alloc | apply pw_below_drewN | apply below_drew1 | refine below_set ?_ GE395.out | refine below_set ?_ GE396.out) | exact HB.out)); rintro e w71 ⟨rfl, hb⟩; refine ⟨_, rfl, ?_⟩; have n0_ := Aside0.mk (Kd.R_below (by (with_reducible repeat (first | apply Kd.R_alloc | apply Kd.R_drewN | apply Kd.R_drew)); exact HO_396003.out) hb); have n1_ := Aside0.mk (Kd.R_below (by (with_reducible repeat (first | apply Kd.R_alloc | apply Kd.R_drewN | apply Kd.R_drew)); exact HO_397003.out) hb); have n2_ := Aside0.mk (blk_below (g := gb395) (o := .cells #[.int .i64 t388, .int .i64 t389, .int .i64 t390, .slice Ao11 t391.length co11] 50 (0, 0)) (by (with_reducible repeat (first | refine blk_drewN ?_ _ | refine blk_drew ?_ | refine blk_alloc ?_ _)); exact BK395.out) hb); have n3_ := Aside0.mk (blk_below (g := gb396) (o := .cells #[.int .i64 x397000_4, .int .i64 x397001_4, .int .i64 x397002_4, u397003] 50 (0, 0)) (by (with_reducible repeat (first | refine blk_drewN ?_ _ | refine blk_drew ?_ | refine blk_alloc ?_ _)); exact BK396.out) hb); have n4_ := Aside0.mk (below_step (by repeat (first | (with_reducible first | exact HB.out | apply below_alloc | apply pw_below_drewN | apply below_drew1 | refine below_set ?_ GE395.out | refine below_set ?_ GE396.out) | exact HB.out)) hb); clear HO_396003; clear HO_397003; clear BK395; clear BK396; clear HB; have HO_396003 := n0_; have HO_397003 := n1_; have BK395 := n2_; have BK396 := n3_; have HB := n4_; clear n0_ n1_ n2_ n3_ n4_; (try clear hb); (try clear hb2); (try clear hk); (try clear hi); have hcz72_0 : w71.cell? ⟨gb396, 0, none⟩ = some (.int .i64 x397000_4) := (blk_cell BK396.out 0).trans rfl; have hcz72_1 : w71.cell? ⟨gb396, 1, none⟩ = some (.int .i64 x397001_4) := (blk_cell BK396.out 1).trans rfl; have hcz72_2 : w71.cell? ⟨gb396, 2, none⟩ = some (.int .i64 x397002_4) := (blk_cell BK396.out 2).trans rfl; have hcz72_3 : w71.cell? ⟨gb396, 3, none⟩ = some (u397003) := (blk_cell BK396.out 3).trans rfl; have hfz72_0 := blk_frozen BK396.out 0; have hfz72_1 := blk_frozen BK396.out 1; have hfz72_2 := blk_frozen BK396.out 2; have hfz72_3 := blk_frozen BK396.out 3; obtain ⟨Ao73, co73, eo73⟩ := Kd.R_slice HO_397003.out; subst eo73) | ((with_reducible refine gate_callee (f := 36) rfl ?_); refine goesL_ (some 46) rfl rfl Tryd.func36 (by kernel_rfl) rfl #[.agg #[.int .i64 x397000_4, .int .i64 x397001_4, .int .i64 x397002_4, .slice Ao73 x397003_4.length co73]] rfl (by (try simp only [List.map_toArray, List.map_cons, List.map_nil]); first | done | rfl | (simp only [List.length_drop, List.length_take]; rfl)) ?_; (with_reducible refine (record_Format.calls kj4 x397000_4 x397001_4 x397002_4 _ _ x397003_4 t421 t422 _ ?side1 ?side2 ?side3 A43.out).mono ?_); (case side1 => repeat (first | exact (Kd.R_reads' HO_397003.out).2.2 | (with_reducible refine Kd.C_alloc ?_ _) | (with_reducible refine Kd.C_drewN ?_ _) | (with_reducible refine Kd.C_drew ?_))); (case side2 => exact (Kd.R_reads' HO_397003.out).2.1); (case side3 => refine GL.below HGL.out ?_; repeat (first | (with_reducible first | exact HB.out | apply below_alloc | apply pw_below_drewN | apply below_drew1 | refine below_set ?_ GE395.out | refine below_set ?_ GE396.out) | exact HB.out)); rintro e w74 ⟨rfl, hb⟩; refine ⟨_, rfl, ?_⟩; have n0_ := Aside0.mk (Kd.R_below (by (with_reducible repeat (first | apply Kd.R_alloc | apply Kd.R_drewN | apply Kd.R_drew)); exact HO_396003.out) hb); have n1_ := Aside0.mk (Kd.R_below (by (with_reducible repeat (first | apply Kd.R_alloc | apply Kd.R_drewN | apply Kd.R_drew)); exact HO_397003.out) hb); have n2_ := Aside0.mk (blk_below (g := gb395) (o := .cells #[.int .i64 t388, .int .i64 t389, .int .i64 t390, .slice Ao11 t391.length co11] 50 (0, 0)) (by (with_reducible repeat (first | refine blk_drewN ?_ _ | refine blk_drew ?_ | refine blk_alloc ?_ _)); exact BK395.out) hb); have n3_ := Aside0.mk (blk_below (g := gb396) (o := .cells #[.int .i64 x397000_4, .int .i64 x397001_4, .int .i64 x397002_4, .slice Ao73 x397003_4.length co73] 50 (0, 0)) (by (with_reducible repeat (first | refine blk_drewN ?_ _ | refine blk_drew ?_ | refine blk_alloc ?_ _)); exact BK396.out) hb); have n4_ := Aside0.mk (below_step (by repeat (first | (with_reducible first | exact HB.out | apply below_alloc | apply pw_below_drewN | apply below_drew1 | refine below_set ?_ GE395.out | refine below_set ?_ GE396.out) | exact HB.out)) hb); clear HO_396003; clear HO_397003; clear BK395; clear BK396; clear HB; have HO_396003 := n0_; have HO_397003 := n1_; have BK395 := n2_; have BK396 := n3_; have HB := n4_; clear n0_ n1_ n2_ n3_ n4_; (try clear hb); (try clear hb2); (try clear hk); (try clear hi)) | (go_at_call 30; (with_reducible refine (kauditlaw03_awake.calls kj4  t425 _ ?side1 A68.out).mono ?_); (case side1 => refine GL.below HGL.out ?_; repeat (first | (with_reducible first | exact HB.out | apply below_alloc | apply pw_below_drewN | apply below_drew1 | refine below_set ?_ GE395.out | refine below_set ?_ GE396.out) | exact HB.out)); rintro e w75 ⟨rfl, hb⟩; have n0_ := Aside0.mk (Kd.R_below (by (with_reducible repeat (first | apply Kd.R_alloc | apply Kd.R_drewN | apply Kd.R_drew)); exact HO_396003.out) hb); have n1_ := Aside0.mk (Kd.R_below (by (with_reducible repeat (first | apply Kd.R_alloc | apply Kd.R_drewN | apply Kd.R_drew)); exact HO_397003.out) hb); have n2_ := Aside0.mk (blk_below (g := gb395) (o := .cells #[.int .i64 t388, .int .i64 t389, .int .i64 t390, .slice Ao11 t391.length co11] 50 (0, 0)) (by (with_reducible repeat (first | refine blk_drewN ?_ _ | refine blk_drew ?_ | refine blk_alloc ?_ _)); exact BK395.out) hb); have n3_ := Aside0.mk (blk_below (g := gb396) (o := .cells #[.int .i64 x397000_4, .int .i64 x397001_4, .int .i64 x397002_4, .slice Ao73 x397003_4.length co73] 50 (0, 0)) (by (with_reducible repeat (first | refine blk_drewN ?_ _ | refine blk_drew ?_ | refine blk_alloc ?_ _)); exact BK396.out) hb); have n4_ := Aside0.mk (below_step (by repeat (first | (with_reducible first | exact HB.out | apply below_alloc | apply pw_below_drewN | apply below_drew1 | refine below_set ?_ GE395.out | refine below_set ?_ GE396.out) | exact HB.out)) hb); clear HO_396003; clear HO_397003; clear BK395; clear BK396; clear HB; have HO_396003 := n0_; have HO_397003 := n1_; have BK395 := n2_; have BK396 := n3_; have HB := n4_; clear n0_ n1_ n2_ n3_ n4_; (try clear hb); (try clear hb2); (try clear hk); (try clear hi)))
          go_ret
          exact ⟨by first | rfl | (simp [errW_none, errW_some] <;> rfl) | (simp [*, errW_none, errW_some] <;> rfl) | (simp only [isEmpty_ne_, isEmpty_eq_]; rfl) | (simp [*, isEmpty_ne_, isEmpty_eq_]; done), by repeat (first | (with_reducible first | exact HB.out | apply below_alloc | apply pw_below_drewN | apply below_drew1 | refine below_set ?_ GE395.out | refine below_set ?_ GE396.out) | exact HB.out)⟩
      · rw [if_neg c44] at H
        have c44b0 : (t420 == 0) = false := beq_eq_false_iff_ne.mpr c44
        have c44b1 : (t420 != 0) = true := bne_iff_ne.mpr c44
        replace H := Option.bind_eq_some_iff.mp H
        obtain ⟨t426, A760, H⟩ := H
        replace H : (some t426) = some r := H
        have A76 := Aside0.mk A760
        clear A760
        obtain rfl := Option.some.inj H
        have hnb77 := NB395_396.out
        have hnc77 := NB396_395.out
        have hcz78_0 : wc.cell? ⟨gb395, 0, none⟩ = some (.int .i64 t388) := (blk_cell BK395.out 0).trans rfl
        have hcz78_1 : wc.cell? ⟨gb395, 1, none⟩ = some (.int .i64 t389) := (blk_cell BK395.out 1).trans rfl
        have hcz78_2 : wc.cell? ⟨gb395, 2, none⟩ = some (.int .i64 t390) := (blk_cell BK395.out 2).trans rfl
        have hcz78_3 : wc.cell? ⟨gb395, 3, none⟩ = some (.slice Ao11 t391.length co11) := (blk_cell BK395.out 3).trans rfl
        have hfz78_0 := blk_frozen BK395.out 0
        have hfz78_1 := blk_frozen BK395.out 1
        have hfz78_2 := blk_frozen BK395.out 2
        have hfz78_3 := blk_frozen BK395.out 3
        go_wp2_with (first | ((with_reducible refine gate_callee (f := 36) rfl ?_); refine goesL_ (some 41) rfl rfl Tryd.func36 (by kernel_rfl) rfl #[.agg #[.int .i64 t388, .int .i64 t389, .int .i64 t390, .slice Ao11 t391.length co11]] rfl (by (try simp only [List.map_toArray, List.map_cons, List.map_nil]); first | done | rfl | (simp only [List.length_drop, List.length_take]; rfl)) ?_; (with_reducible refine (record_Format.calls kj4 t388 t389 t390 _ _ t391 t419 t420 _ ?side1 ?side2 ?side3 A42.out).mono ?_); (case side1 => repeat (first | exact (Kd.R_reads' HO_396003.out).2.2 | (with_reducible refine Kd.C_alloc ?_ _) | (with_reducible refine Kd.C_drewN ?_ _) | (with_reducible refine Kd.C_drew ?_))); (case side2 => exact (Kd.R_reads' HO_396003.out).2.1); (case side3 => refine GL.below HGL.out ?_; repeat (first | (with_reducible first | exact HB.out | apply below_alloc | apply pw_below_drewN | apply below_drew1 | refine below_set ?_ GE395.out | refine below_set ?_ GE396.out) | exact HB.out)); rintro e w79 ⟨rfl, hb⟩; refine ⟨_, rfl, ?_⟩; have n0_ := Aside0.mk (Kd.R_below (by (with_reducible repeat (first | apply Kd.R_alloc | apply Kd.R_drewN | apply Kd.R_drew)); exact HO_396003.out) hb); have n1_ := Aside0.mk (Kd.R_below (by (with_reducible repeat (first | apply Kd.R_alloc | apply Kd.R_drewN | apply Kd.R_drew)); exact HO_397003.out) hb); have n2_ := Aside0.mk (blk_below (g := gb395) (o := .cells #[.int .i64 t388, .int .i64 t389, .int .i64 t390, .slice Ao11 t391.length co11] 50 (0, 0)) (by (with_reducible repeat (first | refine blk_drewN ?_ _ | refine blk_drew ?_ | refine blk_alloc ?_ _)); exact BK395.out) hb); have n3_ := Aside0.mk (blk_below (g := gb396) (o := .cells #[.int .i64 x397000_4, .int .i64 x397001_4, .int .i64 x397002_4, u397003] 50 (0, 0)) (by (with_reducible repeat (first | refine blk_drewN ?_ _ | refine blk_drew ?_ | refine blk_alloc ?_ _)); exact BK396.out) hb); have n4_ := Aside0.mk (below_step (by repeat (first | (with_reducible first | exact HB.out | apply below_alloc | apply pw_below_drewN | apply below_drew1 | refine below_set ?_ GE395.out | refine below_set ?_ GE396.out) | exact HB.out)) hb); clear HO_396003; clear HO_397003; clear BK395; clear BK396; clear HB; have HO_396003 := n0_; have HO_397003 := n1_; have BK395 := n2_; have BK396 := n3_; have HB := n4_; clear n0_ n1_ n2_ n3_ n4_; (try clear hb); (try clear hb2); (try clear hk); (try clear hi); have hcz80_0 : w79.cell? ⟨gb396, 0, none⟩ = some (.int .i64 x397000_4) := (blk_cell BK396.out 0).trans rfl; have hcz80_1 : w79.cell? ⟨gb396, 1, none⟩ = some (.int .i64 x397001_4) := (blk_cell BK396.out 1).trans rfl; have hcz80_2 : w79.cell? ⟨gb396, 2, none⟩ = some (.int .i64 x397002_4) := (blk_cell BK396.out 2).trans rfl; have hcz80_3 : w79.cell? ⟨gb396, 3, none⟩ = some (u397003) := (blk_cell BK396.out 3).trans rfl; have hfz80_0 := blk_frozen BK396.out 0; have hfz80_1 := blk_frozen BK396.out 1; have hfz80_2 := blk_frozen BK396.out 2; have hfz80_3 := blk_frozen BK396.out 3; obtain ⟨Ao81, co81, eo81⟩ := Kd.R_slice HO_397003.out; subst eo81) | ((with_reducible refine gate_callee (f := 36) rfl ?_); refine goesL_ (some 46) rfl rfl Tryd.func36 (by kernel_rfl) rfl #[.agg #[.int .i64 x397000_4, .int .i64 x397001_4, .int .i64 x397002_4, .slice Ao81 x397003_4.length co81]] rfl (by (try simp only [List.map_toArray, List.map_cons, List.map_nil]); first | done | rfl | (simp only [List.length_drop, List.length_take]; rfl)) ?_; (with_reducible refine (record_Format.calls kj4 x397000_4 x397001_4 x397002_4 _ _ x397003_4 t421 t422 _ ?side1 ?side2 ?side3 A43.out).mono ?_); (case side1 => repeat (first | exact (Kd.R_reads' HO_397003.out).2.2 | (with_reducible refine Kd.C_alloc ?_ _) | (with_reducible refine Kd.C_drewN ?_ _) | (with_reducible refine Kd.C_drew ?_))); (case side2 => exact (Kd.R_reads' HO_397003.out).2.1); (case side3 => refine GL.below HGL.out ?_; repeat (first | (with_reducible first | exact HB.out | apply below_alloc | apply pw_below_drewN | apply below_drew1 | refine below_set ?_ GE395.out | refine below_set ?_ GE396.out) | exact HB.out)); rintro e w82 ⟨rfl, hb⟩; refine ⟨_, rfl, ?_⟩; have n0_ := Aside0.mk (Kd.R_below (by (with_reducible repeat (first | apply Kd.R_alloc | apply Kd.R_drewN | apply Kd.R_drew)); exact HO_396003.out) hb); have n1_ := Aside0.mk (Kd.R_below (by (with_reducible repeat (first | apply Kd.R_alloc | apply Kd.R_drewN | apply Kd.R_drew)); exact HO_397003.out) hb); have n2_ := Aside0.mk (blk_below (g := gb395) (o := .cells #[.int .i64 t388, .int .i64 t389, .int .i64 t390, .slice Ao11 t391.length co11] 50 (0, 0)) (by (with_reducible repeat (first | refine blk_drewN ?_ _ | refine blk_drew ?_ | refine blk_alloc ?_ _)); exact BK395.out) hb); have n3_ := Aside0.mk (blk_below (g := gb396) (o := .cells #[.int .i64 x397000_4, .int .i64 x397001_4, .int .i64 x397002_4, .slice Ao81 x397003_4.length co81] 50 (0, 0)) (by (with_reducible repeat (first | refine blk_drewN ?_ _ | refine blk_drew ?_ | refine blk_alloc ?_ _)); exact BK396.out) hb); have n4_ := Aside0.mk (below_step (by repeat (first | (with_reducible first | exact HB.out | apply below_alloc | apply pw_below_drewN | apply below_drew1 | refine below_set ?_ GE395.out | refine below_set ?_ GE396.out) | exact HB.out)) hb); clear HO_396003; clear HO_397003; clear BK395; clear BK396; clear HB; have HO_396003 := n0_; have HO_397003 := n1_; have BK395 := n2_; have BK396 := n3_; have HB := n4_; clear n0_ n1_ n2_ n3_ n4_; (try clear hb); (try clear hb2); (try clear hk); (try clear hi)) | (go_at_call 30; (with_reducible refine (kauditlaw03_awake.calls kj4  t426 _ ?side1 A76.out).mono ?_); (case side1 => refine GL.below HGL.out ?_; repeat (first | (with_reducible first | exact HB.out | apply below_alloc | apply pw_below_drewN | apply below_drew1 | refine below_set ?_ GE395.out | refine below_set ?_ GE396.out) | exact HB.out)); rintro e w83 ⟨rfl, hb⟩; have n0_ := Aside0.mk (Kd.R_below (by (with_reducible repeat (first | apply Kd.R_alloc | apply Kd.R_drewN | apply Kd.R_drew)); exact HO_396003.out) hb); have n1_ := Aside0.mk (Kd.R_below (by (with_reducible repeat (first | apply Kd.R_alloc | apply Kd.R_drewN | apply Kd.R_drew)); exact HO_397003.out) hb); have n2_ := Aside0.mk (blk_below (g := gb395) (o := .cells #[.int .i64 t388, .int .i64 t389, .int .i64 t390, .slice Ao11 t391.length co11] 50 (0, 0)) (by (with_reducible repeat (first | refine blk_drewN ?_ _ | refine blk_drew ?_ | refine blk_alloc ?_ _)); exact BK395.out) hb); have n3_ := Aside0.mk (blk_below (g := gb396) (o := .cells #[.int .i64 x397000_4, .int .i64 x397001_4, .int .i64 x397002_4, .slice Ao81 x397003_4.length co81] 50 (0, 0)) (by (with_reducible repeat (first | refine blk_drewN ?_ _ | refine blk_drew ?_ | refine blk_alloc ?_ _)); exact BK396.out) hb); have n4_ := Aside0.mk (below_step (by repeat (first | (with_reducible first | exact HB.out | apply below_alloc | apply pw_below_drewN | apply below_drew1 | refine below_set ?_ GE395.out | refine below_set ?_ GE396.out) | exact HB.out)) hb); clear HO_396003; clear HO_397003; clear BK395; clear BK396; clear HB; have HO_396003 := n0_; have HO_397003 := n1_; have BK395 := n2_; have BK396 := n3_; have HB := n4_; clear n0_ n1_ n2_ n3_ n4_; (try clear hb); (try clear hb2); (try clear hk); (try clear hi)))
        go_ret
        exact ⟨by first | rfl | (simp [errW_none, errW_some] <;> rfl) | (simp [*, errW_none, errW_some] <;> rfl) | (simp only [isEmpty_ne_, isEmpty_eq_]; rfl) | (simp [*, isEmpty_ne_, isEmpty_eq_]; done), by repeat (first | (with_reducible first | exact HB.out | apply below_alloc | apply pw_below_drewN | apply below_drew1 | refine below_set ?_ GE395.out | refine below_set ?_ GE396.out) | exact HB.out)⟩
end Go.Proofs.YtjnlmmjadlidlaaDoor.PRec
end
section
namespace Go.Proofs.YtjnlmmjadlidlaaDoor.Pure3
open Go.RowKit Go.Proofs.YtjnlmmjadlidlaaDoor.PRec Go.Proofs.YtjnlmmjadlidlaaDoorW.PrintWords
theorem format_snd (t time serial : Int) (ps : List S34) : (formatR t time serial ps).2 = checkR t time serial ps := by
  unfold formatR
  by_cases h : checkR t time serial ps = 0
  · rw [if_pos h, h]
  · rw [if_neg h]
theorem lines_same {a b : S50} (ha : checkR a.f0 a.f1 a.f2 a.f3 = 0) (hb : checkR b.f0 b.f1 b.f2 b.f3 = 0) : ((formatR a.f0 a.f1 a.f2 a.f3).1.toList == (formatR b.f0 b.f1 b.f2 b.f3).1.toList) = sameR a b := by
  rw [Bool.eq_iff_iff, beq_iff_eq, toL_inj, sameR_iff]
  exact ⟨line_inj ha hb, fun h => by rw [h]⟩
theorem differ_j0 (a b : S50) (ha : Nums a.f3) (hb : Nums b.f3) (hl : a.f3.length ≤ 1000) : Ev (fun k => kauditlaw03_RecordDiffer.j0 k a.f0 a.f1 a.f2 a.f3 b.f0 b.f1 b.f2 b.f3) true := by
  refine Ev.step (f := fun k => (record_Format.f k a.f0 a.f1 a.f2 a.f3).bind fun bt419 => ((record_Format.f k b.f0 b.f1 b.f2 b.f3).bind fun bt421 => (if bt419.2 = 0 then (if bt421.2 = 0 then ((kauditref03_Same.f k a.f0 a.f1 a.f2 a.f3 b.f0 b.f1 b.f2 b.f3).bind fun t423 => (if ((bt419.1.toList == bt421.1.toList) == t423) = true then ((kauditlaw03_awake.f k).bind fun t424 => (some t424)) else (some false))) else ((kauditlaw03_awake.f k).bind fun t425 => (some t425))) else ((kauditlaw03_awake.f k).bind fun t426 => (some t426))))) (fun k => ?_) ?_
  · simp only [kauditlaw03_RecordDiffer.j0]
  · refine Ev.bind (format_ev a.f0 a.f1 a.f2 a.f3 ha) (Ev.bind (format_ev b.f0 b.f1 b.f2 b.f3 hb) ?_)
    by_cases h1 : checkR a.f0 a.f1 a.f2 a.f3 = 0
    · refine Ev.congr (fun k => if_pos (by rw [format_snd]; exact h1)) ?_
      by_cases h2 : checkR b.f0 b.f1 b.f2 b.f3 = 0
      · refine Ev.congr (fun k => if_pos (by rw [format_snd]; exact h2)) (Ev.bind (same_ev a b hl) ?_)
        exact Ev.congr (fun k => if_pos (by rw [lines_same h1 h2]; simp)) (Ev.bind awake_ev (Ev.now true))
      · exact Ev.congr (fun k => if_neg (by rw [format_snd]; exact h2)) (Ev.bind awake_ev (Ev.now true))
    · exact Ev.congr (fun k => if_neg (by rw [format_snd]; exact h1)) (Ev.bind awake_ev (Ev.now true))
theorem RecordDiffer (l0 : List Int) (_hm : l0.length ≤ maxLen) (_hs : l0.length * 8 ≤ 140737488351232) (_hw : ∀ x ∈ l0, (Lit.int .i64 x).wf = true) : ∃ k, kauditlaw03_RecordDiffer.f k l0 = some true := by
  obtain ⟨a, j, ha, hj, hna, hla⟩ := srecord_f (l := l0) (i := 0) (m := 0) ⟨by omega, by omega⟩ (by omega)
  obtain ⟨v, hv, v0, v4⟩ := n_f (l := l0) (n := 4) hj (by omega) (by omega) (by omega)
  obtain ⟨c, d⟩ := hj
  refine Ev.rounds ?_
  unfold kauditlaw03_RecordDiffer.f
  simp only [kauditmake_New.f, Option.bind_some]
  refine Ev.bind ha ?_
  simp only [up50]
  rw [hv]
  simp only [Option.bind_some]
  by_cases h0 : v = 0
  · obtain ⟨b, j2, hb, hj2, hnb, hlb⟩ := srecord_f (l := l0) (i := j + 1) (m := 151) ⟨by omega, by omega⟩ (by omega)
    refine Ev.congr (fun k => if_pos h0) (Ev.bind hb ?_)
    exact differ_j0 a b hna hnb (by omega)
  · by_cases h1 : v = 1
    · obtain ⟨u, hu, u0, u1⟩ := n_f (l := l0) (i := j + 1) (m := 151) (n := 2) ⟨by omega, by omega⟩ (by omega) (by omega) (by omega)
      refine Ev.congr (fun k => by rw [if_neg h0, if_pos h1, hu]; rfl) (differ_j0 a ⟨a.f0, wrap64 (a.f1 + u), a.f2, a.f3⟩ hna hna (by omega))
    · by_cases h2 : v = 2
      · obtain ⟨p, j2, hp, hj2, hp2⟩ := pair_f (l := l0) (i := j + 1) (m := 151) ⟨by omega, by omega⟩ (by omega)
        refine Ev.congr (f := fun k => (kauditmake_Src_Pair.f k l0 (j + 1)).bind fun bt411 => kauditlaw03_RecordDiffer.j0 k a.f0 a.f1 a.f2 a.f3 a.f0 a.f1 a.f2 (a.f3 ++ [(⟨bt411.1, bt411.2.1, bt411.2.2.1, bt411.2.2.2.1⟩ : S34)])) (fun k => ?_) (Ev.bind hp (differ_j0 a ⟨a.f0, a.f1, a.f2, a.f3 ++ [p]⟩ hna (nums_snoc hna hp2) (by omega)))
        rw [if_neg h0, if_neg h1, if_pos h2]
        refine (if_pos (by rw [List.length_nil]; omega)).trans ?_
        simp only [List.nil_append]
        congr 1
        funext q
        exact if_pos (by omega)
      · exact Ev.congr (fun k => by rw [if_neg h0, if_neg h1, if_neg h2]) (differ_j0 a a hna hna (by omega))
end Go.Proofs.YtjnlmmjadlidlaaDoor.Pure3
end
section
namespace Go.Proofs.YtjnlmmjadlidlaaDoor.R3
open Go.RowKit Go.ChangeShapes
theorem own : ownKnob Tryd.prog.godebug = none := by kernel_rfl
theorem door_met03 (os : Os) (args : Array Value) : laidMetH Tryd.prog Rows.recordChecksRow.laid ((World.doorLaid Tryd.prog 400 os).forCall (fun _ _ => 0) ⟨#[], args, []⟩).memory :=
  laidMetH_of_parts3 (fuel := 8) (laidMet_of_run' 8 (by kernel_rfl) (by kernel_rfl)) (by kernel_rfl) (by kernel_rfl)
set_option maxRecDepth 100000 in
theorem elem_cells {H : Type} {enc : TypeId × Value → H} {w : World} {base : Nat} {sp : Nat → Bool} {held : Bool} {fuel : Nat} {cs : List Value} {s : List UInt8} {n : Int} {b : Bool} {p : List MemPlace}
    (h : DataW.trod enc Tryd.prog w base sp held fuel 121 cs = some (.agg [.lit (.string s), .lit (.int .i64 n), .lit (.bool b)], p)) : cs = PRec.typeCells (s, n, b) := by
  obtain ⟨y0, y1, y2, k, hx, hl, h0, h1, h2⟩ := Go.Deep.trod_struct3 Tryd.underlying121 h
  have hl3 : cs.length = 3 := hl.trans (by kernel_rfl)
  obtain ⟨c0, c1, c2, rfl⟩ : ∃ c0 c1 c2, cs = [c0, c1, c2] := by
    match cs, hl3 with
    | [a, b, c], _ => exact ⟨a, b, c, rfl⟩
  simp only [Prod.mk.injEq, DataW.agg.injEq, List.cons.injEq] at hx
  obtain ⟨⟨e0, e1, e2, _⟩, _⟩ := hx
  have k0 : Tryd.prog.cellsOf 9 = 1 := by kernel_rfl
  have k1 : Tryd.prog.cellsOf 3 = 1 := by kernel_rfl
  have k2 : Tryd.prog.cellsOf 4 = 1 := by kernel_rfl
  obtain ⟨s0, q0, r0, _⟩ := DataW.trod_string Tryd.underlying9 h0
  obtain ⟨n0, q1, r1, _⟩ := DataW.trod_int Tryd.underlying3 h1
  obtain ⟨b0, q2, r2⟩ := DataW.trod_bool Tryd.underlying4 h2
  simp [k0] at q0
  simp [k1] at q1
  simp [k2] at q2
  rw [r0] at e0
  rw [r1] at e1
  rw [r2] at e2
  simp only [DataW.lit.injEq, Lit.string.injEq, Lit.int.injEq, Lit.bool.injEq, true_and] at e0 e1 e2
  subst q0 q1 q2
  show _ = [Value.string ⟨s.toArray⟩, Value.int .i64 n, Value.bool b]
  rw [e0, e1, e2]
theorem triples : ∀ (n : Nat) (l : List Value), l.length = 3 * n → l = (List.range n).flatMap fun i => (l.drop (i * 3)).take 3
  | 0, l, h => by
    rw [List.length_eq_zero_iff.1 (by omega : l.length = 0)]
    rfl
  | n + 1, l, h => by
    have ih := triples n (l.drop 3) (by rw [List.length_drop]; omega)
    rw [List.range_succ_eq_map, List.flatMap_cons, List.flatMap_map]
    have e : ((List.range n).flatMap fun i => (l.drop ((i + 1) * 3)).take 3) = (List.range n).flatMap fun i => ((l.drop 3).drop (i * 3)).take 3 := by
      congr 1
      funext i
      rw [List.drop_drop, show 3 + i * 3 = (i + 1) * 3 by omega]
    show l = (l.drop (0 * 3)).take 3 ++ ((List.range n).flatMap fun i => (l.drop ((i + 1) * 3)).take 3)
    rw [e, ← ih]
    simp
def typDatum {H : Type} (x : List UInt8 × Int × Bool) : DataW H := .agg [.lit (.string x.1), .lit (.int .i64 x.2.1), .lit (.bool x.2.2)]
set_option maxRecDepth 100000 in
theorem arr_cells {H : Type} {enc : TypeId × Value → H} {w : World} {base : Nat} {sp : Nat → Bool} {held : Bool} {fuel : Nat} {cs : List Value} {p : List MemPlace}
    (h : DataW.trod enc Tryd.prog w base sp held fuel 122 cs = some (.agg (PRec.typesTab.map typDatum), p)) : cs = PRec.typesTab.flatMap PRec.typeCells := by
  have hce : Tryd.prog.cellsOf 121 = 3 := by kernel_rfl
  have hct : Tryd.prog.cellsOf 122 = 30 := by kernel_rfl
  cases fuel with
  | zero => simp [DataW.trod] at h
  | succ fuel =>
    simp only [DataW.trod, Tryd.underlying122, hce, hct] at h
    split at h
    · rename_i hl
      obtain ⟨xs, hm, hx⟩ := Option.map_eq_some_iff.1 h
      have hxs : xs.map (·.1) = PRec.typesTab.map (typDatum (H := H)) := by
        have := congrArg Prod.fst hx
        simpa using this
      have each : ∀ i, i < 10 → (cs.drop (i * 3)).take 3 = PRec.typeCells (PRec.typesTab.getD i ([], 0, false)) := by
        intro i hi
        obtain ⟨b, hb, hf⟩ := Lib.mapM_at hm i i (by simp [hi])
        have h2 : (xs.map (·.1))[i]? = some b.1 := by simp [hb]
        rw [hxs, List.getElem?_map] at h2
        have h3 : PRec.typesTab[i]? = some (PRec.typesTab.getD i ([], 0, false)) := by
          rw [List.getD_eq_getElem?_getD, List.getElem?_eq_getElem (show i < PRec.typesTab.length from hi)]
          rfl
        rw [h3] at h2
        have h4 : b.1 = typDatum (PRec.typesTab.getD i ([], 0, false)) := (Option.some.inj h2).symm
        exact elem_cells (p := b.2) (by rw [hf]; exact congrArg some (Prod.ext h4 rfl))
      have hlen : cs.length = 3 * 10 := by omega
      rw [triples 10 cs hlen]
      have : ∀ i ∈ List.range 10, (cs.drop (i * 3)).take 3 = PRec.typeCells (PRec.typesTab.getD i ([], 0, false)) := fun i hi => each i (List.mem_range.1 hi)
      rw [List.flatMap_def, List.map_congr_left this]
      rfl
    · cases h
set_option maxRecDepth 100000 in
theorem gl_of_laid03 {W : World} (h : laidMetH Tryd.prog Rows.recordChecksRow.laid W) : PRec.GL W := by
  rw [MakeChecks.laidMetH_plain _ _ _ (by kernel_rfl)] at h
  refine ⟨?_, ?_, ?_⟩
  · have h2 := h.tail.tail
    exact Lib.tabIs_of_head (k := .u64) (zs := Lib.pow10Tab) (g := 3) (t := 245) (e := 67) (n := 20) (by kernel_rfl) (by kernel_rfl) (by kernel_rfl) (by kernel_rfl) (by kernel_rfl) (by kernel_rfl) h2
  · have h3 := h.tail.tail.tail
    exact Lib.tabIs_of_head (k := .u8) (zs := PRec.digitsTab) (g := 2) (t := 206) (e := 5) (n := 16) (by kernel_rfl) (by kernel_rfl) (by kernel_rfl) (by kernel_rfl) (by kernel_rfl) (by kernel_rfl) h3
  · have h4 := h.tail.tail.tail.tail
    obtain ⟨ps, ⟨g', t', cs, fuel, p, q, hg', ht', hvar, hd, _, _⟩, _⟩ := h4
    have eg : Tryd.prog.globalNamed "kaudit/record.types" = some 0 := by kernel_rfl
    obtain rfl := Option.some.inj (eg.symm.trans hg')
    have et : (Tryd.prog.globals[0]?).map (·.type) = some 122 := by kernel_rfl
    obtain rfl := Option.some.inj (et.symm.trans ht')
    have hc := arr_cells (p := p) hd
    rw [hvar]
    congr 1
    apply Array.ext'
    rw [hc]
    rfl
end Go.Proofs.YtjnlmmjadlidlaaDoor.R3
end
