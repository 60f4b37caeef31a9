/-
  Plain laws of chapter 37: the case's numbers, the databases that are made, what Interpret returns.
-/
import Derived.Test.YtjnlmmjadlidlaaDoorPNamesx
import Derived.OpenShut
namespace Go.Proofs.YtjnlmmjadlidlaaDoor.Pure
open Go.RowKit Go.Proofs.YtjnlmmjadlidlaaDoor.PNames Go.Proofs.YtjnlmmjadlidlaaDoorW.PrintWords

theorem w64 {x : Int} (h0 : -9223372036854775808 ≤ x) (h1 : x ≤ 9223372036854775807) : wrap64 x = x := by unfold wrap64; omega

/-- A case: its numbers are bytes, and its place lies among them. -/
def Good (l : List Int) (i : Int) : Prop := 0 ≤ i ∧ i ≤ l.length ∧ l.length ≤ 300 ∧ ∀ x ∈ l, 0 ≤ x ∧ x ≤ 255

theorem wf8 {x : Int} (h : (Lit.int .u8 x).wf = true) : 0 ≤ x ∧ x ≤ 255 := by
  exact bounds_u8 h

theorem new_f (l0 : List Int) (hw : ∀ x ∈ l0, (Lit.int .u8 x).wf = true) : ∃ l, kauditmill_New.f l0 100 = some (l, 0) ∧ Good l 0 := by
  by_cases h : (l0.length : Int) > 100
  · refine ⟨l0.take 100, ?_, by omega, by simp, by simp; omega, fun x hx => wf8 (hw x (List.mem_of_mem_take hx))⟩
    unfold kauditmill_New.f
    rw [if_pos h, if_pos (by omega), if_pos (by omega)]
    rfl
  · refine ⟨l0, ?_, by omega, by omega, by omega, fun x hx => wf8 (hw x hx)⟩
    unfold kauditmill_New.f
    rw [if_neg h]

theorem rd_mem {l : List Int} {i : Int} (h0 : 0 ≤ i) (h1 : i < l.length) : rd l i ∈ l := by
  unfold rd
  rw [List.getD_eq_getElem?_getD, List.getElem?_eq_getElem (by omega)]
  exact List.getElem_mem _

theorem int_f {l : List Int} {i n : Int} (hg : Good l i) (hn : n ≤ 100000) :
    ∃ v j, kauditmill_Case_Int.f l i n = some (v, j) ∧ Good l j ∧ 0 ≤ v ∧ (2 ≤ n → v < n) ∧ (n < 2 → v = 0) := by
  obtain ⟨h0, h1, h2, h3⟩ := hg
  unfold kauditmill_Case_Int.f
  by_cases hs : n < 2
  · exact ⟨0, i, by rw [if_pos hs], ⟨h0, h1, h2, h3⟩, by omega, by omega, fun _ => rfl⟩
  · by_cases he : i ≥ (l.length : Int)
    · exact ⟨0, i, by rw [if_neg hs, if_pos he], ⟨h0, h1, h2, h3⟩, by omega, by omega, fun _ => rfl⟩
    · have e1 : wrap64 (i + 1) = i + 1 := w64 (by omega) (by omega)
      have e2 : wrap64 (i + 1 - 1) = i := by rw [w64 (by omega) (by omega)]; omega
      have hm := h3 _ (rd_mem h0 (show i < (l.length : Int) by omega))
      rw [if_neg hs, if_neg he, e1, e2, if_pos h0, if_pos (by omega), if_neg (by omega), w64 (by omega) (by omega)]
      refine ⟨_, _, rfl, ⟨by omega, by omega, h2, h3⟩, Int.tmod_nonneg _ hm.1, fun _ => ?_, by omega⟩
      exact Int.tmod_lt_of_pos _ (by omega)

theorem pick_f {l : List Int} {i : Int} (hg : Good l i) {l1 : List Int} (h1 : 1 ≤ l1.length) (h2 : l1.length ≤ 1000) :
    ∃ v j, kauditmill_Case_Pick.f l i l1 = some (v, j) ∧ Good l j ∧ v ∈ l1 := by
  obtain ⟨v, j, e, g, v0, v1, v2⟩ := int_f (n := (l1.length : Int)) hg (by omega)
  have hv : v < l1.length := by
    by_cases h : (2 : Int) ≤ l1.length
    · exact v1 h
    · rw [v2 (by omega)]; omega
  refine ⟨rd l1 v, j, ?_, g, rd_mem v0 hv⟩
  unfold kauditmill_Case_Pick.f
  rw [e]
  simp only [Option.bind_some]
  rw [if_pos v0, if_pos hv]

theorem word_f {l : List Int} {i : Int} (hg : Good l i) {l1 : List ByteArray} (h1 : 1 ≤ l1.length) (h2 : l1.length ≤ 1000) :
    ∃ v j, kauditmill_Case_word.f l i l1 = some (v, j) ∧ Good l j ∧ v ∈ l1 := by
  obtain ⟨v, j, e, g, v0, v1, v2⟩ := int_f (n := (l1.length : Int)) hg (by omega)
  have hv : v < l1.length := by
    by_cases h : (2 : Int) ≤ l1.length
    · exact v1 h
    · rw [v2 (by omega)]; omega
  refine ⟨rdOf ByteArray.empty l1 v, j, ?_, g, ?_⟩
  · unfold kauditmill_Case_word.f
    rw [e]
    simp only [Option.bind_some]
    rw [if_pos v0, if_pos hv]
  · unfold rdOf
    rw [List.getD_eq_getElem?_getD, List.getElem?_eq_getElem (by omega)]
    exact List.getElem_mem _

def nameList : List ByteArray := [(⟨#[97, 110, 110]⟩ : ByteArray), (⟨#[98, 111, 98]⟩ : ByteArray), (⟨#[]⟩ : ByteArray), (⟨#[114, 111, 111, 116]⟩ : ByteArray), (⟨#[97, 45, 49]⟩ : ByteArray)]

/-- A database as it is made: times ascend, all below T. -/
def Made (db : List S47) (T : Int) : Prop :=
  db.Pairwise (fun x y => x.f0 < y.f0) ∧ ∀ x ∈ db, 0 ≤ x.f0 ∧ x.f0 < T ∧ (x.f1 = 1 ∨ x.f1 = 2) ∧ (x.f2 = 0 ∨ x.f2 = 7 ∨ x.f2 = 8) ∧ x.f3 ∈ nameList

theorem namings_l0 (l : List Int) (d : Nat) : ∀ (k : Nat) (db : List S47) (T i : Int), d < k → d + db.length ≤ 10 → 0 ≤ T → T + 3 * d ≤ 1000 → Made db T → Good l i →
    ∃ db' T' j, kauditmill_Case_Namings.l0 k db T d l i = some (db', j) ∧ Made db' T' ∧ T' ≤ 1000 ∧ db'.length ≤ 10 ∧ Good l j := by
  induction d with
  | zero =>
    intro k db T i hk hl hT hT2 hm hg
    obtain ⟨k, rfl⟩ : ∃ m, k = m + 1 := ⟨k - 1, by omega⟩
    exact ⟨db, T, i, by simp only [kauditmill_Case_Namings.l0]; rw [if_neg (by omega)], hm, by omega, by omega, hg⟩
  | succ d ih =>
    intro k db T i hk hl hT hT2 hm hg
    obtain ⟨k, rfl⟩ : ∃ m, k = m + 1 := ⟨k - 1, by omega⟩
    obtain ⟨a, i1, e1, g1, a0, a1, _⟩ := int_f (n := 3) hg (by omega)
    obtain ⟨b, i2, e2, g2, b0, b1, _⟩ := int_f (n := 2) g1 (by omega)
    obtain ⟨c, i3, e3, g3, hc⟩ := pick_f g2 (l1 := [0, 7, 8]) (by decide) (by decide)
    obtain ⟨s, i4, e4, g4, hs⟩ := word_f g3 (l1 := nameList) (by decide) (by decide)
    have a1 := a1 (by omega)
    have b1 := b1 (by omega)
    have x1 : wrap64 (1 + a) = 1 + a := w64 (by omega) (by omega)
    have x2 : wrap64 (T + (1 + a)) = T + (1 + a) := w64 (by omega) (by omega)
    have x3 : wrap64 (T + (1 + a) - 1) = T + a := by rw [w64 (by omega) (by omega)]; omega
    have x4 : wrap64 (1 + b) = 1 + b := w64 (by omega) (by omega)
    have x5 : wrap64 (((d + 1 : Nat) : Int) - 1) = (d : Int) := by rw [w64 (by omega) (by omega)]; omega
    have hM : Made (db ++ [⟨T + a, 1 + b, c, s⟩]) (T + (1 + a)) := by
      refine ⟨List.pairwise_append.2 ⟨hm.1, by simp, fun x hx y hy => ?_⟩, fun x hx => ?_⟩
      · simp at hy; subst hy
        have := (hm.2 x hx).2.1
        show x.f0 < T + a
        omega
      · rcases List.mem_append.1 hx with h | h
        · have := hm.2 x h
          exact ⟨this.1, by omega, this.2.2⟩
        · simp at h; subst h
          refine ⟨by show 0 ≤ T + a; omega, by show T + a < _; omega, by show 1 + b = 1 ∨ 1 + b = 2; omega, ?_, hs⟩
          simpa using hc
    obtain ⟨db', T', j, e, h⟩ := ih k (db ++ [⟨T + a, 1 + b, c, s⟩]) (T + (1 + a)) i4 (by omega) (by simp; omega) (by omega) (by omega) hM g4
    refine ⟨db', T', j, ?_, h⟩
    simp only [kauditmill_Case_Namings.l0]
    rw [if_pos (by omega), e1]
    simp only [Option.bind_some]
    rw [e2]
    simp only [Option.bind_some]
    rw [e3]
    simp only [Option.bind_some]
    rw [show ([(⟨#[97, 110, 110]⟩ : ByteArray), (⟨#[98, 111, 98]⟩ : ByteArray), (⟨#[]⟩ : ByteArray), (⟨#[114, 111, 111, 116]⟩ : ByteArray), (⟨#[97, 45, 49]⟩ : ByteArray)] : List ByteArray) = nameList from rfl, e4]
    simp only [Option.bind_some]
    rw [if_pos (by omega), x1, x2, x3, x4, x5]
    exact e

theorem namings_f {l : List Int} {i : Int} (hg : Good l i) : ∃ db T j, Ev (fun k => kauditmill_Case_Namings.f k l i) (db, j) ∧ Made db T ∧ T ≤ 1000 ∧ db.length ≤ 10 ∧ Good l j := by
  obtain ⟨v, i1, e1, g1, v0, v1, _⟩ := int_f (n := 7) hg (by omega)
  have v1 := v1 (by omega)
  obtain ⟨db, T, j, e, hm, hT, hl, gj⟩ := namings_l0 l v.toNat 8 [] 0 i1 (by omega) (by simp; omega) (by omega) (by omega) ⟨by simp, by simp⟩ g1
  rw [show ((v.toNat : Nat) : Int) = v from by omega] at e
  refine ⟨db, T, j, Ev.of (kauditmill_Case_Namings.mono _ _) (k := 8) ?_, hm, hT, hl, gj⟩
  unfold kauditmill_Case_Namings.f
  rw [e1]
  exact e

/-! ### What Interpret returns -/

def or1 (s d : ByteArray) : ByteArray := if s.toList = [] then d else s
def unsetS : ByteArray := ⟨#[117, 110, 115, 101, 116]⟩
def plainS (kind num : Int) (text : ByteArray) : ByteArray :=
  if kind = 1 then ⟨(Lib.itoa num).toArray⟩ else if kind = 2 then text else if kind = 3 then ⟨#[40, 110, 117, 108, 108, 41]⟩ else ⟨#[]⟩
def exitS (num : Int) : ByteArray := if num < 0 ∧ num > -9223372036854775808 then (if errName (-num) = [] then ⟨#[]⟩ else ⟨#[45]⟩ ++ ⟨(errName (-num)).toArray⟩) else ⟨#[]⟩
def modeS (num : Int) : ByteArray := if 0 ≤ num ∧ num ≤ 511 then modeText num else ⟨#[]⟩
def permS (num : Int) : ByteArray := if 1 ≤ num ∧ num ≤ 15 then ⟨(permsTo num 4).toArray⟩ else ⟨#[]⟩
def nmAt (l : List S47) (t : Int) (kind id : Int) : ByteArray := match findBack l kind id t with | some x => x.f3 | none => ⟨#[]⟩
def isUser (s : ByteArray) : Prop := s.toList = [117, 105, 100] ∨ s.toList = [101, 117, 105, 100] ∨ s.toList = [97, 117, 105, 100] ∨ s.toList = [111, 117, 105, 100]
def isGroup (s : ByteArray) : Prop := s.toList = [103, 105, 100] ∨ s.toList = [101, 103, 105, 100] ∨ s.toList = [111, 103, 105, 100]
instance (s : ByteArray) : Decidable (isUser s) := inferInstanceAs (Decidable (_ ∨ _ ∨ _ ∨ _))
instance (s : ByteArray) : Decidable (isGroup s) := inferInstanceAs (Decidable (_ ∨ _ ∨ _))
def late (num : Int) (name : ByteArray) : ByteArray :=
  if name.toList = [115, 101, 115] then (if num = 4294967295 then unsetS else ⟨#[]⟩) else if name.toList = [101, 120, 105, 116] then exitS num
  else if name.toList = [109, 111, 100, 101] then modeS num else if name.toList = [112, 101, 114, 109] then permS num else ⟨#[]⟩
def special (nm : Int → Int → ByteArray) (name : ByteArray) (num : Int) : ByteArray :=
  if isUser name then (if num = 4294967295 then unsetS else nm 1 num) else if isGroup name then nm 2 num else late num name
def interp (nm : Int → Int → ByteArray) (name : ByteArray) (kind num : Int) (text : ByteArray) : ByteArray :=
  if kind = 1 then or1 (special nm name num) (plainS kind num text) else plainS kind num text

def I64 (n : Int) : Prop := -9223372036854775808 ≤ n ∧ n ≤ 9223372036854775807

theorem empty_toList : (⟨#[]⟩ : ByteArray).toList = [] := by simp [ByteArray.toList_eq]

theorem plain_f (name : ByteArray) (kind num : Int) (text : ByteArray) (hn : I64 num) : names_Plain.f name kind num text = some (plainS kind num text) := by
  unfold names_Plain.f plainS
  by_cases h1 : kind = 1
  · rw [if_pos h1, if_pos h1]; unfold strconv_Itoa.f; rw [if_pos (show _ ∧ _ from hn)]; rfl
  · rw [if_neg h1, if_neg h1]
    by_cases h2 : kind = 2
    · rw [if_pos h2, if_pos h2]
    · rw [if_neg h2, if_neg h2]
      by_cases h3 : kind = 3
      · rw [if_pos h3, if_pos h3]
      · rw [if_neg h3, if_neg h3]

theorem or_f {s : ByteArray} (name : ByteArray) (kind num : Int) (text : ByteArray) (hn : I64 num) :
    (if s.toList = ([] : List UInt8) then ((names_Plain.f name kind num text).bind fun t => some t) else some s) = some (or1 s (plainS kind num text)) := by
  rw [plain_f name kind num text hn]
  unfold or1
  by_cases h : s.toList = []
  · rw [if_pos h, if_pos h]; rfl
  · rw [if_neg h, if_neg h]

theorem errName_len (n : Int) : (errName n).length ≤ 13 := by
  unfold errName
  cases h : errTab.find? (fun x => x.1 == n) with
  | none => simp
  | some x =>
    have hm := List.mem_of_find?_eq_some h
    have hall : ∀ x ∈ errTab, x.2.length ≤ 13 := by decide
    exact hall x hm

theorem j2_eq (k : Nat) (flag : Bool) (name : ByteArray) (kind num : Int) (text : ByteArray) (hn : I64 num) (hneg : num < 0) (hf : flag = decide (num > -9223372036854775808)) :
    names_Interpret.j2 (k + 1) ⟨#[]⟩ flag name kind num text = some (or1 (exitS num) (plainS kind num text)) := by
  subst hf
  simp only [names_Interpret.j2]
  by_cases h : num > -9223372036854775808
  · have e1 : wrap64 (-num) = -num := w64 (by omega) (by have := hn.1; have := hn.2; omega)
    have hw : (Lit.int .i64 (-num)).wf = true := WalkArith.wf_i64 (by have := hn.1; have := hn.2; omega)
    have hl := errName_len (-num)
    have hsz : (⟨(errName (-num)).toArray⟩ : ByteArray).size ≤ 13 := by simpa [ByteArray.size] using hl
    rw [if_pos (show decide (num > -9223372036854775808) = true from decide_eq_true h), e1]
    unfold names_ErrorName.f
    rw [if_pos hw]
    simp only [Option.bind_some]
    unfold exitS
    rw [if_pos (show num < 0 ∧ num > -9223372036854775808 from ⟨hneg, h⟩)]
    by_cases he : errName (-num) = []
    · rw [he, if_pos empty_toList, if_pos rfl, plain_f name kind num text hn, or1, if_pos empty_toList]; rfl
    · have ht : ¬ (⟨(errName (-num)).toArray⟩ : ByteArray).toList = [] := by rw [ByteArray.toList_eq]; simpa using he
      have ht2 : ¬ ((⟨#[45]⟩ : ByteArray) ++ ⟨(errName (-num)).toArray⟩).toList = [] := by rw [ByteArray.toList_eq]; simp [ByteArray.data_append]
      rw [if_neg ht, if_pos (show 1 + _ ≤ 9223372036854775807 by omega), if_neg ht2, if_neg he, or1, if_neg ht2]
  · rw [if_neg (show ¬ decide (num > -9223372036854775808) = true from by rw [decide_eq_false h]; exact Bool.false_ne_true), if_pos empty_toList, plain_f name kind num text hn, exitS, if_neg (show ¬ (num < 0 ∧ num > -9223372036854775808) by omega), or1, if_pos empty_toList]
    rfl

theorem j1_eq (k : Nat) (l : List S47) (t : Int) (flag : Bool) (name : ByteArray) (kind num : Int) (text : ByteArray) (hn : I64 num) (hf : flag = true ↔ isGroup name) :
    names_Interpret.j1 (k + 2) l t ⟨#[]⟩ name flag name kind num text = some (or1 (if isGroup name then nmAt l t 2 num else late num name) (plainS kind num text)) := by
  simp only [names_Interpret.j1]
  by_cases hg : isGroup name
  · rw [if_pos (hf.2 hg), if_pos hg]
    unfold names_Name.f nmAt
    cases findBack l 2 num t with
    | some x => simp only [Option.bind_some]; exact or_f name kind num text hn
    | none => simp only [Option.bind_some]; exact or_f name kind num text hn
  · rw [if_neg (fun h => hg (hf.1 h)), if_neg hg]
    unfold late
    by_cases h1 : name.toList = [115, 101, 115]
    · rw [if_pos h1, if_pos h1]
      by_cases hu : num = 4294967295
      · rw [if_pos hu, if_pos hu, or1, if_neg (by simp [unsetS, ByteArray.toList_eq])]; rfl
      · rw [if_neg hu, if_neg hu]; exact or_f name kind num text hn
    · rw [if_neg h1, if_neg h1]
      by_cases h2 : name.toList = [101, 120, 105, 116]
      · rw [if_pos h2, if_pos h2]
        by_cases hneg : num < 0
        · rw [if_pos hneg]; exact j2_eq k _ name kind num text hn hneg rfl
        · rw [if_neg hneg]
          simp only [names_Interpret.j2]
          rw [if_neg Bool.false_ne_true, exitS, if_neg (show ¬ (num < 0 ∧ num > -9223372036854775808) by omega)]
          exact or_f name kind num text hn
      · rw [if_neg h2, if_neg h2]
        by_cases h3 : name.toList = [109, 111, 100, 101]
        · rw [if_pos h3, if_pos h3]
          unfold access_Format.f modeS
          by_cases hm : 0 ≤ num ∧ num ≤ 511
          · rw [if_pos hm, if_pos hm]; simp only [Option.bind_some]; exact or_f name kind num text hn
          · rw [if_neg hm, if_neg hm]; simp only [Option.bind_some]; exact or_f name kind num text hn
        · rw [if_neg h3, if_neg h3]
          by_cases h4 : name.toList = [112, 101, 114, 109]
          · rw [if_pos h4, if_pos h4]
            unfold names_perms.f permS
            by_cases hm : 1 ≤ num ∧ num ≤ 15
            · rw [if_pos hm, if_pos hm]; simp only [Option.bind_some]; exact or_f name kind num text hn
            · rw [if_neg hm, if_neg hm]; simp only [Option.bind_some]; exact or_f name kind num text hn
          · rw [if_neg h4, if_neg h4]; exact or_f name kind num text hn

theorem j0_eq (k : Nat) (l : List S47) (t : Int) (flag : Bool) (name : ByteArray) (kind num : Int) (text : ByteArray) (hn : I64 num) (hf : flag = true ↔ isUser name) :
    names_Interpret.j0 (k + 3) l t ⟨#[]⟩ name flag name kind num text = some (or1 (special (nmAt l t) name num) (plainS kind num text)) := by
  simp only [names_Interpret.j0]
  unfold special
  by_cases hu : isUser name
  · rw [if_pos (hf.2 hu), if_pos hu]
    by_cases h1 : num = 4294967295
    · rw [if_pos h1, if_pos h1, or1, if_neg (by simp [unsetS, ByteArray.toList_eq])]
      rfl
    · rw [if_neg h1, if_neg h1]
      unfold names_Name.f nmAt
      cases findBack l 1 num t with
      | some x => simp only [Option.bind_some]; exact or_f name kind num text hn
      | none => simp only [Option.bind_some]; exact or_f name kind num text hn
  · rw [if_neg (fun h => hu (hf.1 h)), if_neg hu]
    by_cases h1 : name.toList = [103, 105, 100]
    · rw [if_pos h1]; exact j1_eq k l t _ name kind num text hn (by simp [isGroup, h1])
    · rw [if_neg h1]
      by_cases h2 : name.toList = [101, 103, 105, 100]
      · rw [if_pos h2]; exact j1_eq k l t _ name kind num text hn (by simp [isGroup, h2])
      · rw [if_neg h2]; exact j1_eq k l t _ name kind num text hn (by simp [isGroup, h1, h2])

theorem interpret_f (k : Nat) (l : List S47) (t : Int) (name : ByteArray) (kind num : Int) (text : ByteArray) (hn : I64 num) :
    names_Interpret.f (k + 3) l t name kind num text = some (interp (nmAt l t) name kind num text) := by
  unfold names_Interpret.f interp
  by_cases h0 : kind = 1
  · rw [if_pos h0, if_pos h0]
    by_cases h1 : name.toList = [117, 105, 100]
    · rw [if_pos h1]; exact j0_eq k l t _ name kind num text hn (by simp [isUser, h1])
    · rw [if_neg h1]
      by_cases h2 : name.toList = [101, 117, 105, 100]
      · rw [if_pos h2]; exact j0_eq k l t _ name kind num text hn (by simp [isUser, h2])
      · rw [if_neg h2]
        by_cases h3 : name.toList = [97, 117, 105, 100]
        · rw [if_pos h3]; exact j0_eq k l t _ name kind num text hn (by simp [isUser, h3])
        · rw [if_neg h3]; exact j0_eq k l t _ name kind num text hn (by simp [isUser, h1, h2, h3])
  · rw [if_neg h0, if_neg h0, plain_f name kind num text hn]; rfl

theorem interpret_ev (l : List S47) (t : Int) (name : ByteArray) (kind num : Int) (text : ByteArray) (hn : I64 num) :
    Ev (fun k => names_Interpret.f k l t name kind num text) (interp (nmAt l t) name kind num text) :=
  ⟨3, fun k hk => by obtain ⟨m, rfl⟩ : ∃ m, k = m + 3 := ⟨k - 3, by omega⟩; exact interpret_f m l t name kind num text hn⟩

end Go.Proofs.YtjnlmmjadlidlaaDoor.Pure
