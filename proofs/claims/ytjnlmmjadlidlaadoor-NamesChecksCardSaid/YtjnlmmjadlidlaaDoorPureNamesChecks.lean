/-
  The plain law of NamesChecks: names.Check and the reference's check say the same of the made databases, of the spoilt ones and of any.
-/
import Derived.Test.YtjnlmmjadlidlaaDoorNPure3
import Derived.Test.YtjnlmmjadlidlaaDoorNOpen
namespace Go.Proofs.YtjnlmmjadlidlaaDoor.Pure
open Go.RowKit Go.Proofs.YtjnlmmjadlidlaaDoor.PNames Go.Proofs.YtjnlmmjadlidlaaDoorW.PrintWords

def textList : List ByteArray := [(⟨#[]⟩ : ByteArray), (⟨#[97]⟩ : ByteArray), (⟨#[97, 110, 110]⟩ : ByteArray), (⟨#[47, 97, 47, 98]⟩ : ByteArray), (⟨#[110, 111]⟩ : ByteArray), (⟨#[121, 101, 115]⟩ : ByteArray), (⟨#[97, 32, 98]⟩ : ByteArray), (⟨#[120, 54, 102]⟩ : ByteArray), (⟨#[0]⟩ : ByteArray), (⟨#[109, 107, 100, 105, 114]⟩ : ByteArray)]

theorem text_f {l : List Int} {i : Int} (hg : Good l i) : ∃ s j, kauditmill_Case_Text.f l i = some (s, j) ∧ Good l j ∧ s.size ≤ 20 := by
  obtain ⟨v, j, e, g, v0, v1, _⟩ := int_f (n := (textList.length : Int)) hg (by decide)
  have hv : v < textList.length := v1 (by decide)
  refine ⟨rdOf ByteArray.empty textList v, j, ?_, g, ?_⟩
  · unfold kauditmill_Case_Text.f
    rw [show ([(⟨#[]⟩ : ByteArray), (⟨#[97]⟩ : ByteArray), (⟨#[97, 110, 110]⟩ : ByteArray), (⟨#[47, 97, 47, 98]⟩ : ByteArray), (⟨#[110, 111]⟩ : ByteArray), (⟨#[121, 101, 115]⟩ : ByteArray), (⟨#[97, 32, 98]⟩ : ByteArray), (⟨#[120, 54, 102]⟩ : ByteArray), (⟨#[0]⟩ : ByteArray), (⟨#[109, 107, 100, 105, 114]⟩ : ByteArray)] : List ByteArray) = textList from rfl]
    simp only [Option.bind_some]
    rw [e]
    simp only [Option.bind_some]
    rw [if_pos v0, if_pos hv]
  · have hall : ∀ s ∈ textList, s.size ≤ 20 := by decide
    apply hall
    unfold rdOf
    rw [List.getD_eq_getElem?_getD, List.getElem?_eq_getElem (by omega)]
    exact List.getElem_mem _

theorem rd47_mem {db : List S47} {v : Int} (h0 : 0 ≤ v) (h1 : v < db.length) : rd_T47 db v ∈ db := by
  unfold rd_T47
  rw [List.getD_eq_getElem?_getD, List.getElem?_eq_getElem (by omega)]
  exact List.getElem_mem _

theorem mem_set {α : Type} {l : List α} {n : Nat} {a y : α} (h : y ∈ l.set n a) : y ∈ l ∨ y = a := List.mem_or_eq_of_mem_set h

def Short (db : List S47) : Prop := ∀ x ∈ db, x.f3.size ≤ 1000

theorem short_set {db : List S47} (hs : Short db) {n : Nat} {a : S47} (ha : a.f3.size ≤ 1000) : Short (db.set n a) := fun y hy => by
  rcases mem_set hy with h | rfl
  · exact hs y h
  · exact ha

theorem spoilt_f {l : List Int} {i : Int} (hg : Good l i) (db : List S47) (hl : db.length ≤ 1000) (hs : Short db) :
    ∃ db' j, kauditlaw37_spoilt.f l i db = some (db', j) ∧ Good l j ∧ db'.length ≤ db.length + 65 ∧ Short db' := by
  unfold kauditlaw37_spoilt.f
  rw [if_pos (by simp; omega)]
  simp only [Option.bind_some, List.nil_append]
  by_cases h0 : (db.length : Int) = 0
  · rw [if_pos h0]
    obtain ⟨v, j, e, g, hv⟩ := pick_f hg (l1 := [1, 64, 65]) (by decide) (by decide)
    have hv' : 1 ≤ v ∧ v ≤ 65 := by
      simp at hv
      omega
    refine ⟨List.replicate v.toNat z47, j, ?_, g, by simp; omega, fun x hx => ?_⟩
    · rw [e]
      simp only [Option.bind_some]
      rw [if_pos (by omega), if_pos (by omega)]
    · rw [List.eq_of_mem_replicate hx]
      decide
  · rw [if_neg h0]
    obtain ⟨v, i1, e1, g1, v0, v1, v2⟩ := int_f (n := (db.length : Int)) hg (by omega)
    have hv : v < db.length := by
      by_cases h : (2 : Int) ≤ db.length
      · exact v1 h
      · rw [v2 (by omega)]; omega
    have hx := hs _ (rd47_mem v0 hv)
    rw [e1]
    simp only [Option.bind_some]
    rw [if_pos v0, if_pos hv]
    obtain ⟨m, i2, e2, g2, _⟩ := int_f (n := 6) g1 (by omega)
    rw [e2]
    simp only [Option.bind_some]
    by_cases m0 : m = 0
    · obtain ⟨p, j, e, g, _⟩ := pick_f g2 (l1 := [(-1), 0, 1099511627776, 1099511627777]) (by decide) (by decide)
      refine ⟨_, j, by rw [if_pos m0, e]; rfl, g, by simp, short_set hs (a := ⟨p, (rd_T47 db v).f1, (rd_T47 db v).f2, (rd_T47 db v).f3⟩) hx⟩
    · by_cases m1 : m = 1
      · obtain ⟨p, j, e, g, _⟩ := int_f (n := 4) g2 (by omega)
        refine ⟨_, j, by rw [if_neg m0, if_pos m1, e]; rfl, g, by simp, short_set hs (a := ⟨(rd_T47 db v).f0, p, (rd_T47 db v).f2, (rd_T47 db v).f3⟩) hx⟩
      · by_cases m2 : m = 2
        · obtain ⟨p, j, e, g, _⟩ := pick_f g2 (l1 := [(-1), 0, 4294967294, 4294967295]) (by decide) (by decide)
          refine ⟨_, j, by rw [if_neg m0, if_neg m1, if_pos m2, e]; rfl, g, by simp, short_set hs (a := ⟨(rd_T47 db v).f0, (rd_T47 db v).f1, p, (rd_T47 db v).f3⟩) hx⟩
        · by_cases m3 : m = 3
          · obtain ⟨s, j, e, g, hz⟩ := text_f g2
            refine ⟨_, j, by rw [if_neg m0, if_neg m1, if_neg m2, if_pos m3, e]; rfl, g, by simp, short_set hs (a := ⟨(rd_T47 db v).f0, (rd_T47 db v).f1, (rd_T47 db v).f2, s⟩) (show s.size ≤ 1000 by omega)⟩
          · by_cases m4 : m = 4
            · obtain ⟨s, j, e, g, hz⟩ := text_f g2
              have hz2 : ((⟨#[97, 48, 49, 50, 51, 52, 53, 54, 55, 56, 57, 45, 98, 99, 100]⟩ : ByteArray) ++ s).size ≤ 1000 := by
                rw [ByteArray.size_append]
                have : (⟨#[97, 48, 49, 50, 51, 52, 53, 54, 55, 56, 57, 45, 98, 99, 100]⟩ : ByteArray).size = 15 := rfl
                omega
              refine ⟨db.set v.toNat ⟨(rd_T47 db v).f0, (rd_T47 db v).f1, (rd_T47 db v).f2, (⟨#[97, 48, 49, 50, 51, 52, 53, 54, 55, 56, 57, 45, 98, 99, 100]⟩ : ByteArray) ++ s⟩, j, ?_, g, by rw [List.length_set]; omega, short_set hs (a := ⟨(rd_T47 db v).f0, (rd_T47 db v).f1, (rd_T47 db v).f2, (⟨#[97, 48, 49, 50, 51, 52, 53, 54, 55, 56, 57, 45, 98, 99, 100]⟩ : ByteArray) ++ s⟩) hz2⟩
              rw [if_neg m0, if_neg m1, if_neg m2, if_neg m3, if_pos m4, e]
              simp only [Option.bind_some]
              rw [if_pos (by omega)]
            · refine ⟨_, i2, by rw [if_neg m0, if_neg m1, if_neg m2, if_neg m3, if_neg m4, if_pos (by omega)], g2, by simp, fun y hy => ?_⟩
              rcases List.mem_append.1 hy with h | h
              · exact hs y h
              · rw [List.mem_singleton.1 h]; exact hx

theorem check_some (a : S47) (l : List S47) (hv : ∀ x ∈ l, validB x = true) (hp : ∀ x ∈ l, a.f0 < x.f0) (hw : l.Pairwise (fun x y => x.f0 < y.f0)) : checkL (some a) l = 0 := by
  induction l generalizing a with
  | nil => rfl
  | cons x r ih =>
    have h1 := hp x (List.mem_cons_self ..)
    have hless : lessB a x = true := by unfold lessB; rw [if_neg (by omega), decide_eq_true h1]
    rw [List.pairwise_cons] at hw
    show (if validB x = true then (if lessB a x = true then checkL (some x) r else 372) else 371) = 0
    rw [if_pos (hv x (List.mem_cons_self ..)), if_pos hless]
    exact ih x (fun y hy => hv y (List.mem_cons_of_mem _ hy)) hw.1 hw.2
theorem check_none (l : List S47) (hv : ∀ x ∈ l, validB x = true) (hw : l.Pairwise (fun x y => x.f0 < y.f0)) : checkL none l = 0 := by
  cases l with
  | nil => rfl
  | cons x r =>
    rw [List.pairwise_cons] at hw
    show (if validB x = true then checkL (some x) r else 371) = 0
    rw [if_pos (hv x (List.mem_cons_self ..))]
    exact check_some x r (fun y hy => hv y (List.mem_cons_of_mem _ hy)) hw.1 hw.2

theorem name_ok : ∀ s ∈ nameList, (decide (s.toList = []) || isWord s) = true := by
  intro s hs
  rw [← word_or]
  have hall : ∀ s ∈ nameList, (wordAll s && decide (s.size ≤ 16)) = true := by decide
  exact hall s hs

theorem made_ok {db : List S47} {T : Int} (hm : Made db T) (hT : T ≤ 1000) (hl : db.length ≤ 10) : checkS db = 0 := by
  unfold checkS
  rw [if_neg (by omega)]
  refine check_none db (fun x hx => ?_) hm.1
  obtain ⟨h0, h1, h2, h3, h4⟩ := hm.2 x hx
  have hk : (decide (x.f1 = 1) || decide (x.f1 = 2)) = true := by rcases h2 with h | h <;> rw [h] <;> rfl
  unfold validB
  rw [decide_eq_true h0, decide_eq_true (show x.f0 ≤ 1099511627776 by omega), hk, decide_eq_true (show 0 ≤ x.f2 by omega), decide_eq_true (show x.f2 < 4294967295 by omega), name_ok _ h4]
  rfl

theorem made_short {db : List S47} {T : Int} (hm : Made db T) : Short db := fun x hx => by
  have hall : ∀ s ∈ nameList, s.size ≤ 1000 := by decide
  exact hall _ (hm.2 x hx).2.2.2.2

def Fits (l : List S47) : Prop := ∀ x ∈ l, x.f3.size ≤ 9223372036854775807

theorem checks_l0 {db : List S47} (hc : checkS db = 0) (L : List (List S47)) (hL : ∀ x ∈ L, Fits x) (hn : L.length ≤ 100) (d : Nat) : ∀ (i : Nat), i + d = L.length →
    Ev (fun k => kauditlaw37_NamesChecks.l0 k db L (L.length : Int) (i : Int)) true := by
  induction d with
  | zero =>
    intro i hi
    refine Ev.step (f := fun k => ((names_Check.f k db).bind fun t271 => (if t271 = 0 then ((kauditlaw37_begun.f k).bind fun t272 => (some t272)) else (some false)))) (fun k => ?_) ?_
    · simp only [kauditlaw37_NamesChecks.l0]
      rw [if_neg (by omega)]
    · refine Ev.bind (check_ev db) ?_
      refine Ev.congr (fun k => if_pos hc) ?_
      exact Ev.bind begun_ev (Ev.now true)
  | succ d ih =>
    intro i hi
    have hw : wrap64 ((i : Int) + 1) = ((i + 1 : Nat) : Int) := by rw [w64 (by omega) (by omega)]; omega
    have hmem : rd_L4 L (i : Int) ∈ L := by
      unfold rd_L4
      rw [List.getD_eq_getElem?_getD, List.getElem?_eq_getElem (by omega)]
      exact List.getElem_mem _
    refine Ev.step (f := fun k => ((names_Check.f k (rd_L4 L (i : Int))).bind fun t274 => ((kauditref37_NamesCheck.f k (rd_L4 L (i : Int))).bind fun t275 => (if t274 = t275 then (kauditlaw37_NamesChecks.l0 k db L (L.length : Int) ((i + 1 : Nat) : Int)) else (some false))))) (fun k => ?_) ?_
    · simp only [kauditlaw37_NamesChecks.l0]
      rw [if_pos (by omega), if_pos (by omega), if_pos (by omega), hw]
    · refine Ev.bind (check_ev _) ?_
      refine Ev.bind (refcheck_ev _ (hL _ hmem)) ?_
      refine Ev.congr (fun k => if_pos rfl) ?_
      exact ih (i + 1) (by omega)

theorem short_fits {db : List S47} (h : Short db) : Fits db := fun x hx => by have := h x hx; omega

theorem checks (l0 : List Int) (l1 : List S47) (hw : ∀ x ∈ l0, (Lit.int .u8 x).wf = true) (hs : Fits l1) : ∃ k, kauditlaw37_NamesChecks.f k l0 l1 = some true := by
  obtain ⟨l, e0, g0⟩ := new_f l0 hw
  obtain ⟨db, T, j, hdb, hm, hT, hlen, gj⟩ := namings_f g0
  have sdb := made_short hm
  obtain ⟨s1, j1, e1, g1, n1, h1⟩ := spoilt_f gj db (by omega) sdb
  obtain ⟨s2, j2, e2, g2, n2, h2⟩ := spoilt_f g1 db (by omega) sdb
  obtain ⟨s3, j3, e3, g3, n3, h3⟩ := spoilt_f g2 s2 (by omega) h2
  refine Ev.rounds (Ev.congr (f := fun k => (kauditmill_Case_Namings.f k l 0).bind fun bt252 => ((kauditlaw37_spoilt.f l bt252.2 bt252.1).bind fun bt256 => ((kauditlaw37_spoilt.f l bt256.2 bt252.1).bind fun bt260 => ((kauditlaw37_spoilt.f l bt260.2 bt260.1).bind fun bt264 => ((some (([bt252.1, bt256.1, bt264.1, l1] : List (List (S47))) : List (List (S47)))).bind fun y268 => (kauditlaw37_NamesChecks.l0 k bt252.1 y268 (y268.length : Int) 0)))))) (fun k => ?_) ?_)
  · unfold kauditlaw37_NamesChecks.f
    rw [e0]
    rfl
  · refine Ev.bind hdb ?_
    refine Ev.congr (f := fun k => kauditlaw37_NamesChecks.l0 k db [db, s1, s3, l1] (([db, s1, s3, l1] : List (List S47)).length : Int) ((0 : Nat) : Int)) (fun k => ?_) (checks_l0 (made_ok hm hT hlen) [db, s1, s3, l1] ?_ (by simp) 4 0 (by simp))
    · simp only [e1, e2, e3, Option.bind_some]
      rfl
    · intro x hx
      simp only [List.mem_cons, List.not_mem_nil, or_false] at hx
      rcases hx with rfl | rfl | rfl | rfl
      · exact short_fits sdb
      · exact short_fits h1
      · exact short_fits h3
      · exact hs

theorem NamesChecks (l0 : List Int) (l1 : List S47) (_hm : l0.length ≤ maxLen) (_hs : l0.length * 1 ≤ 140737488351232) (hw : ∀ x ∈ l0, (Lit.int .u8 x).wf = true) (_hm1 : l1.length ≤ maxLen) (hq : ∀ x ∈ l1, Open.QN x) :
    ∃ k, kauditlaw37_NamesChecks.f k l0 l1 = some true :=
  checks l0 l1 hw (fun x hx => (hq x hx).2.2.2)

end Go.Proofs.YtjnlmmjadlidlaaDoor.Pure
