/-
  The plain law of NamesInterprets: names and the reference write, interpret and name alike.
-/
import Derived.Test.YtjnlmmjadlidlaaDoorNPure4
import Derived.Test.YtjnlmmjadlidlaaDoorNOpen
namespace Go.Proofs.YtjnlmmjadlidlaaDoor.Pure
open Go.RowKit Go.Proofs.YtjnlmmjadlidlaaDoor.PNames Go.Proofs.YtjnlmmjadlidlaaDoorW.PrintWords

theorem refj1_ev (l : List S47) (hl : l.length ≤ 9223372036854775807) (t : Int) (name : ByteArray) (num : Int) (hn : I64 num) (flag : Bool) (hf : flag = true ↔ isGroup name) :
    Ev (fun k => kauditref37_special.j1 k l t num name flag) (if isGroup name then nmAt l t 2 num else late num name) := by
  by_cases hg : isGroup name
  · rw [if_pos hg]
    refine Ev.step (f := fun k => (kauditref37_Name.f k l 2 num t).bind fun bt295 => (some bt295.1)) (fun k => ?_) ?_
    · simp only [kauditref37_special.j1]
      rw [if_pos (hf.2 hg)]
    · exact Ev.bind (refname_ev l 2 num t hl) (Ev.now _)
  · rw [if_neg hg]
    have h0 : ∀ {a b : Option ByteArray}, (if flag = true then a else b) = b := fun {a b} => if_neg (fun h => hg (hf.1 h))
    unfold late
    by_cases h1 : name.toList = [115, 101, 115]
    · rw [if_pos h1]
      by_cases hu : num = 4294967295
      · rw [if_pos hu]
        refine Ev.step (f := fun _ => some unsetS) (fun k => ?_) (Ev.now _)
        simp only [kauditref37_special.j1]
        rw [h0, if_pos h1, if_pos hu]
        rfl
      · rw [if_neg hu]
        refine Ev.step (f := fun _ => some ⟨#[]⟩) (fun k => ?_) (Ev.now _)
        simp only [kauditref37_special.j1]
        rw [h0, if_pos h1, if_neg hu]
    · rw [if_neg h1]
      by_cases h2 : name.toList = [101, 120, 105, 116]
      · rw [if_pos h2]
        unfold exitS
        by_cases hneg : num < 0
        · by_cases hm : num > -9223372036854775808
          · have e1 : wrap64 (-num) = -num := w64 (by omega) (by omega)
            have hlen := errName_len (-num)
            have hsz : (⟨(errName (-num)).toArray⟩ : ByteArray).size ≤ 13 := by simpa [ByteArray.size] using hlen
            rw [if_pos ⟨hneg, hm⟩]
            refine Ev.step (f := fun k => ((kauditref37_ErrorName.f k (-num)).bind fun t297 => (if t297.toList = ([] : List UInt8) then (some (⟨#[]⟩ : ByteArray)) else ((kauditref37_ErrorName.f k (-num)).bind fun t298 => (if 1 + t298.size ≤ 9223372036854775807 then (some ((⟨#[45]⟩ : ByteArray) ++ t298)) else (none)))))) (fun k => ?_) ?_
            · simp only [kauditref37_special.j1]
              rw [h0, if_neg h1, if_pos h2, if_pos hneg, e1, if_pos (by omega)]
            · refine Ev.bind (referr_ev (-num)) ?_
              by_cases he : errName (-num) = []
              · rw [he, if_pos rfl]
                exact Ev.congr (fun k => if_pos empty_toList) (Ev.now _)
              · have ht : ¬ (⟨(errName (-num)).toArray⟩ : ByteArray).toList = [] := by rw [ByteArray.toList_eq]; simpa using he
                rw [if_neg he]
                refine Ev.congr (fun k => if_neg ht) ?_
                refine Ev.bind (referr_ev (-num)) ?_
                exact Ev.congr (fun k => if_pos (by omega)) (Ev.now _)
          · have e1 : wrap64 (-num) = -9223372036854775808 := by
              have : num = -9223372036854775808 := by have := hn.1; omega
              rw [this]; decide +kernel
            rw [if_neg (show ¬ (num < 0 ∧ num > -9223372036854775808) by omega)]
            refine Ev.step (f := fun _ => some ⟨#[]⟩) (fun k => ?_) (Ev.now _)
            simp only [kauditref37_special.j1]
            rw [h0, if_neg h1, if_pos h2, if_pos hneg, e1, if_neg (by omega)]
        · rw [if_neg (show ¬ (num < 0 ∧ num > -9223372036854775808) by omega)]
          refine Ev.step (f := fun _ => some ⟨#[]⟩) (fun k => ?_) (Ev.now _)
          simp only [kauditref37_special.j1]
          rw [h0, if_neg h1, if_pos h2, if_neg hneg]
      · rw [if_neg h2]
        by_cases h3 : name.toList = [109, 111, 100, 101]
        · rw [if_pos h3]
          refine Ev.step (f := fun k => ((kauditref08_Format.f k num).bind fun t299 => (some t299))) (fun k => ?_) ?_
          · simp only [kauditref37_special.j1]
            rw [h0, if_neg h1, if_neg h2, if_pos h3]
          · exact Ev.bind (refmode_ev num) (Ev.now _)
        · rw [if_neg h3]
          by_cases h4 : name.toList = [112, 101, 114, 109]
          · rw [if_pos h4]
            refine Ev.step (f := fun k => kauditref37_special.l0 k num ⟨#[]⟩ permLetters 4 0) (fun k => ?_) ⟨5, fun k hk => ?_⟩
            · simp only [kauditref37_special.j1]
              rw [h0, if_neg h1, if_neg h2, if_neg h3, if_pos h4]
              rfl
            · obtain ⟨m, rfl⟩ : ∃ m, k = m + 5 := ⟨k - 5, by omega⟩
              exact refperm_l0 num m
          · rw [if_neg h4]
            refine Ev.step (f := fun _ => some ⟨#[]⟩) (fun k => ?_) (Ev.now _)
            simp only [kauditref37_special.j1]
            rw [h0, if_neg h1, if_neg h2, if_neg h3, if_neg h4]

theorem refj0_ev (l : List S47) (hl : l.length ≤ 9223372036854775807) (t : Int) (name : ByteArray) (num : Int) (hn : I64 num) (flag : Bool) (hf : flag = true ↔ isUser name) :
    Ev (fun k => kauditref37_special.j0 k l t num name flag) (special (nmAt l t) name num) := by
  unfold special
  by_cases hu : isUser name
  · rw [if_pos hu]
    by_cases h1 : num = 4294967295
    · rw [if_pos h1]
      refine Ev.step (f := fun _ => some unsetS) (fun k => ?_) (Ev.now _)
      simp only [kauditref37_special.j0]
      rw [if_pos (hf.2 hu), if_pos h1]
      rfl
    · rw [if_neg h1]
      refine Ev.step (f := fun k => (kauditref37_Name.f k l 1 num t).bind fun bt293 => (some bt293.1)) (fun k => ?_) ?_
      · simp only [kauditref37_special.j0]
        rw [if_pos (hf.2 hu), if_neg h1]
      · exact Ev.bind (refname_ev l 1 num t hl) (Ev.now _)
  · rw [if_neg hu]
    have h0 : ∀ {a b : Option ByteArray}, (if flag = true then a else b) = b := fun {a b} => if_neg (fun h => hu (hf.1 h))
    by_cases h1 : name.toList = [103, 105, 100]
    · refine Ev.step (fun k => ?_) (refj1_ev l hl t name num hn (name.toList == ([103, 105, 100] : List UInt8)) (by simp [isGroup, h1]))
      simp only [kauditref37_special.j0]
      rw [h0, if_pos h1]
    · by_cases h2 : name.toList = [101, 103, 105, 100]
      · refine Ev.step (fun k => ?_) (refj1_ev l hl t name num hn (name.toList == ([101, 103, 105, 100] : List UInt8)) (by simp [isGroup, h2]))
        simp only [kauditref37_special.j0]
        rw [h0, if_neg h1, if_pos h2]
      · refine Ev.step (fun k => ?_) (refj1_ev l hl t name num hn (name.toList == ([111, 103, 105, 100] : List UInt8)) (by simp [isGroup, h1, h2]))
        simp only [kauditref37_special.j0]
        rw [h0, if_neg h1, if_neg h2]

theorem refspecial_ev (l : List S47) (hl : l.length ≤ 9223372036854775807) (t : Int) (name : ByteArray) (num : Int) (hn : I64 num) :
    Ev (fun k => kauditref37_special.f k l t name num) (special (nmAt l t) name num) := by
  unfold kauditref37_special.f
  by_cases h1 : name.toList = [117, 105, 100]
  · exact Ev.congr (fun k => if_pos h1) (refj0_ev l hl t name num hn _ (by simp [isUser, h1]))
  · refine Ev.congr (fun k => if_neg h1) ?_
    by_cases h2 : name.toList = [101, 117, 105, 100]
    · exact Ev.congr (fun k => if_pos h2) (refj0_ev l hl t name num hn _ (by simp [isUser, h2]))
    · refine Ev.congr (fun k => if_neg h2) ?_
      by_cases h3 : name.toList = [97, 117, 105, 100]
      · exact Ev.congr (fun k => if_pos h3) (refj0_ev l hl t name num hn _ (by simp [isUser, h3]))
      · exact Ev.congr (fun k => if_neg h3) (refj0_ev l hl t name num hn _ (by simp [isUser, h1, h2, h3]))

theorem refinterpret_ev (l : List S47) (hl : l.length ≤ 9223372036854775807) (t : Int) (name : ByteArray) (kind num : Int) (text : ByteArray) (hn : I64 num) :
    Ev (fun k => kauditref37_Interpret.f k l t name kind num text) (interp (nmAt l t) name kind num text) := by
  unfold kauditref37_Interpret.f interp
  by_cases h0 : kind = 1
  · rw [if_pos h0]
    refine Ev.congr (fun k => if_pos h0) ?_
    refine Ev.bind (refspecial_ev l hl t name num hn) ?_
    unfold or1
    by_cases h : (special (nmAt l t) name num).toList = []
    · rw [if_pos h, if_pos h]
      exact Ev.congr (fun k => by rw [refplain_f name kind num text hn]; rfl) (Ev.now _)
    · rw [if_neg h, if_neg h]
      exact Ev.now _
  · rw [if_neg h0]
    exact Ev.congr (fun k => (if_neg h0).trans (by rw [refplain_f name kind num text hn]; rfl)) (Ev.now _)

def Nums (ps : List S34) : Prop := ∀ x ∈ ps, I64 x.f2

theorem wf64 {n : Int} (h : (Lit.int .i64 n).wf = true) : I64 n := bounds_i64 h

theorem l4_ev (n : Int) (hn : I64 n) (d : Nat) : ∀ i : Nat, i + d = 121 → Ev (fun k => kauditlaw37_NamesInterprets.l4 k n ((i : Int) - 1)) true := by
  have err : ∀ m, I64 m → names_ErrorName.f m = some ⟨(errName m).toArray⟩ := fun m hm => by
    unfold names_ErrorName.f
    rw [if_pos (WalkArith.wf_i64 hm)]
  induction d with
  | zero =>
    intro i hi
    refine Ev.step (f := fun k => ((names_ErrorName.f n).bind fun t366 => ((kauditref37_ErrorName.f k n).bind fun t367 => (if t366.toList = t367.toList then ((kauditlaw37_begun.f k).bind fun t368 => (some t368)) else (some false))))) (fun k => ?_) ?_
    · simp only [kauditlaw37_NamesInterprets.l4]
      rw [if_neg (by omega)]
    · rw [err n hn]
      refine Ev.congr (fun k => Option.bind_some _ _) ?_
      refine Ev.bind (referr_ev n) ?_
      refine Ev.congr (fun k => if_pos rfl) ?_
      exact Ev.bind begun_ev (Ev.now true)
  | succ d ih =>
    intro i hi
    have hw : wrap64 ((i : Int) - 1 + 1) = ((i + 1 : Nat) : Int) - 1 := by rw [w64 (by omega) (by omega)]; omega
    refine Ev.step (f := fun k => ((names_ErrorName.f ((i : Int) - 1)).bind fun t369 => ((kauditref37_ErrorName.f k ((i : Int) - 1)).bind fun t370 => (if t369.toList = t370.toList then (kauditlaw37_NamesInterprets.l4 k n (((i + 1 : Nat) : Int) - 1)) else (some false))))) (fun k => ?_) ?_
    · simp only [kauditlaw37_NamesInterprets.l4]
      rw [if_pos (by omega), hw]
    · rw [err ((i : Int) - 1) (by constructor <;> omega)]
      refine Ev.congr (fun k => Option.bind_some _ _) ?_
      refine Ev.bind (referr_ev _) ?_
      refine Ev.congr (fun k => if_pos rfl) ?_
      exact ih (i + 1) (by omega)

theorem rd34_mem {ps : List S34} {v : Int} (h0 : 0 ≤ v) (h1 : v < ps.length) : rd_T34 ps v ∈ ps := by
  unfold rd_T34
  rw [List.getD_eq_getElem?_getD, List.getElem?_eq_getElem (by omega)]
  exact List.getElem_mem _

section
variable {time n : Int} {ps : List S34} {dbs : List (List S47)} {c : List Int}

theorem l3_ev (x : S34) (hx : I64 x.f2) (db : List S47) (hdb : db.length ≤ 9223372036854775807) (i51 i57 : Int) (ts : List Int) (hts : ts.length ≤ 100) (c1 : Int)
    (next : Ev (fun k => kauditlaw37_NamesInterprets.l2 k time n ps db dbs (dbs.length : Int) i51 ps (ps.length : Int) (wrap64 (i57 + 1)) c c1) true) (d : Nat) : ∀ i : Nat, i + d = ts.length →
    Ev (fun k => kauditlaw37_NamesInterprets.l3 k time n ps db dbs (dbs.length : Int) i51 ps (ps.length : Int) i57 ts (ts.length : Int) (i : Int) c c1 x.f0 x.f1 x.f2 x.f3) true := by
  induction d with
  | zero =>
    intro i hi
    refine Ev.step (fun k => ?_) next
    simp only [kauditlaw37_NamesInterprets.l3]
    rw [if_neg (by omega)]
  | succ d ih =>
    intro i hi
    have hw : wrap64 ((i : Int) + 1) = ((i + 1 : Nat) : Int) := by rw [w64 (by omega) (by omega)]; omega
    refine Ev.step (f := fun k => ((names_Interpret.f k db (rd ts (i : Int)) x.f0 x.f1 x.f2 x.f3).bind fun t362 => ((kauditref37_Interpret.f k db (rd ts (i : Int)) x.f0 x.f1 x.f2 x.f3).bind fun t363 => (if t362.toList = t363.toList then ((names_Plain.f x.f0 x.f1 x.f2 x.f3).bind fun t364 => ((kauditref37_Plain.f x.f0 x.f1 x.f2 x.f3).bind fun t365 => (if t364.toList = t365.toList then
      (kauditlaw37_NamesInterprets.l3 k time n ps db dbs (dbs.length : Int) i51 ps (ps.length : Int) i57 ts (ts.length : Int) ((i + 1 : Nat) : Int) c c1 x.f0 x.f1 x.f2 x.f3) else (some false)))) else (some false))))) (fun k => ?_) ?_
    · simp only [kauditlaw37_NamesInterprets.l3]
      rw [if_pos (by omega), if_pos (by omega), if_pos (by omega), hw]
    · refine Ev.bind (interpret_ev db _ x.f0 x.f1 x.f2 x.f3 hx) ?_
      refine Ev.bind (refinterpret_ev db hdb _ x.f0 x.f1 x.f2 x.f3 hx) ?_
      refine Ev.congr (fun k => if_pos rfl) ?_
      rw [plain_f x.f0 x.f1 x.f2 x.f3 hx, refplain_f x.f0 x.f1 x.f2 x.f3 hx]
      refine Ev.congr (f := fun k => kauditlaw37_NamesInterprets.l3 k time n ps db dbs (dbs.length : Int) i51 ps (ps.length : Int) i57 ts (ts.length : Int) ((i + 1 : Nat) : Int) c c1 x.f0 x.f1 x.f2 x.f3) (fun k => ?_) (ih (i + 1) (by omega))
      simp only [Option.bind_some]
      rw [if_pos trivial]

theorem l2_ev (hps : Nums ps) (hlen : ps.length ≤ 1000) (db : List S47) (hdb : db.length ≤ 9223372036854775807) (i51 : Int)
    (next : ∀ c1, Good c c1 → Ev (fun k => kauditlaw37_NamesInterprets.l1 k time n ps dbs (dbs.length : Int) (wrap64 (i51 + 1)) c c1) true) (d : Nat) : ∀ (j : Nat) (c1 : Int), j + d = ps.length → Good c c1 →
    Ev (fun k => kauditlaw37_NamesInterprets.l2 k time n ps db dbs (dbs.length : Int) i51 ps (ps.length : Int) (j : Int) c c1) true := by
  induction d with
  | zero =>
    intro j c1 hj hg
    refine Ev.step (fun k => ?_) (next c1 hg)
    simp only [kauditlaw37_NamesInterprets.l2]
    rw [if_neg (by omega)]
  | succ d ih =>
    intro j c1 hj hg
    have hw : wrap64 ((j : Int) + 1) = ((j + 1 : Nat) : Int) := by rw [w64 (by omega) (by omega)]; omega
    obtain ⟨v, c2, e, g, _⟩ := int_f (n := 9) hg (by omega)
    have hn := ih (j + 1) c2 (by omega) g
    refine Ev.step (f := fun k => kauditlaw37_NamesInterprets.l3 k time n ps db dbs (dbs.length : Int) i51 ps (ps.length : Int) (j : Int) [time, v] (([time, v] : List Int).length : Int) ((0 : Nat) : Int) c c2 (rd_T34 ps (j : Int)).f0 (rd_T34 ps (j : Int)).f1 (rd_T34 ps (j : Int)).f2 (rd_T34 ps (j : Int)).f3) (fun k => ?_) ?_
    · simp only [kauditlaw37_NamesInterprets.l2]
      rw [if_pos (by omega), if_pos (by omega), if_pos (by omega), e]
      rfl
    · exact l3_ev (rd_T34 ps (j : Int)) (hps _ (rd34_mem (by omega) (by omega))) db hdb i51 (j : Int) [time, v] (by simp) c2 (by rw [hw]; exact hn) 2 0 (by simp)

theorem l1_ev (hn : I64 n) (hps : Nums ps) (hlen : ps.length ≤ 1000) (hdbs : ∀ db ∈ dbs, db.length ≤ 9223372036854775807) (hd : dbs.length ≤ 100) (d : Nat) : ∀ (i : Nat) (c1 : Int), i + d = dbs.length → Good c c1 →
    Ev (fun k => kauditlaw37_NamesInterprets.l1 k time n ps dbs (dbs.length : Int) (i : Int) c c1) true := by
  induction d with
  | zero =>
    intro i c1 hi hg
    refine Ev.step (f := fun k => kauditlaw37_NamesInterprets.l4 k n (((0 : Nat) : Int) - 1)) (fun k => ?_) (l4_ev n hn 121 0 (by omega))
    simp only [kauditlaw37_NamesInterprets.l1]
    rw [if_neg (by omega)]
    rfl
  | succ d ih =>
    intro i c1 hi hg
    have hw : wrap64 ((i : Int) + 1) = ((i + 1 : Nat) : Int) := by rw [w64 (by omega) (by omega)]; omega
    have hmem : rd_L4 dbs (i : Int) ∈ dbs := by
      unfold rd_L4
      rw [List.getD_eq_getElem?_getD, List.getElem?_eq_getElem (by omega)]
      exact List.getElem_mem _
    refine Ev.step (f := fun k => kauditlaw37_NamesInterprets.l2 k time n ps (rd_L4 dbs (i : Int)) dbs (dbs.length : Int) (i : Int) ps (ps.length : Int) ((0 : Nat) : Int) c c1) (fun k => ?_) ?_
    · simp only [kauditlaw37_NamesInterprets.l1]
      rw [if_pos (by omega), if_pos (by omega), if_pos (by omega)]
      rfl
    · exact l2_ev hps hlen _ (hdbs _ hmem) (i : Int) (fun c2 g2 => by rw [hw]; exact ih (i + 1) c2 (by omega) g2) ps.length 0 c1 (by omega) hg
end

def keyList : List ByteArray := [(⟨#[117, 105, 100]⟩ : ByteArray), (⟨#[101, 117, 105, 100]⟩ : ByteArray), (⟨#[97, 117, 105, 100]⟩ : ByteArray), (⟨#[111, 117, 105, 100]⟩ : ByteArray), (⟨#[103, 105, 100]⟩ : ByteArray), (⟨#[101, 103, 105, 100]⟩ : ByteArray), (⟨#[111, 103, 105, 100]⟩ : ByteArray), (⟨#[115, 101, 115]⟩ : ByteArray), (⟨#[101, 120, 105, 116]⟩ : ByteArray), (⟨#[109, 111, 100, 101]⟩ : ByteArray), (⟨#[112, 101, 114, 109]⟩ : ByteArray), (⟨#[112, 105, 100]⟩ : ByteArray)]

theorem l0_ev {raw : List S47} (hraw : raw.length ≤ 9223372036854775807) {time n : Int} (hn : I64 n) {c : List Int} (d : Nat) : ∀ (i : Nat) (c1 : Int) (ps : List S34), i + d = 12 → Nums ps → ps.length ≤ 1 + 3 * i → Good c c1 →
    Ev (fun k => kauditlaw37_NamesInterprets.l0 k raw time n ps keyList 12 (i : Int) c c1) true := by
  have lk : (keyList.length : Int) = 12 := rfl
  induction d with
  | zero =>
    intro i c1 ps hi hps hlen hg
    obtain ⟨db, T, j, hdb, _, _, hl, gj⟩ := namings_f hg
    refine Ev.step (f := fun k => ((kauditmill_Case_Namings.f k c c1).bind fun bt346 => ((some (([bt346.1, raw] : List (List (S47))) : List (List (S47)))).bind fun y350 => (kauditlaw37_NamesInterprets.l1 k time n ps y350 (y350.length : Int) 0 c bt346.2)))) (fun k => ?_) ?_
    · simp only [kauditlaw37_NamesInterprets.l0]
      rw [if_neg (by omega)]
    · refine Ev.bind hdb ?_
      refine Ev.congr (f := fun k => kauditlaw37_NamesInterprets.l1 k time n ps [db, raw] (([db, raw] : List (List S47)).length : Int) ((0 : Nat) : Int) c j) (fun k => rfl) ?_
      refine l1_ev hn hps (by omega) (fun x hx => ?_) (by simp) 2 0 j (by simp) gj
      simp only [List.mem_cons, List.not_mem_nil, or_false] at hx
      rcases hx with rfl | rfl
      · omega
      · exact hraw
  | succ d ih =>
    intro i c1 ps hi hps hlen hg
    have hw : wrap64 ((i : Int) + 1) = ((i + 1 : Nat) : Int) := by rw [w64 (by omega) (by omega)]; omega
    obtain ⟨v, c2, e, g, hv⟩ := pick_f hg (l1 := [0, 7, 8, 4294967295, (-2), (-13), (-111), 420, 15, 16, (-9223372036854775808)]) (by decide) (by decide)
    have hv64 : I64 v := by
      simp only [List.mem_cons, List.not_mem_nil, or_false] at hv
      rcases hv with rfl | rfl | rfl | rfl | rfl | rfl | rfl | rfl | rfl | rfl | rfl <;> constructor <;> omega
    have hz : I64 0 := by constructor <;> omega
    have hps2 : Nums (ps ++ [⟨rdOf ByteArray.empty keyList (i : Int), 1, n, ⟨#[]⟩⟩, ⟨rdOf ByteArray.empty keyList (i : Int), 1, v, ⟨#[]⟩⟩, ⟨rdOf ByteArray.empty keyList (i : Int), 2, 0, ⟨#[55]⟩⟩]) := fun x hx => by
      rcases List.mem_append.1 hx with h | h
      · exact hps x h
      · simp only [List.mem_cons, List.not_mem_nil, or_false] at h
        rcases h with rfl | rfl | rfl
        · exact hn
        · exact hv64
        · exact hz
    refine Ev.step (fun k => ?_) (ih (i + 1) c2 _ (by omega) hps2 (by simp; omega) g)
    simp only [kauditlaw37_NamesInterprets.l0]
    rw [if_pos (by omega), if_pos (by omega), if_pos (by omega), e, hw]
    unfold kauditmill_Num.f kauditmill_Str.f
    simp only [Option.bind_some]
    rw [if_pos (by simp; omega)]

theorem NamesInterprets (l0 : List Int) (l1 : List S47) (a2 : Int) (a3 : S34) (a4 : Int) (_hm : l0.length ≤ maxLen) (_hs : l0.length * 1 ≤ 140737488351232) (hw : ∀ x ∈ l0, (Lit.int .u8 x).wf = true)
    (hm1 : l1.length ≤ maxLen) (_hq : ∀ x ∈ l1, Open.QN x) (_h2 : (Lit.int .i64 a2).wf = true) (hq3 : Open.QP a3) (h4 : (Lit.int .i64 a4).wf = true) :
    ∃ k, kauditlaw37_NamesInterprets.f k l0 l1 a2 a3.f0 a3.f1 a3.f2 a3.f3 a4 = some true := by
  obtain ⟨l, e0, g0⟩ := new_f l0 hw
  refine Ev.rounds (Ev.congr (f := fun k => kauditlaw37_NamesInterprets.l0 k l1 a2 a4 [⟨a3.f0, a3.f1, a3.f2, a3.f3⟩] keyList 12 ((0 : Nat) : Int) l 0) (fun k => ?_) (l0_ev hm1 (wf64 h4) 12 0 0 _ (by omega) (fun x hx => ?_) (by simp) g0))
  · unfold kauditlaw37_NamesInterprets.f
    rw [e0]
    rfl
  · rw [List.mem_singleton.1 hx]
    exact wf64 hq3.2.2.1

end Go.Proofs.YtjnlmmjadlidlaaDoor.Pure
