/-
  NamesThen's plain law: what is named later doesn't change what a name was before.
-/
import Derived.Test.YtjnlmmjadlidlaaDoorNPure2
namespace Go.Proofs.YtjnlmmjadlidlaaDoor.Pure
open Go.RowKit Go.Proofs.YtjnlmmjadlidlaaDoor.PNames Go.Proofs.YtjnlmmjadlidlaaDoorW.PrintWords

/-- Namings whose time has not come do not count. -/
theorem findBack_take (db : List S47) (n : Nat) (kind id t : Int) (h : ∀ x ∈ db.drop n, t < x.f0) : findBack (db.take n) kind id t = findBack db kind id t := by
  have e : db.reverse = (db.drop n).reverse ++ (db.take n).reverse := by rw [← List.reverse_append, List.take_append_drop]
  unfold findBack
  rw [e, List.find?_append]
  have hn : (db.drop n).reverse.find? (hit kind id t) = none := by
    rw [List.find?_eq_none]
    intro x hx hh
    have := h x (List.mem_reverse.1 hx)
    simp [hit] at hh
    omega
  rw [hn]
  rfl

theorem nmAt_take (db : List S47) (n : Nat) (t : Int) (h : ∀ x ∈ db.drop n, t < x.f0) : nmAt (db.take n) t = nmAt db t := by
  funext kind id
  unfold nmAt
  rw [findBack_take db n kind id t h]

/-- Behind place n all times are later than that of place n. -/
theorem made_drop {db : List S47} {T : Int} (hm : Made db T) {n : Nat} (hn : n < db.length) {t : Int} (ht : t < (rd_T47 db (n : Int)).f0) : ∀ x ∈ db.drop n, t < x.f0 := by
  intro x hx
  rw [List.drop_eq_getElem_cons hn] at hx
  have e : rd_T47 db (n : Int) = db[n] := by unfold rd_T47; simp [List.getD_eq_getElem?_getD, hn]
  rw [e] at ht
  rcases List.mem_cons.1 hx with rfl | h
  · exact ht
  · have hp := (List.pairwise_iff_getElem.1 hm.1)
    obtain ⟨j, hj, rfl⟩ := List.mem_iff_getElem.1 h
    rw [List.length_drop] at hj
    have := hp n (n + 1 + j) hn (by omega) (by omega)
    rw [List.getElem_drop]
    omega

theorem then_l0 {db : List S47} {T : Int} (hm : Made db T) (n : Nat) (hn : n ≤ db.length) (_hlen : db.length ≤ 10) (id : Int) (hid : 0 ≤ id ∧ id < 9) (d : Nat) : ∀ (t : Nat), t + d = 25 →
    Ev (fun k => kauditlaw37_NamesThen.l0 k db (n : Int) (t : Int) uidS 1 id ⟨#[]⟩) true := by
  have hb : Ev (fun k => (kauditlaw37_begun.f k).bind fun t => some t) true := Ev.bind (f := fun _ t => some t) begun_ev (Ev.now true)
  have hI : I64 id := by constructor <;> omega
  induction d with
  | zero =>
    intro t ht
    refine Ev.step (f := fun k => (kauditlaw37_begun.f k).bind fun t => some t) (fun k => ?_) hb
    simp only [kauditlaw37_NamesThen.l0]
    rw [if_neg (by omega)]
  | succ d ih =>
    intro t ht
    have hw : wrap64 ((t : Int) + 1) = ((t + 1 : Nat) : Int) := by rw [w64 (by omega) (by omega)]; omega
    have hgo : nmAt (db.take n) (t : Int) = nmAt db (t : Int) → Ev (fun k => kauditlaw37_NamesThen.j1 k db (n : Int) (t : Int) false uidS 1 id ⟨#[]⟩) true := fun hnm => by
      refine Ev.step (f := fun k => (names_Interpret.f k db (t : Int) uidS 1 id ⟨#[]⟩).bind fun t192 => ((names_Interpret.f k (db.take n) (t : Int) uidS 1 id ⟨#[]⟩).bind fun t197 => (if t192.toList = t197.toList then (kauditlaw37_NamesThen.l0 k db (n : Int) ((t + 1 : Nat) : Int) uidS 1 id ⟨#[]⟩) else (some false)))) (fun k => ?_) ?_
      · simp only [kauditlaw37_NamesThen.j1]
        rw [if_neg Bool.false_ne_true, hw]
        congr 1
        funext t192
        rw [if_pos (by omega), if_pos (by omega)]
        rfl
      · refine Ev.bind (interpret_ev db _ uidS 1 id ⟨#[]⟩ hI) ?_
        refine Ev.bind (interpret_ev (db.take n) _ uidS 1 id ⟨#[]⟩ hI) ?_
        refine Ev.congr (fun k => if_pos (by rw [hnm])) ?_
        exact ih (t + 1) (by omega)
    by_cases h1 : n < db.length
    · by_cases h2 : (t : Int) ≥ (rd_T47 db (n : Int)).f0
      · refine Ev.step (f := fun k => kauditlaw37_NamesThen.j1 k db (n : Int) (t : Int) true uidS 1 id ⟨#[]⟩) (fun k => ?_) ?_
        · simp only [kauditlaw37_NamesThen.l0]
          rw [if_pos (by omega), if_pos (by omega), if_pos (by omega), decide_eq_true h2]
        · refine Ev.step (f := fun k => (kauditlaw37_begun.f k).bind fun t => some t) (fun k => ?_) hb
          simp only [kauditlaw37_NamesThen.j1]
          rw [if_pos trivial]
      · refine Ev.step (f := fun k => kauditlaw37_NamesThen.j1 k db (n : Int) (t : Int) false uidS 1 id ⟨#[]⟩) (fun k => ?_) (hgo (nmAt_take db n _ (made_drop hm h1 (by omega))))
        simp only [kauditlaw37_NamesThen.l0]
        rw [if_pos (by omega), if_pos (by omega), if_pos (by omega), decide_eq_false h2]
    · refine Ev.step (f := fun k => kauditlaw37_NamesThen.j1 k db (n : Int) (t : Int) false uidS 1 id ⟨#[]⟩) (fun k => ?_) (hgo (by rw [List.take_of_length_le (by omega)]))
      simp only [kauditlaw37_NamesThen.l0]
      rw [if_pos (by omega), if_neg (by omega)]

theorem NamesThen (l0 : List Int) (a1 a2 : Int) (_hm : l0.length ≤ maxLen) (_hs : l0.length * 1 ≤ 140737488351232) (hw : ∀ x ∈ l0, (Lit.int .u8 x).wf = true) (h1 : (Lit.int .u8 a1).wf = true) (h2 : (Lit.int .u8 a2).wf = true) :
    ∃ k, kauditlaw37_NamesThen.f k l0 a1 a2 = some true := by
  have b1 := wf8 h1
  have b2 := wf8 h2
  obtain ⟨l, e0, g0⟩ := new_f l0 hw
  obtain ⟨db, T, j, hdb, hm, _, hlen, _⟩ := namings_f g0
  have w1 : wrap64 ((db.length : Int) + 1) = (db.length : Int) + 1 := w64 (by omega) (by omega)
  have w2 : wrap64 a1 = a1 := w64 (by omega) (by omega)
  have w3 : wrap64 a2 = a2 := w64 (by omega) (by omega)
  have hn0 : 0 ≤ Int.tmod a1 ((db.length : Int) + 1) := Int.tmod_nonneg _ b1.1
  have hn1 : Int.tmod a1 ((db.length : Int) + 1) < (db.length : Int) + 1 := Int.tmod_lt_of_pos _ (by omega)
  obtain ⟨n, hn⟩ := Int.eq_ofNat_of_zero_le hn0
  have hid0 : 0 ≤ Int.tmod a2 9 := Int.tmod_nonneg _ b2.1
  have hid1 : Int.tmod a2 9 < 9 := Int.tmod_lt_of_pos _ (by omega)
  refine Ev.rounds (Ev.congr (f := fun k => (kauditmill_Case_Namings.f k l 0).bind fun bt => (if (wrap64 ((bt.1.length : Int) + 1)) = 0 then (none) else ((kauditmill_Num.f uidS (Int.tmod (wrap64 (a2)) 9)).bind fun bt184 => (kauditlaw37_NamesThen.l0 k bt.1 (Int.tmod (wrap64 (a1)) (wrap64 ((bt.1.length : Int) + 1))) 0 bt184.1 bt184.2.1 bt184.2.2.1 bt184.2.2.2)))) (fun k => ?_) ?_)
  · unfold kauditlaw37_NamesThen.f
    rw [e0]
    rfl
  · refine Ev.bind hdb ?_
    refine Ev.congr (f := fun k => kauditlaw37_NamesThen.l0 k db (n : Int) ((0 : Nat) : Int) uidS 1 (Int.tmod a2 9) ⟨#[]⟩) (fun k => ?_) (then_l0 hm n (by omega) hlen _ ⟨hid0, hid1⟩ 25 0 (by omega))
    simp only []
    rw [w1, w2, w3, if_neg (by omega), hn]
    rfl

end Go.Proofs.YtjnlmmjadlidlaaDoor.Pure
