/-
  The plain law of RecordChecks: for every record, Check and Format answer as the reference's do.
-/
import Derived.Test.YtjnlmmjadlidlaaDoorRPure3
import Derived.Test.YtjnlmmjadlidlaaDoorPRecx14
import Derived.Test.YtjnlmmjadlidlaaDoorROpen
namespace Go.Proofs.YtjnlmmjadlidlaaDoor.Pure3
open Go.RowKit Go.Proofs.YtjnlmmjadlidlaaDoor.PRec Go.Proofs.YtjnlmmjadlidlaaDoorW.PrintWords

def cwdP : S34 := ⟨(⟨#[99, 119, 100]⟩ : ByteArray), 2, 0, (⟨#[47, 116, 109, 112]⟩ : ByteArray)⟩
theorem cwd_check : checkR 1307 12345 7 [cwdP] = 0 := by decide +kernel
theorem cwd_text : fmt34 cwdP = ⟨#[99, 119, 100, 61, 34, 47, 116, 109, 112, 34]⟩ := by
  have h : chk cwdP = 0 := by decide +kernel
  have h' : checkV cwdP.f0 cwdP.f1 cwdP.f2 cwdP.f3 = 0 := h
  unfold fmt34 fmtV
  rw [if_pos h']
  show (cwdP.f0 ++ (⟨#[61]⟩ : ByteArray)) ++ textV 2 0 cwdP.f3 = _
  unfold textV
  rw [if_neg (by decide), if_pos rfl]
  unfold quoteS
  rw [if_neg (by decide), if_pos (by decide +kernel)]
  decide +kernel
theorem cwd_head : lineHead 1307 12345 7 = ⟨#[116, 121, 112, 101, 61, 67, 87, 68, 32, 109, 115, 103, 61, 97, 117, 100, 105, 116, 40, 49, 50, 46, 51, 52, 53, 58, 55, 41, 58]⟩ := by
  have e1 : Lib.itoa (Int.tdiv 12345 1000) = [49, 50] := by
    rw [show Int.tdiv 12345 1000 = 12 from rfl, itoa_pos (by decide), show (12 : Int).toNat = 12 from rfl, Lib.decDigits_two (by omega) (by omega)]
    rfl
  have e2 : Lib.itoa (Int.tmod 12345 1000) = [51, 52, 53] := by
    rw [show Int.tmod 12345 1000 = 345 from rfl, itoa_pos (by decide), show (345 : Int).toNat = 345 from rfl, Lib.decDigits, dif_neg (by omega), Lib.decDigits_two (by omega) (by omega)]
    rfl
  have e3 : Lib.itoa 7 = [55] := by
    rw [itoa_pos (by decide), show (7 : Int).toNat = 7 from rfl, Lib.decDigits_one (by omega)]
    rfl
  have e4 : typeName 1307 = ⟨#[67, 87, 68]⟩ := by rfl
  unfold lineHead head1 head2 head3 msS
  rw [e1, e2, e3, e4]
  rfl
theorem awake_ev : Ev (fun k => kauditlaw03_awake.f k) true := by
  unfold kauditlaw03_awake.f
  refine Ev.bind (format_ev 1307 12345 7 [cwdP] (fun x hx => by rw [List.mem_singleton.1 hx]; exact ⟨by decide, by decide⟩)) ?_
  have e : formatR 1307 12345 7 [cwdP] = (⟨#[116, 121, 112, 101, 61, 67, 87, 68, 32, 109, 115, 103, 61, 97, 117, 100, 105, 116, 40, 49, 50, 46, 51, 52, 53, 58, 55, 41, 58, 32, 99, 119, 100, 61, 34, 47, 116, 109, 112, 34]⟩, 0) := by
    unfold formatR
    rw [if_pos cwd_check]
    simp only [textPairs]
    rw [cwd_text, cwd_head]
    rfl
  rw [e]
  refine Ev.congr (fun k => ?_) (Ev.now true)
  rw [if_pos rfl]
  simp [ByteArray.toList_eq]

theorem agrees_ev (t time serial : Int) (ps : List S34) (hn : Nums ps) : Ev (fun k => kauditlaw03_agrees.f k t time serial ps) true := by
  unfold kauditlaw03_agrees.f
  refine Ev.bind (format_ev t time serial ps hn) (Ev.bind (refformat_ev t time serial ps hn) (Ev.bind (check_ev t time serial ps) (Ev.bind (refcheck_ev t time serial ps) ?_)))
  exact Ev.congr (fun k => by rw [if_pos rfl, if_pos rfl]; simp) (Ev.now true)

theorem light_l0 {t time serial : Int} {ps : List S34} (hl : ps.length ≤ 40) (d : Nat) : ∀ i : Nat, i + d = ps.length → ∃ b, Ev (fun k => kauditlaw03_light.l0 k (i : Int) t time serial ps) b := by
  induction d with
  | zero =>
    intro i hi
    refine ⟨true, Ev.step (f := fun _ => some true) (fun k => ?_) (Ev.now true)⟩
    simp only [kauditlaw03_light.l0]
    rw [if_neg (by omega)]
  | succ d ih =>
    intro i hi
    by_cases h1 : ((rd_T34 ps i).f0.size : Int) > 40
    · refine ⟨false, Ev.step (f := fun _ => some false) (fun k => ?_) (Ev.now false)⟩
      simp only [kauditlaw03_light.l0]
      rw [if_pos (by omega), if_pos (by omega), if_pos h1]
    · by_cases h2 : ((rd_T34 ps i).f3.size : Int) > 700
      · refine ⟨false, Ev.step (f := fun _ => some false) (fun k => ?_) (Ev.now false)⟩
        simp only [kauditlaw03_light.l0]
        rw [if_pos (by omega), if_pos (by omega), if_neg h1, if_pos h2]
      · obtain ⟨b, hb⟩ := ih (i + 1) (by omega)
        refine ⟨b, Ev.step (f := fun k => kauditlaw03_light.l0 k ((i + 1 : Nat) : Int) t time serial ps) (fun k => ?_) hb⟩
        simp only [kauditlaw03_light.l0]
        rw [if_pos (by omega), if_pos (by omega), if_neg h1, if_neg h2, wsucc (n := ps.length) (by omega) (by omega)]
theorem light_ev (t time serial : Int) (ps : List S34) : ∃ b, Ev (fun k => kauditlaw03_light.f k t time serial ps) b := by
  unfold kauditlaw03_light.f
  by_cases h : (ps.length : Int) > 40
  · exact ⟨false, Ev.congr (fun k => if_pos h) (Ev.now false)⟩
  · obtain ⟨b, hb⟩ := light_l0 (t := t) (time := time) (serial := serial) (ps := ps) (by omega) ps.length 0 (by omega)
    exact ⟨b, Ev.congr (fun k => if_neg h) hb⟩

theorem wf64 {n : Int} (h : (Lit.int .i64 n).wf = true) : I64 n := bounds_i64 h
theorem RecordChecks (a0 : S50) (hq : Open3.QR a0) : ∃ k, kauditlaw03_RecordChecks.f k a0.f0 a0.f1 a0.f2 a0.f3 = some true := by
  have hn : Nums a0.f3 := fun x hx => wf64 (hq.2.2.2.2 x hx).2.2.1
  obtain ⟨b, hb⟩ := light_ev a0.f0 a0.f1 a0.f2 a0.f3
  refine Ev.rounds ?_
  unfold kauditlaw03_RecordChecks.f
  refine Ev.bind hb ?_
  cases b with
  | false => exact Ev.congr (fun k => if_neg Bool.false_ne_true) (Ev.bind awake_ev (Ev.now true))
  | true =>
    refine Ev.congr (fun k => if_pos rfl) (Ev.bind (agrees_ev _ _ _ _ hn) ?_)
    refine Ev.congr (fun k => if_pos rfl) (Ev.bind (agrees_ev _ _ _ _ hn) ?_)
    exact Ev.congr (fun k => if_pos rfl) (Ev.bind awake_ev (Ev.now true))
end Go.Proofs.YtjnlmmjadlidlaaDoor.Pure3
