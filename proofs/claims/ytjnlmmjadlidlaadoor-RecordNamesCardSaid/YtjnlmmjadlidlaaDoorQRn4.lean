/-
  A part of the proof of this: RecordNames holds for every input: Name, Number, Single and Types say what the table of types says (the card).
-/
import Derived.Test.YtjnlmmjadlidlaaDoorQRn3
section
namespace Go.Proofs.YtjnlmmjadlidlaaDoor.Pure3
open Go.RowKit Go.Proofs.YtjnlmmjadlidlaaDoor.PRec Go.Proofs.YtjnlmmjadlidlaaDoorW.PrintWords
def cwdP : S34 := ⟨(⟨#[99, 119, 100]⟩ : ByteArray), 2, 0, (⟨#[47, 116, 109, 112]⟩ : ByteArray)⟩
theorem cwd_check : checkR 1307 12345 7 [cwdP] = 0 := by decide +kernel
theorem cwd_text : fmt34 cwdP = ⟨#[99, 119, 100, 61, 34, 47, 116, 109, 112, 34]⟩ := by
  have h : chk cwdP = 0 := by decide +kernel
  have h' : checkV cwdP.f0 cwdP.f1 cwdP.f2 cwdP.f3 = 0 := h
  unfold fmt34 fmtV
  rw [if_pos h']
  show (cwdP.f0 ++ (⟨#[61]⟩ : ByteArray)) ++ textV 2 0 cwdP.f3 = _
  unfold textV
  rw [if_neg (by decide), if_pos rfl]
  unfold quoteS
  rw [if_neg (by decide), if_pos (by decide +kernel)]
  decide +kernel
theorem cwd_head : lineHead 1307 12345 7 = ⟨#[116, 121, 112, 101, 61, 67, 87, 68, 32, 109, 115, 103, 61, 97, 117, 100, 105, 116, 40, 49, 50, 46, 51, 52, 53, 58, 55, 41, 58]⟩ := by
  have e1 : Lib.itoa (Int.tdiv 12345 1000) = [49, 50] := by
    rw [show Int.tdiv 12345 1000 = 12 from rfl, itoa_pos (by decide), show (12 : Int).toNat = 12 from rfl, Lib.decDigits_two (by omega) (by omega)]
    rfl
  have e2 : Lib.itoa (Int.tmod 12345 1000) = [51, 52, 53] := by
    rw [show Int.tmod 12345 1000 = 345 from rfl, itoa_pos (by decide), show (345 : Int).toNat = 345 from rfl, Lib.decDigits, dif_neg (by omega), Lib.decDigits_two (by omega) (by omega)]
    rfl
  have e3 : Lib.itoa 7 = [55] := by
    rw [itoa_pos (by decide), show (7 : Int).toNat = 7 from rfl, Lib.decDigits_one (by omega)]
    rfl
  have e4 : typeName 1307 = ⟨#[67, 87, 68]⟩ := by rfl
  unfold lineHead head1 head2 head3 msS
  rw [e1, e2, e3, e4]
  rfl
theorem awake_ev : Ev (fun k => kauditlaw03_awake.f k) true := by
  unfold kauditlaw03_awake.f
  refine Ev.bind (format_ev 1307 12345 7 [cwdP] (fun x hx => by rw [List.mem_singleton.1 hx]; exact ⟨by decide, by decide⟩)) ?_
  have e : formatR 1307 12345 7 [cwdP] = (⟨#[116, 121, 112, 101, 61, 67, 87, 68, 32, 109, 115, 103, 61, 97, 117, 100, 105, 116, 40, 49, 50, 46, 51, 52, 53, 58, 55, 41, 58, 32, 99, 119, 100, 61, 34, 47, 116, 109, 112, 34]⟩, 0) := by
    unfold formatR
    rw [if_pos cwd_check]
    simp only [textPairs]
    rw [cwd_text, cwd_head]
    rfl
  rw [e]
  refine Ev.congr (fun k => ?_) (Ev.now true)
  rw [if_pos rfl]
  simp [ByteArray.toList_eq]
end Go.Proofs.YtjnlmmjadlidlaaDoor.Pure3
end
section
namespace Go.Proofs.YtjnlmmjadlidlaaDoor.PRec
open Go.RowKit Go.Proofs.YtjnlmmjadlidlaaDoorW.PrintWords Go.Proofs.YtjnlmmjadlidlaaDoorW.PrintLast Go.Proofs.YtjnlmmjadlidlaaDoorW.PrintMore
attribute [local go_sem] max2_int min2_int max_two min_two max_three min_three max_four min_four
set_option linter.unusedVariables false
set_option linter.unusedSimpArgs false
def kauditref03_Single.f (k : Nat) (a0 : Int) : Option (Bool) := (kauditref03_find.f k a0).bind fun bt160 => (some bt160.2.2.1)
theorem kauditref03_Single.mono : ∀ a0 k, LeO (kauditref03_Single.f k a0) (kauditref03_Single.f (k + 1) a0) := by
  intro a0 k
  unfold kauditref03_Single.f
  repeat' first
      | (with_reducible exact kauditref03_find.mono _ _)
      | (with_reducible exact LeO.refl _)
      | (with_reducible exact LeO.none _)
      | (with_reducible refine LeO.ite ?_ ?_)
      | (with_reducible refine LeO.bind ?_ (fun _ => ?_))
      | exact kauditref03_find.mono _ _
      | exact LeO.none _
      | refine LeO.ite ?_ ?_
      | refine LeO.bind ?_ (fun _ => ?_)
set_option maxHeartbeats 8000000 in
set_option maxRecDepth 100000 in
theorem kauditref03_Single.calls (k : Nat) (a0 : Int) (r : Bool) (w : World) (h : kauditref03_Single.f k a0 = some r) :
    Calls Tryd.prog 45 #[.int .i64 a0] w fun e w' => e = .returned (.bool r) ∧ Below w.heap.size w w' := by
  have hu126 := Tryd.underlying126
  have HB := Aside0.mk (Below.refl w.heap.size w)
  have H : ((kauditref03_find.f k a0).bind fun bt160 => (some bt160.2.2.1)) = some r := h
  clear h
  replace H := Option.bind_eq_some_iff.mp H
  obtain ⟨⟨t160, t161, t162, t163⟩, A20, H⟩ := H
  replace H : (some t162) = some r := H
  have A2 := Aside0.mk A20
  clear A20
  obtain rfl := Option.some.inj H
  go_enter Tryd.func45, Tryd.ntmps45
  go_wp2_with (first | ((with_reducible refine gate_callee (f := 84) rfl ?_); refine goesL_ (some 7) rfl rfl Tryd.func84 (by kernel_rfl) rfl #[.int .i64 a0] rfl (by (try simp only [List.map_toArray, List.map_cons, List.map_nil]); first | done | rfl | (simp only [List.length_drop, List.length_take]; rfl)) ?_; (with_reducible refine (kauditref03_find.calls k a0 t160 t161 t162 t163 _ A2.out).mono ?_); rintro e w3 ⟨rfl, hb⟩; refine ⟨_, rfl, ?_⟩; have n0_ := Aside0.mk (below_step (by repeat (first | (with_reducible first | exact HB.out | apply below_alloc | apply pw_below_drewN | apply below_drew1) | exact HB.out)) hb); clear HB; have HB := n0_; clear n0_; (try clear hb); (try clear hb2); (try clear hk); (try clear hi)) | ((with_reducible refine gate_dst (N := 3) rfl ?_); refine box_event ?hg (N := 3) ?hd (cs := #[.string (⟨#[]⟩ : ByteArray), .int .i64 0, .bool false]) (t := 126) ?hr ?_; (case hd => rfl); (case hg => rfl); (case hr => first | (go_simp; done) | (go_simp; rfl)); intro gb164 hg w4 hbox hb; have n0_ := Aside0.mk (below_step (by repeat (first | (with_reducible first | exact HB.out | apply below_alloc | apply pw_below_drewN | apply below_drew1) | exact HB.out)) hb); have n1_ := Aside0.mk (hbox); have n2_ := Aside0.mk ((by rw [hg]; exact (below_size (by repeat (first | (with_reducible first | exact HB.out | apply below_alloc | apply pw_below_drewN | apply below_drew1) | exact HB.out))) : w.heap.size ≤ gb164)); have n3_ := Aside0.mk ((by rw [hg]; exact (below_size (by repeat (first | (with_reducible first | exact HB.out | apply below_alloc | apply pw_below_drewN | apply below_drew1) | exact HB.out))) : w.heap.size ≤ gb164)); clear HB; have HB := n0_; have BK164 := n1_; have GW164 := n2_; have GE164 := n3_; clear n0_ n1_ n2_ n3_; clear hb hbox hg; have hcz5_0 : w4.cell? ⟨gb164, 0, none⟩ = some (.string (⟨#[]⟩ : ByteArray)) := (blk_cell BK164.out 0).trans rfl; have hcz5_1 : w4.cell? ⟨gb164, 1, none⟩ = some (.int .i64 0) := (blk_cell BK164.out 1).trans rfl; have hcz5_2 : w4.cell? ⟨gb164, 2, none⟩ = some (.bool false) := (blk_cell BK164.out 2).trans rfl; have hfz5_0 := blk_frozen BK164.out 0; have hfz5_1 := blk_frozen BK164.out 1; have hfz5_2 := blk_frozen BK164.out 2))
  go_ret
  exact ⟨by first | rfl | (simp [errW_none, errW_some] <;> rfl) | (simp [*, errW_none, errW_some] <;> rfl) | (simp only [isEmpty_ne_, isEmpty_eq_]; rfl) | (simp [*, isEmpty_ne_, isEmpty_eq_]; done), by repeat (first | (with_reducible first | exact HB.out | apply below_alloc | apply pw_below_drewN | apply below_drew1 | refine below_set ?_ GE164.out) | exact HB.out)⟩
end Go.Proofs.YtjnlmmjadlidlaaDoor.PRec
end
section
namespace Go.Proofs.YtjnlmmjadlidlaaDoor.PRec
open Go.RowKit Go.Proofs.YtjnlmmjadlidlaaDoorW.PrintWords
def numsTo (k : Nat) : List Int := (List.range k).map tNum
theorem numsTo_succ (k : Nat) : numsTo k ++ [tNum k] = numsTo (k + 1) := by simp [numsTo, List.range_succ]
set_option maxRecDepth 100000 in
set_option maxHeartbeats 4000000 in
theorem types_in (w : World) (hG : GL w) :
    Calls Tryd.prog 40 #[] w fun e w' => ∃ v : Value, e = .returned v ∧ Kd.R (Kd.int .i64) 3 w' w.heap.size (fun _ => True) v (numsTo 10) ∧ Below w.heap.size w w' := by
  obtain ⟨tt, fr, hg0⟩ := types_block hG
  have hu122 := Tryd.underlying122
  have hu121 := Tryd.underlying121
  have HG := Aside0.mk hg0
  clear hG hg0
  go_enter Tryd.func40, Tryd.ntmps40
  go_wp2_with (first | ((with_reducible refine gate_dst (N := 4) rfl ?_); refine Kd.R_make0 (Kd.int .i64) _ 3 rfl (N := 4) rfl 41 _ _ rfl 10 rfl rfl Tryd.underlying41 (.int .i64 0) 8 info3 rfl (by decide) (by omega) (ok := fun _ => True) trivial (by omega) (by omega) (Below.refl _ _) (Nat.le_refl _) ?_; intro v w1 ho hb hg_ hnew_; clear hg_ hnew_; have hg0 := (hb.block 0 (Array.getElem?_eq_some_iff.1 HG.out).1).trans HG.out; have HB := Aside0.mk hb; have HO := Aside0.mk ho; clear hb ho) | (refine wpList_load_row rfl 122 _ rfl 0 rfl tt typesCells fr _ hg0 Tryd.underlying122 rfl (by kernel_rfl) ?_))
  go_loopw [1, 6] (fun l i wr => ∃ k : Nat, k ≤ 10 ∧ i = .int .i64 k ∧ Aside0 (Kd.R (Kd.int .i64) 3 wr w.heap.size (fun _ => True) l (numsTo k)) ∧ Aside0 (Below w.heap.size w wr)) (fun _ i _ => (10 - (intOf i).toNat))
  case atStart => exact ⟨0, by omega, rfl, HO, HB⟩
  case round =>
    clear HO HB
    obtain ⟨k, hk, rfl, HO, HB⟩ := hrel
    by_cases hlt : k < 10
    · have hidx := index_types k hlt wr
      obtain ⟨nu, hnu⟩ : ∃ n : Int, n = tNum k := ⟨_, rfl⟩
      have HN := Aside0.mk hnu
      rw [← hnu] at hidx
      clear hnu
      generalize tName k = nm at hidx
      generalize tOne k = on at hidx
      go_wp2_with (first | ((with_reducible refine gate_builtin (b := .append) (xs := #[.tmp 9, .tmp 12]) rfl ?_); at_builtin; refine Kd.R_append (Kd.int .i64) (w0 := w) w.heap.size rfl (.tmp 9) (.tmp 12) 41 3 (.int .i64 0) 8 rfl Tryd.underlying41 info3 rfl (by decide) (by omega) u1 (numsTo k) nu [.int .i64 nu] (fun _ => True) (fun _ => False) rfl (by first | (go_simp; done) | (go_simp; rfl)) ?aP (fun _ hk => hk.elim) ?aF ?aO ?aB ?aS ?aL ?_; (case aP => exact rfl); (case aF => exact (fun _ _ => trivial)); (case aO => exact (by (with_reducible repeat (first | apply Kd.R_alloc | apply Kd.R_drewN | apply Kd.R_drew)); exact HO.out)); (case aB => exact (by repeat (first | (with_reducible first | exact HB.out | apply below_alloc) | exact HB.out))); (case aS => exact Nat.le_trans HB.out.size (by simp)); (case aL => simp [numsTo]; omega); intro v128 w20 ho hb hg hat; clear hg hat; have HO2 := Aside0.mk ho; have HB2 := Aside0.mk hb; clear ho hb))
      exact ⟨⟨k + 1, by omega, by go_num, ⟨by rw [← numsTo_succ, ← HN.out]; exact HO2.out⟩, HB2⟩, by simp [intOf]; omega⟩
    · obtain rfl : k = 10 := by omega
      go_wp2
      go_ret
      exact ⟨_, rfl, HO.out, HB.out⟩
def record_Types.f : Option (List Int) := some (numsTo 10)
theorem record_Types.calls (r : List Int) (w : World) (hG : GL w) (h : record_Types.f = some r) :
    Calls Tryd.prog 40 #[] w fun e w' => ∃ v0_ : Value, e = .returned (v0_) ∧ Kd.R (Kd.int .i64) 3 w' w.heap.size (fun _ => True) v0_ r ∧ Below w.heap.size w w' := by
  obtain rfl := Option.some.inj h
  exact types_in w hG
end Go.Proofs.YtjnlmmjadlidlaaDoor.PRec
end
