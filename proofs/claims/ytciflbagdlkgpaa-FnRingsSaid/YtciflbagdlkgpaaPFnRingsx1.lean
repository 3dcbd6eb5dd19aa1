-- Written by hv.py, a program of this session's own, over the kit's print: FnRings
import Derived.Test.YtciflbagdlkgpaaPFnRingsx0
namespace Go.Proofs.Ytciflbagdlkgpaa.PFnRings
open Go.RowKit Go.Proofs.YtciflbagdlkgpaaW.PrintWords Go.Proofs.YtciflbagdlkgpaaW.PrintLast Go.Proofs.YtciflbagdlkgpaaW.PrintMore Go.Proofs.Ytciflbagdlkgpaa.HFl Go.Proofs.Ytciflbagdlkgpaa.HMap Go.Proofs.Ytciflbagdlkgpaa.HMore
attribute [local go_sem] max2_int min2_int max_two min_two max_three min_three max_four min_four   -- for this text's walks alone
set_option linter.unusedVariables false
set_option linter.unusedSimpArgs false

/-! ### impl_Wait_32: function 32, by hand -/
-- INFO 47
theorem impl_WaitsOk_1.calls (a b : Int) (w : World) : Calls Try.prog 33 #[.agg #[.int .i64 a, .int .i64 b]] w fun e w' => e = .returned (.int .i64 a) ∧ w.alloc (.cells #[.int .i64 a, .int .i64 b] 47) = w' := by
  go_enter Try.func33, Try.ntmps33
  go_wp2
  go_ret
  exact ⟨rfl, rfl⟩
theorem zeroB (w : World) : (zeroValue 4).run Try.prog w = .ok (.bool false) w := by kernel_rfl
def allDiff (l : List Int) : Bool := decide l.Nodup
theorem allDiff_seen {l : List S47} {k : Nat} (hk : k < l.length) (h : (rd_T47 l k).f0 ∈ (l.take k).map (·.f0)) : allDiff (l.map (·.f0)) = false := by
  unfold allDiff
  rw [decide_eq_false_iff_not]
  intro hn
  have h2 : (l.map (·.f0)) = (l.take k).map (·.f0) ++ ((rd_T47 l k).f0 :: (l.drop (k + 1)).map (·.f0)) := by
    rw [← List.map_cons, ← List.map_append]
    congr 1
    rw [show rd_T47 l k = l[k] by simp [rd_T47, hk], ← List.drop_eq_getElem_cons hk, List.take_append_drop]
  rw [h2, List.nodup_append] at hn
  exact hn.2.2 _ h _ (by simp) rfl
theorem allDiff_step {l : List S47} {k : Nat} (hk : k < l.length) (h : ¬ (rd_T47 l k).f0 ∈ (l.take k).map (·.f0)) (hn : ((l.take k).map (·.f0)).Nodup) : ((l.take (k + 1)).map (·.f0)).Nodup := by
  rw [List.take_succ_eq_append_getElem hk, List.map_append, List.nodup_append]
  refine ⟨hn, by simp, ?_⟩
  intro a ha b hb
  have : (rd_T47 l k) = l[k] := by simp [rd_T47, hk]
  rw [this] at h
  simp at hb
  subst hb
  intro e
  exact h (e ▸ ha)
theorem seen_step {l : List S47} {k : Nat} (hk : k < l.length) : (fun z => if z = (rd_T47 l k).f0 then true else decide (z ∈ (l.take k).map (·.f0))) = fun z => decide (z ∈ (l.take (k + 1)).map (·.f0)) := by
  funext z
  have : (rd_T47 l k) = l[k] := by simp [rd_T47, hk]
  rw [this, List.take_succ_eq_append_getElem hk, List.map_append]
  by_cases e : z = l[k].f0 <;> simp [e]

set_option maxHeartbeats 400000 in
theorem areDiff_Wait (A : Option Addr) (c : Nat) (l : List S47) (w : World) (hr : Kd.C k47 w A l.length l) (hc : l.length ≤ c) (hw : ∀ x ∈ l, (Lit.int .i64 x.f0).wf = true) :
    Calls Try.prog 32 #[.slice A l.length c, .func (.func 33) #[] #[]] w fun e w' => e = .returned (.bool (allDiff (l.map (·.f0)))) ∧ Below w.heap.size w w' := by
  have HR := Aside0.mk hr
  have HW := Aside0.mk hw
  have hl : l.length ≤ 9223372036854775807 := hr.2.1
  clear hr hw
  have hmm := @run_makeMap Try.prog
  go_enter Try.func32, Try.ntmps32
  go_wp2
  go_loopw [11] (fun i wr => ∃ k : Nat, k ≤ l.length ∧ i = .int .i64 k ∧ Aside0 (BMap wr Try.prog 3 4 w.heap.size k (fun y => decide (y ∈ (l.take k).map (·.f0)))) ∧ Aside0 (Below w.heap.size w wr) ∧ Aside0 ((l.take k).map (·.f0)).Nodup) (fun i _ => l.length - (intOf i).toNat)
  case atStart => exact ⟨0, Nat.zero_le _, rfl, ⟨by simpa using BMap.made w⟩, ⟨below_alloc (Below.refl _ _) _⟩, ⟨by simp⟩⟩
  case round =>
    obtain ⟨k, hk, rfl, HM, HB, HN⟩ := hrel
    by_cases hlt : k < l.length
    · obtain ⟨ad, e0, hx0, hx1⟩ := at_T47 (Kd.C_below HR.out HB.out) (k : Int) (by omega) (by omega)
      cases e0
      simp only [Int.toNat_natCast] at hx0 hx1
      have hwf : (Lit.int .i64 (rd_T47 l k).f0).wf = true := HW.out _ (by simp [rd_T47, hlt])
      have hm2 := Aside0.mk hwf
      clear hwf
      go_wp2_with (first | (go_at_call 33; refine (impl_WaitsOk_1.calls _ _ _).mono ?_; rintro e w' ⟨rfl, rfl⟩) | (at_lookup; refine wp_look (b := w.heap.size) (n := k) (f := fun y => decide (y ∈ (l.take k).map (·.f0))) rfl _ _ 64 rfl (Go.Maps.int_keyed Try.underlying3) Try.underlying64 Try.underlying3 Try.underlying4 (zeroB _) rfl ?hm (rd_T47 l k).f0 rfl hm2.out ?_; (case hm => repeat (first | exact HM.out | apply BMap.alloc))) | (at_mapUpdate; refine wp_put (b := w.heap.size) (n := k) (f := fun y => decide (y ∈ (l.take k).map (·.f0))) rfl _ _ _ 64 rfl (Go.Maps.int_keyed Try.underlying3) Try.underlying64 Try.underlying3 Try.underlying4 rfl ?hm2 ?hn (rd_T47 l k).f0 rfl rfl hm2.out ?_; (case hm2 => repeat (first | exact HM.out | apply BMap.alloc)); (case hn => unfold maxLen; omega); intro w2 hw2 hg2; have HM2 := Aside0.mk hw2; have HG2 := Aside0.mk hg2; clear hw2 hg2))
      · have hin : (rd_T47 l k).f0 ∈ (l.take k).map (·.f0) := by assumption
        go_ret
        exact ⟨by rw [allDiff_seen hlt hin]; rfl, by repeat (first | exact HB.out | apply below_alloc)⟩
      · have hin : ¬ (rd_T47 l k).f0 ∈ (l.take k).map (·.f0) := by assumption
        go_roundw
        case rel => exact ⟨k + 1, by omega, by go_num, ⟨by rw [← seen_step hlt]; exact HM2.out⟩, ⟨pw_below_grown (by repeat (first | exact HB.out | apply below_alloc)) _ (by have := HB.out.size; simp; omega) HG2.out (by simp)⟩, ⟨allDiff_step hlt hin HN.out⟩⟩
        case measure => simp [intOf]; omega
    · go_wp2
      go_ret
      exact ⟨by unfold allDiff; rw [decide_eq_true (by have := HN.out; rwa [List.take_of_length_le (by omega)] at this)]; rfl, HB.out⟩

/-! ### impl_WaitsOk: function 15, by hand -/
def waitsOkB (l : List S47) : Bool := decide (l.length ≤ 64) && allDiff (l.map (·.f0))
def impl_WaitsOk.f (l0 : List S47) : Option Bool := if ∀ x ∈ l0, (Lit.int .i64 x.f0).wf = true then some (waitsOkB l0) else none
theorem impl_WaitsOk.calls (A0 : Option Addr) (c0 : Nat) (l0 : List S47) (r : Bool) (w : World) (hr0 : Kd.C k47 w A0 l0.length l0) (hc0 : l0.length ≤ c0) (h : impl_WaitsOk.f l0 = some r) :
    Calls Try.prog 15 #[.slice A0 l0.length c0] w fun e w' => e = .returned (.bool r) ∧ Below w.heap.size w w' := by
  have HR := Aside0.mk hr0
  have HC := Aside0.mk hc0
  clear hr0 hc0
  unfold impl_WaitsOk.f at h
  split at h
  case isFalse => cases h
  case isTrue hw =>
    obtain rfl := Option.some.inj h
    have HW := Aside0.mk hw
    clear h hw
    by_cases hlt : l0.length ≤ 64
    · have H1 := Aside0.mk (show waitsOkB l0 = allDiff (l0.map (·.f0)) by simp [waitsOkB, hlt])
      have h1 : decide ((l0.length : Int) ≤ 64) = true := decide_eq_true (by omega)
      go_enter Try.func15, Try.ntmps15
      go_wp2_with (go_at_call 32; refine (areDiff_Wait A0 c0 l0 _ HR.out HC.out HW.out).mono ?_; rintro e w' ⟨rfl, hb⟩)
      go_ret
      exact ⟨by rw [H1.out]; rfl, hb⟩
    · have H1 := Aside0.mk (show waitsOkB l0 = false by simp [waitsOkB, hlt])
      have h1 : decide ((l0.length : Int) ≤ 64) = false := decide_eq_false (by omega)
      go_enter Try.func15, Try.ntmps15
      go_wp2
      go_ret
      exact ⟨by rw [H1.out]; rfl, Below.refl _ _⟩

/-! ### laws_big: function 22 -/
def laws_big.f (l0 : List Int) : Option (Bool) := some (decide ((l0.length : Int) > 1048576))
set_option maxHeartbeats 8000000 in
set_option maxRecDepth 100000 in
theorem laws_big.calls (A0 : Option Addr) (c0 : Nat) (l0 : List Int) (r : Bool) (w : World) (hr0 : Kd.C (Kd.int .u8) w A0 l0.length l0) (hc0 : l0.length ≤ c0) (h : laws_big.f l0 = some r) :
    Calls Try.prog 22 #[.slice A0 l0.length c0] w fun e w' => e = .returned (.bool r) ∧ Drawn0 w w' := by
  have HR0 := Aside0.mk hr0
  have HC0 := Aside0.mk hc0
  clear hr0 hc0
  have H : (some (decide ((l0.length : Int) > 1048576))) = some r := h
  clear h
  obtain rfl := Option.some.inj H
  go_enter Try.func22, Try.ntmps22
  go_wp2
  go_ret
  exact ⟨by first | rfl | (simp; done) | (simp [*]; done), by repeat (first | exact Drawn0.refl _ | apply Drawn0.step)⟩

/-! ### laws_at: function 23 -/
def laws_at.f (l0 : List Int) (a1 : Int) : Option (Int) := if a1 < (l0.length : Int) then (if 0 ≤ a1 then (some (wrap64 (rd l0 a1))) else (none)) else (some (Int.tmod (wrap64 ((wrap64 (a1 * 7)) + (l0.length : Int))) 256))
set_option maxHeartbeats 8000000 in
set_option maxRecDepth 100000 in
theorem laws_at.calls (A0 : Option Addr) (c0 : Nat) (l0 : List Int) (a1 : Int) (r : Int) (w : World) (hr0 : Kd.C (Kd.int .u8) w A0 l0.length l0) (hc0 : l0.length ≤ c0) (h : laws_at.f l0 a1 = some r) :
    Calls Try.prog 23 #[.slice A0 l0.length c0, .int .i64 a1] w fun e w' => e = .returned (.int .i64 r) ∧ Drawn0 w w' := by
  have HR0 := Aside0.mk hr0
  have HC0 := Aside0.mk hc0
  clear hr0 hc0
  have H : (if a1 < (l0.length : Int) then (if 0 ≤ a1 then (some (wrap64 (rd l0 a1))) else (none)) else (some (Int.tmod (wrap64 ((wrap64 (a1 * 7)) + (l0.length : Int))) 256))) = some r := h
  clear h
  by_cases c3 : a1 < (l0.length : Int)
  · rw [if_pos c3] at H
    have c3b0 : decide (a1 < (l0.length : Int)) = true := decide_eq_true c3
    clear c3
    by_cases c4 : 0 ≤ a1
    · rw [if_pos c4] at H
      have c4b0 : decide (0 ≤ a1) = true := decide_eq_true c4
      clear c4
      obtain rfl := Option.some.inj H
      have p101 : 0 ≤ (a1 : Int) := of_decide_eq_true (by first | (with_reducible assumption) | assumption)
      have q101 : a1 < (l0.length : Int) := of_decide_eq_true (by first | (with_reducible assumption) | assumption)
      obtain ⟨ad101, e101, hx101_0⟩ := Kd.at_int HR0.out a1 p101 q101
      cases e101
      replace p101 := eq_true p101
      replace q101 := eq_true q101
      go_enter Try.func23, Try.ntmps23
      go_wp2
      go_ret
      exact ⟨by first | rfl | (simp; done) | (simp [*]; done), by repeat (first | exact Drawn0.refl _ | apply Drawn0.step)⟩
    · rw [if_neg c4] at H
      exact absurd H (by simp)
  · rw [if_neg c3] at H
    have c3b0 : decide (a1 < (l0.length : Int)) = false := decide_eq_false c3
    clear c3
    obtain rfl := Option.some.inj H
    go_enter Try.func23, Try.ntmps23
    go_wp2
    go_ret
    exact ⟨by first | rfl | (simp; done) | (simp [*]; done), by repeat (first | exact Drawn0.refl _ | apply Drawn0.step)⟩

/-! ### impl_Wait_39: function 39, by hand -/
set_option maxHeartbeats 1000000 in
theorem indexFunc_Wait (p : S47 → Bool) (A : Option Addr) (c : Nat) (l : List S47) (w : World) (hr : Kd.C k47 w A l.length l) (hc : l.length ≤ c) (FN : Nat) (cap : Array Value) (hF : ∀ args w, (callFunc FN args).run Try.prog w = .ok (.enter FN args) w)
    (hf : ∀ (j : Nat) (w1 : World), j < l.length → Below w.heap.size w w1 → Calls Try.prog FN (#[.agg #[.int .i64 (rd_T47 l (j : Int)).f0, .int .i64 (rd_T47 l (j : Int)).f1]] ++ cap) w1 fun e w2 => e = .returned (.bool (p (rd_T47 l (j : Int)))) ∧ Below w1.heap.size w1 w2) :
    Calls Try.prog 39 #[.slice A l.length c, .func (.func FN) #[] cap] w fun e w' => e = .returned (.int .i64 (idxOf p l)) ∧ Below w.heap.size w w' := by
  have HR := Aside0.mk hr
  have HF := Aside0.mk hf
  have hl : l.length ≤ 9223372036854775807 := hr.2.1
  clear hr hf
  go_enter Try.func39, Try.ntmps39
  go_wp2
  go_loopw [8] (fun i wr => ∃ k : Nat, k ≤ l.length ∧ i = .int .i64 k ∧ Aside0 (Below w.heap.size w wr) ∧ Aside0 (∀ j, j < k → ∀ h : j < l.length, p l[j] = false)) (fun i _ => l.length - (intOf i).toNat)
  case atStart => exact ⟨0, Nat.zero_le _, rfl, ⟨Below.refl _ _⟩, ⟨fun j hj => by omega⟩⟩
  case round =>
    obtain ⟨k, hk, rfl, HB, HN⟩ := hrel
    by_cases hlt : k < l.length
    · obtain ⟨ad, e0, hx0, hx1⟩ := at_T47 (Kd.C_below HR.out HB.out) (k : Int) (by omega) (by omega)
      cases e0
      simp only [Int.toNat_natCast] at hx0 hx1
      have HX := Aside0.mk (show (rd_T47 l (k : Int)) = l[k] by simp [rd_T47, hlt])
      cases hp : p (rd_T47 l (k : Int))
      · have HP := Aside0.mk hp
        clear hp
        go_wp2_with (refine ((HF.out k _ hlt HB.out)).mono ?_; rintro e w' ⟨rfl, hb⟩; rw [HP.out]; have HB2 := Aside0.mk (HB.out.trans (hb.mono HB.out.size)); clear hb)
        go_roundw
        case rel => exact ⟨k + 1, by omega, by go_num, HB2, ⟨fun j hj h => by
          rcases Nat.lt_succ_iff_lt_or_eq.1 hj with h1 | rfl
          · exact HN.out j h1 h
          · rw [← HX.out]; exact HP.out⟩⟩
        case measure => simp [intOf]; omega
      · have HP := Aside0.mk hp
        clear hp
        go_wp2_with (refine ((HF.out k _ hlt HB.out)).mono ?_; rintro e w' ⟨rfl, hb⟩; rw [HP.out]; have HB2 := Aside0.mk (HB.out.trans (hb.mono HB.out.size)); clear hb)
        go_ret
        exact ⟨by rw [idxOf_hit hlt (by rw [← HX.out]; exact HP.out) HN.out]; rfl, HB2.out⟩
    · go_wp2
      go_ret
      exact ⟨by rw [idxOf_miss (fun j h => HN.out j (by omega) h)]; rfl, HB.out⟩

/-! ### impl_WaitNext: function 24, by hand -/
def waitNextB (l : List S47) (who : Int) : Int × Bool := if waitsOkB l = true ∧ 0 ≤ idxOf (fun x => x.f0 == who) l then ((rd_T47 l (idxOf (fun x => x.f0 == who) l)).f1, true) else (0, false)
def impl_WaitNext.f (l0 : List S47) (a1 : Int) : Option (Int × Bool) := if ∀ x ∈ l0, (Lit.int .i64 x.f0).wf = true then some (waitNextB l0 a1) else none
theorem goes_WaitNext_1 : ∀ args w, (callFunc 40 args).run Try.prog w = .ok (.enter 40 args) w := fun args w => by kernel_rfl
theorem impl_WaitNext_1.calls (a b : Int) (p : Addr) (who : Int) (w : World) (hp : w.cell? p = some (.int .i64 who)) : Calls Try.prog 40 (#[.agg #[.int .i64 a, .int .i64 b]] ++ #[.pointer (some p)]) w fun e w' => e = .returned (.bool (a == who)) ∧ Below w.heap.size w w' := by
  have hlt := World.block_lt_of_cell? w p hp
  have hc1 : (w.alloc (.cells #[.int .i64 a, .int .i64 b] 47)).cell? p = some (.int .i64 who) := pw_cell_below (below_alloc (Below.refl _ _) _) hp
  go_enter Try.func40, Try.ntmps40
  go_wp2
  repeat (go_quiet (fail); try go_wp2)
  go_ret
  exact ⟨rfl, by repeat (first | exact below_alloc (Below.refl _ _) _ | apply pw_below_drewN)⟩
theorem impl_WaitNext.calls (A0 : Option Addr) (c0 : Nat) (l0 : List S47) (a1 : Int) (r1 : Int) (r2 : Bool) (w : World) (hr0 : Kd.C k47 w A0 l0.length l0) (hc0 : l0.length ≤ c0) (h : impl_WaitNext.f l0 a1 = some (r1, r2)) :
    Calls Try.prog 24 #[.slice A0 l0.length c0, .int .i64 a1] w fun e w' => e = .returned (.tuple #[.int .i64 r1, .bool r2]) ∧ Below w.heap.size w w' := by
  have HR := Aside0.mk hr0
  have HC := Aside0.mk hc0
  clear hr0 hc0
  unfold impl_WaitNext.f at h
  split at h
  case isFalse => cases h
  case isTrue hw =>
    have H := Aside0.mk (Option.some.inj h)
    have HW := Aside0.mk hw
    have HX : Aside0 (∀ (j : Nat) (w1 : World), j < l0.length → Below (w.alloc (.cells #[.int .i64 a1] 3)).heap.size (w.alloc (.cells #[.int .i64 a1] 3)) w1 → Calls Try.prog 40 (#[.agg #[.int .i64 (rd_T47 l0 (j : Int)).f0, .int .i64 (rd_T47 l0 (j : Int)).f1]] ++ #[.pointer (some ⟨w.heap.size, 0, none⟩)]) w1 fun e w2 => e = .returned (.bool ((fun x : S47 => x.f0 == a1) (rd_T47 l0 (j : Int)))) ∧ Below w1.heap.size w1 w2) := ⟨fun j w1 hj hb => impl_WaitNext_1.calls _ _ _ _ _ (by rw [hb.cell (p := ⟨w.heap.size, 0, none⟩) (by simp)]; exact World.cell?_alloc_new0 _ _ _ _ rfl)⟩
    clear h hw
    have hi := idxOf_range (fun x : S47 => x.f0 == a1) l0
    cases hok : waitsOkB l0
    · have HO := Aside0.mk hok
      have HE := Aside0.mk (show waitNextB l0 a1 = (0, false) by simp [waitNextB, hok])
      have HF := Aside0.mk (show impl_WaitsOk.f l0 = some false by rw [impl_WaitsOk.f, if_pos HW.out, hok])
      clear hok hi
      go_enter Try.func24, Try.ntmps24
      go_wp2_with (first | (go_at_call 39; refine (indexFunc_Wait (fun x : S47 => x.f0 == a1) A0 c0 l0 _ (Kd.C_alloc HR.out _) HC.out _ _ goes_WaitNext_1 HX.out).mono ?_; rintro e w' ⟨rfl, hb⟩; have HB := Aside0.mk ((below_alloc (Below.refl _ _) _).trans (hb.mono (by simp))); clear hb) | (go_at_call 15; refine (impl_WaitsOk.calls A0 c0 l0 false _ (Kd.C_below HR.out HB.out) HC.out HF.out).mono ?_; rintro e w' ⟨rfl, hb⟩; have HB2 := Aside0.mk (HB.out.trans (hb.mono HB.out.size)); clear hb))
      go_ret2
      exact ⟨by rw [← (Prod.mk.inj (HE.out.symm.trans H.out)).1, ← (Prod.mk.inj (HE.out.symm.trans H.out)).2]; rfl, HB2.out⟩
    · have HF := Aside0.mk (show impl_WaitsOk.f l0 = some true by rw [impl_WaitsOk.f, if_pos HW.out, hok])
      by_cases hneg : idxOf (fun x : S47 => x.f0 == a1) l0 < 0
      · have HE := Aside0.mk (show waitNextB l0 a1 = (0, false) by rw [waitNextB, if_neg (by omega)])
        have h1 : decide (idxOf (fun x : S47 => x.f0 == a1) l0 < 0) = true := decide_eq_true hneg
        clear hok hi hneg
        go_enter Try.func24, Try.ntmps24
        go_wp2_with (first | (go_at_call 39; refine (indexFunc_Wait (fun x : S47 => x.f0 == a1) A0 c0 l0 _ (Kd.C_alloc HR.out _) HC.out _ _ goes_WaitNext_1 HX.out).mono ?_; rintro e w' ⟨rfl, hb⟩; have HB := Aside0.mk ((below_alloc (Below.refl _ _) _).trans (hb.mono (by simp))); clear hb) | (go_at_call 15; refine (impl_WaitsOk.calls A0 c0 l0 true _ (Kd.C_below HR.out HB.out) HC.out HF.out).mono ?_; rintro e w' ⟨rfl, hb⟩; have HB2 := Aside0.mk (HB.out.trans (hb.mono HB.out.size)); clear hb))
        go_ret2
        exact ⟨by rw [← (Prod.mk.inj (HE.out.symm.trans H.out)).1, ← (Prod.mk.inj (HE.out.symm.trans H.out)).2]; rfl, HB2.out⟩
      · have HE := Aside0.mk (show waitNextB l0 a1 = ((rd_T47 l0 (idxOf (fun x : S47 => x.f0 == a1) l0)).f1, true) by rw [waitNextB, if_pos ⟨hok, by omega⟩])
        obtain ⟨i, hI⟩ : ∃ i : Nat, idxOf (fun x : S47 => x.f0 == a1) l0 = (i : Int) := ⟨_, (Int.toNat_of_nonneg (by omega)).symm⟩
        rw [hI] at HE hi hneg
        have HI := Aside0.mk hI
        have h1 : decide ((i : Int) < 0) = false := decide_eq_false hneg
        have hil : i < l0.length := by omega
        clear hok hi hneg hI
        go_enter Try.func24, Try.ntmps24
        go_wp2_with (first | (go_at_call 39; refine (indexFunc_Wait (fun x : S47 => x.f0 == a1) A0 c0 l0 _ (Kd.C_alloc HR.out _) HC.out _ _ goes_WaitNext_1 HX.out).mono ?_; rintro e w' ⟨rfl, hb⟩; rw [HI.out]; have HB := Aside0.mk ((below_alloc (Below.refl _ _) _).trans (hb.mono (by simp))); clear hb) | (go_at_call 15; refine (impl_WaitsOk.calls A0 c0 l0 true _ (Kd.C_below HR.out HB.out) HC.out HF.out).mono ?_; rintro e w' ⟨rfl, hb⟩; have HB2 := Aside0.mk (HB.out.trans (hb.mono HB.out.size)); clear hb; obtain ⟨ad, e0, hx0, hx1⟩ := at_T47 (Kd.C_below HR.out HB2.out) (i : Int) (by omega) (by omega); cases e0; simp only [Int.toNat_natCast] at hx0 hx1))
        go_ret2
        exact ⟨by rw [← (Prod.mk.inj (HE.out.symm.trans H.out)).1, ← (Prod.mk.inj (HE.out.symm.trans H.out)).2]; rfl, HB2.out⟩

/-! ### impl_WaitCloses: function 25 -/
mutual
def impl_WaitCloses.j0 : Nat → List (S47) → Int → Int → Bool → Option (Bool)
  | 0, _, _, _, _ => none
  | k + 1, x0, x1, x2, x23 => if x23 = true then (some false) else (impl_WaitCloses.l0 k x0 x1 x2 (wrap64 ((x0.length : Int) + 1)) 0)
def impl_WaitCloses.l0 : Nat → List (S47) → Int → Int → Int → Int → Option (Bool)
  | 0, _, _, _, _, _ => none
  | k + 1, x0, x1, x9, x27, x28 => if x28 < x27 then (if x9 = x1 then (some true) else ((impl_WaitNext.f x0 x9).bind fun bt105 => (if bt105.2 = true then (impl_WaitCloses.l0 k x0 x1 bt105.1 x27 (wrap64 (x28 + 1))) else (some false)))) else (some false)
end
def impl_WaitCloses.f (k : Nat) (l0 : List (S47)) (a1 : Int) (a2 : Int) : Option (Bool) := (impl_WaitNext.f l0 a1).bind fun bt102 => (if bt102.2 = true then (impl_WaitCloses.j0 k l0 a1 a2 true) else ((impl_WaitsOk.f l0).bind fun t104 => (impl_WaitCloses.j0 k l0 a1 a2 (!t104))))
theorem impl_WaitCloses.mono_l : ∀ k, (∀ y0 y1 y2 y3, LeO (impl_WaitCloses.j0 k y0 y1 y2 y3) (impl_WaitCloses.j0 (k + 1) y0 y1 y2 y3)) ∧ (∀ y0 y1 y2 y3 y4, LeO (impl_WaitCloses.l0 k y0 y1 y2 y3 y4) (impl_WaitCloses.l0 (k + 1) y0 y1 y2 y3 y4))
  | 0 => ⟨fun _ _ _ _ r h => by simp [impl_WaitCloses.j0] at h, fun _ _ _ _ _ r h => by simp [impl_WaitCloses.l0] at h⟩
  | k + 1 => by
    obtain ⟨ih0, ih1⟩ := impl_WaitCloses.mono_l k
    refine ⟨?_, ?_⟩
    · intro y0 y1 y2 y3
      unfold impl_WaitCloses.j0
      repeat' first
      | (with_reducible exact ih0 _ _ _ _)
      | (with_reducible exact ih1 _ _ _ _ _)
      | (with_reducible exact LeO.refl _)
      | (with_reducible exact LeO.none _)
      | (with_reducible refine LeO.ite ?_ ?_)
      | (with_reducible refine LeO.bind ?_ (fun _ => ?_))
      | exact ih0 _ _ _ _
      | exact ih1 _ _ _ _ _
      | exact LeO.none _
      | refine LeO.ite ?_ ?_
      | refine LeO.bind ?_ (fun _ => ?_)
    · intro y0 y1 y2 y3 y4
      unfold impl_WaitCloses.l0
      repeat' first
      | (with_reducible exact ih0 _ _ _ _)
      | (with_reducible exact ih1 _ _ _ _ _)
      | (with_reducible exact LeO.refl _)
      | (with_reducible exact LeO.none _)
      | (with_reducible refine LeO.ite ?_ ?_)
      | (with_reducible refine LeO.bind ?_ (fun _ => ?_))
      | exact ih0 _ _ _ _
      | exact ih1 _ _ _ _ _
      | exact LeO.none _
      | refine LeO.ite ?_ ?_
      | refine LeO.bind ?_ (fun _ => ?_)
theorem impl_WaitCloses.mono : ∀ a0 a1 a2 k, LeO (impl_WaitCloses.f k a0 a1 a2) (impl_WaitCloses.f (k + 1) a0 a1 a2) := by
  intro a0 a1 a2 k
  obtain ⟨ih0, ih1⟩ := impl_WaitCloses.mono_l k
  unfold impl_WaitCloses.f
  repeat' first
      | (with_reducible exact ih0 _ _ _ _)
      | (with_reducible exact ih1 _ _ _ _ _)
      | (with_reducible exact LeO.refl _)
      | (with_reducible exact LeO.none _)
      | (with_reducible refine LeO.ite ?_ ?_)
      | (with_reducible refine LeO.bind ?_ (fun _ => ?_))
      | exact ih0 _ _ _ _
      | exact ih1 _ _ _ _ _
      | exact LeO.none _
      | refine LeO.ite ?_ ?_
      | refine LeO.bind ?_ (fun _ => ?_)
set_option maxHeartbeats 8000000 in
set_option maxRecDepth 100000 in
theorem impl_WaitCloses.calls (k : Nat) (A0 : Option Addr) (c0 : Nat) (l0 : List (S47)) (a1 : Int) (a2 : Int) (r : Bool) (w : World) (hr0 : Kd.C k47 w A0 l0.length l0) (hc0 : l0.length ≤ c0) (h : impl_WaitCloses.f k l0 a1 a2 = some r) :
    Calls Try.prog 25 #[.slice A0 l0.length c0, .int .i64 a1, .int .i64 a2] w fun e w' => e = .returned (.bool r) ∧ Below w.heap.size w w' := by
  have HR0 := Aside0.mk hr0
  have HC0 := Aside0.mk hc0
  clear hr0 hc0
  have HB := Aside0.mk (Below.refl w.heap.size w)
  have H : ((impl_WaitNext.f l0 a1).bind fun bt102 => (if bt102.2 = true then (impl_WaitCloses.j0 k l0 a1 a2 true) else ((impl_WaitsOk.f l0).bind fun t104 => (impl_WaitCloses.j0 k l0 a1 a2 (!t104))))) = some r := h
  clear h
  replace H := Option.bind_eq_some_iff.mp H
  obtain ⟨⟨t102, t103⟩, A40, H⟩ := H
  replace H : (if t103 = true then (impl_WaitCloses.j0 k l0 a1 a2 true) else ((impl_WaitsOk.f l0).bind fun t104 => (impl_WaitCloses.j0 k l0 a1 a2 (!t104)))) = some r := H
  have A4 := Aside0.mk A40
  clear A40
  have HC5 := Aside0.mk H
  clear H
  go_enter Try.func25, Try.ntmps25
  go_upto_region 2 with (first | ((with_reducible refine gate_callee (f := 24) rfl ?_); refine goesL_ (some 15) rfl rfl Try.func24 (by kernel_rfl) rfl #[.slice A0 l0.length c0, .int .i64 a1] rfl (by (try simp only [List.map_toArray, List.map_cons, List.map_nil]); first | done | rfl | (simp only [List.length_drop, List.length_take]; rfl)) ?_; (with_reducible refine (impl_WaitNext.calls _ _ l0 a1 t102 t103 _ ?side1 ?side2 A4.out).mono ?_); (case side1 => repeat (first | exact HR0.out | (with_reducible refine Kd.C_alloc ?_ _) | (with_reducible refine Kd.C_drewN ?_ _) | (with_reducible refine Kd.C_drew ?_))); (case side2 => exact HC0.out); rintro e w6 ⟨rfl, hb⟩; refine ⟨_, rfl, ?_⟩; have n0_ := Aside0.mk (below_step (by repeat (first | (with_reducible first | exact HB.out | apply below_alloc | apply pw_below_drewN | apply below_drew1) | exact HB.out)) hb); clear HB; have HB := n0_; clear n0_; (try clear hb); (try clear hb2); (try clear hk); (try clear hi)))
  (try simp only [Act.put, List.setIfInBounds_toArray, List.set_cons_zero, List.set_cons_succ])
  go_cut [23] (fun v23 wc => ∃ (kq : Nat) (x23_4 : Bool), v23 = .bool x23_4 ∧ Aside0 (impl_WaitCloses.j0 kq l0 a1 a2 x23_4 = some r) ∧ Aside0 (kq ≤ k) ∧ Aside0 (Below w.heap.size w wc))
  case first =>
    have H := HC5.out
    clear HC5
    by_cases c7 : t103 = true
    · subst c7
      have H1 : (impl_WaitCloses.j0 k l0 a1 a2 true) = some r := by rw [if_pos rfl] at H; exact H
      clear H
      have H := H1
      clear H1
      have H' := Aside0.mk H
      clear H
      go_wp2
      go_meet
      case rel => exact ⟨_, (true), (by first | rfl | (simp; done) | (simp [*]; done)), H', ⟨by first | omega | exact Nat.le_refl _⟩, ⟨by repeat (first | (with_reducible first | exact HB.out | apply below_alloc | apply pw_below_drewN | apply below_drew1) | exact HB.out)⟩⟩
    · replace c7 := Bool.eq_false_iff.mpr c7
      subst c7
      have H1 : ((impl_WaitsOk.f l0).bind fun t104 => (impl_WaitCloses.j0 k l0 a1 a2 (!t104))) = some r := by rw [if_neg (show ¬ (false = true) by decide)] at H; exact H
      clear H
      have H := H1
      clear H1
      replace H := Option.bind_eq_some_iff.mp H
      obtain ⟨t104, A80, H⟩ := H
      replace H : (impl_WaitCloses.j0 k l0 a1 a2 (!t104)) = some r := H
      have A8 := Aside0.mk A80
      clear A80
      have H' := Aside0.mk H
      clear H
      go_wp2_with (first | (go_at_call 15; (with_reducible refine (impl_WaitsOk.calls _ _ l0 t104 _ ?side1 ?side2 A8.out).mono ?_); (case side1 => repeat (first | exact (Kd.C_below HR0.out HB.out) | (with_reducible refine Kd.C_alloc ?_ _) | (with_reducible refine Kd.C_drewN ?_ _) | (with_reducible refine Kd.C_drew ?_))); (case side2 => exact HC0.out); rintro e w9 ⟨rfl, hb⟩; have n0_ := Aside0.mk (below_step (by repeat (first | (with_reducible first | exact HB.out | apply below_alloc | apply pw_below_drewN | apply below_drew1) | exact HB.out)) hb); clear HB; have HB := n0_; clear n0_; (try clear hb); (try clear hb2); (try clear hk); (try clear hi)))
      go_meet
      case rel => exact ⟨_, (!t104), (by first | rfl | (simp; done) | (simp [*]; done)), H', ⟨by first | omega | exact Nat.le_refl _⟩, ⟨by repeat (first | (with_reducible first | exact HB.out | apply below_alloc | apply pw_below_drewN | apply below_drew1) | exact HB.out)⟩⟩
  case rest =>
    clear HC5
    try clear c2
    try clear p2
    try clear c7
    obtain ⟨kq, x23_4, rfl, HA, HJ4, HB⟩ := hcut
    cases kq with
    | zero => exact absurd HA.out (by simp [impl_WaitCloses.j0])
    | succ kj4 =>
      have H := HA.out
      clear HA
      simp only [impl_WaitCloses.j0] at H
      by_cases c10 : x23_4 = true
      · subst c10
        have H1 : (some false) = some r := by rw [if_pos rfl] at H; exact H
        clear H
        have H := H1
        clear H1
        obtain rfl := Option.some.inj H
        go_wp2
        go_ret
        exact ⟨by first | rfl | (simp [errW_none, errW_some] <;> rfl) | (simp [*, errW_none, errW_some] <;> rfl), by repeat (first | (with_reducible first | exact HB.out | apply below_alloc | apply pw_below_drewN | apply below_drew1) | exact HB.out)⟩
      · replace c10 := Bool.eq_false_iff.mpr c10
        subst c10
        have H1 : (impl_WaitCloses.l0 kj4 l0 a1 a2 (wrap64 ((l0.length : Int) + 1)) 0) = some r := by rw [if_neg (show ¬ (false = true) by decide)] at H; exact H
        clear H
        have H := H1
        clear H1
        have H' := Aside0.mk H
        clear H
        go_wp2
        go_loopg [9, 28] kj4 (fun kq v9 v28 w' => ∃ (x9_2 : Int) (x28_2 : Int), v9 = .int .i64 x9_2 ∧ v28 = .int .i64 x28_2 ∧ Aside0 (impl_WaitCloses.l0 kq l0 a1 x9_2 (wrap64 ((l0.length : Int) + 1)) x28_2 = some r) ∧ Aside0 (kq ≤ kj4) ∧ Aside0 (Below w.heap.size w w'))
        case atStart => exact ⟨(a2), (0), (by first | rfl | (simp; done) | (simp [*]; done)), (by first | rfl | (simp; done) | (simp [*]; done)), H', ⟨Nat.le_refl _⟩, ⟨by repeat (first | (with_reducible first | exact HB.out | apply below_alloc | apply pw_below_drewN | apply below_drew1) | exact HB.out)⟩⟩
        case round =>
          clear H'
          try clear c1
          try clear c2
          try clear p2
          try clear p6
          try clear c7
          try clear c10
          try clear p2
          obtain ⟨x9_2, x28_2, rfl, rfl, HA, HK2, HB⟩ := hrel
          cases gk with
          | zero => exact absurd HA.out (by simp [impl_WaitCloses.l0])
          | succ k2 =>
            have H := HA.out
            clear HA
            simp only [impl_WaitCloses.l0] at H
            by_cases c11 : x28_2 < (wrap64 ((l0.length : Int) + 1))
            · rw [if_pos c11] at H
              have c11b0 : decide (x28_2 < (wrap64 ((l0.length : Int) + 1))) = true := decide_eq_true c11
              clear c11
              by_cases c12 : x9_2 = a1
              · rw [if_pos c12] at H
                have c12b0 : (x9_2 == a1) = true := beq_iff_eq.mpr c12
                have c12b1 : (x9_2 != a1) = false := bne_eq_false_iff_eq.mpr c12
                clear c12
                obtain rfl := Option.some.inj H
                go_wp2
                go_ret
                exact ⟨by first | rfl | (simp [errW_none, errW_some] <;> rfl) | (simp [*, errW_none, errW_some] <;> rfl), by repeat (first | (with_reducible first | exact HB.out | apply below_alloc | apply pw_below_drewN | apply below_drew1) | exact HB.out)⟩
              · rw [if_neg c12] at H
                have c12b0 : (x9_2 == a1) = false := beq_eq_false_iff_ne.mpr c12
                have c12b1 : (x9_2 != a1) = true := bne_iff_ne.mpr c12
                replace H := Option.bind_eq_some_iff.mp H
                obtain ⟨⟨t105, t106⟩, A130, H⟩ := H
                replace H : (if t106 = true then (impl_WaitCloses.l0 k2 l0 a1 t105 (wrap64 ((l0.length : Int) + 1)) (wrap64 (x28_2 + 1))) else (some false)) = some r := H
                have A13 := Aside0.mk A130
                clear A130
                by_cases c14 : t106 = true
                · subst c14
                  have H1 : (impl_WaitCloses.l0 k2 l0 a1 t105 (wrap64 ((l0.length : Int) + 1)) (wrap64 (x28_2 + 1))) = some r := by rw [if_pos rfl] at H; exact H
                  clear H
                  have H := H1
                  clear H1
                  have H' := Aside0.mk H
                  clear H
                  go_wp2_with (first | ((with_reducible refine gate_callee (f := 24) rfl ?_); refine goesL_ (some 36) rfl rfl Try.func24 (by kernel_rfl) rfl #[.slice A0 l0.length c0, .int .i64 x9_2] rfl (by (try simp only [List.map_toArray, List.map_cons, List.map_nil]); first | done | rfl | (simp only [List.length_drop, List.length_take]; rfl)) ?_; (with_reducible refine (impl_WaitNext.calls _ _ l0 x9_2 t105 true _ ?side1 ?side2 A13.out).mono ?_); (case side1 => repeat (first | exact (Kd.C_below HR0.out HB.out) | (with_reducible refine Kd.C_alloc ?_ _) | (with_reducible refine Kd.C_drewN ?_ _) | (with_reducible refine Kd.C_drew ?_))); (case side2 => exact HC0.out); rintro e w15 ⟨rfl, hb⟩; refine ⟨_, rfl, ?_⟩; have n0_ := Aside0.mk (below_step (by repeat (first | (with_reducible first | exact HB.out | apply below_alloc | apply pw_below_drewN | apply below_drew1) | exact HB.out)) hb); clear HB; have HB := n0_; clear n0_; (try clear hb); (try clear hb2); (try clear hk); (try clear hi)))
                  go_roundg k2
                  case measure => have := HJ4.out; have := HK2.out; omega
                  case rel => exact ⟨(t105), (wrap64 (x28_2 + 1)), (by first | rfl | (simp; done) | (simp [*]; done)), (by first | rfl | (simp; done) | (simp [*]; done)), H', ⟨by have := HJ4.out; have := HK2.out; omega⟩, ⟨by repeat (first | (with_reducible first | exact HB.out | apply below_alloc | apply pw_below_drewN | apply below_drew1) | exact HB.out)⟩⟩
                · replace c14 := Bool.eq_false_iff.mpr c14
                  subst c14
                  have H1 : (some false) = some r := by rw [if_neg (show ¬ (false = true) by decide)] at H; exact H
                  clear H
                  have H := H1
                  clear H1
                  obtain rfl := Option.some.inj H
                  go_wp2_with (first | ((with_reducible refine gate_callee (f := 24) rfl ?_); refine goesL_ (some 36) rfl rfl Try.func24 (by kernel_rfl) rfl #[.slice A0 l0.length c0, .int .i64 x9_2] rfl (by (try simp only [List.map_toArray, List.map_cons, List.map_nil]); first | done | rfl | (simp only [List.length_drop, List.length_take]; rfl)) ?_; (with_reducible refine (impl_WaitNext.calls _ _ l0 x9_2 t105 false _ ?side1 ?side2 A13.out).mono ?_); (case side1 => repeat (first | exact (Kd.C_below HR0.out HB.out) | (with_reducible refine Kd.C_alloc ?_ _) | (with_reducible refine Kd.C_drewN ?_ _) | (with_reducible refine Kd.C_drew ?_))); (case side2 => exact HC0.out); rintro e w16 ⟨rfl, hb⟩; refine ⟨_, rfl, ?_⟩; have n0_ := Aside0.mk (below_step (by repeat (first | (with_reducible first | exact HB.out | apply below_alloc | apply pw_below_drewN | apply below_drew1) | exact HB.out)) hb); clear HB; have HB := n0_; clear n0_; (try clear hb); (try clear hb2); (try clear hk); (try clear hi)))
                  go_ret
                  exact ⟨by first | rfl | (simp [errW_none, errW_some] <;> rfl) | (simp [*, errW_none, errW_some] <;> rfl), by repeat (first | (with_reducible first | exact HB.out | apply below_alloc | apply pw_below_drewN | apply below_drew1) | exact HB.out)⟩
            · rw [if_neg c11] at H
              have c11b0 : decide (x28_2 < (wrap64 ((l0.length : Int) + 1))) = false := decide_eq_false c11
              clear c11
              obtain rfl := Option.some.inj H
              go_wp2
              go_ret
              exact ⟨by first | rfl | (simp [errW_none, errW_some] <;> rfl) | (simp [*, errW_none, errW_some] <;> rfl), by repeat (first | (with_reducible first | exact HB.out | apply below_alloc | apply pw_below_drewN | apply below_drew1) | exact HB.out)⟩

/-! ### impl_WaitRing: function 26 -/
def impl_WaitRing.l0 : Nat → List (S47) → Int → List Int → Int → Option (List Int)
  | 0, _, _, _, _ => none
  | k + 1, x0, x1, x5, x6 => if (x5.length : Int) ≤ (wrap64 ((x0.length : Int) + 1)) then ((impl_WaitNext.f x0 x6).bind fun bt110 => (if bt110.2 = true then (if bt110.1 = x1 then (some x5) else (if x5.length < 17592186044416 then (impl_WaitRing.l0 k x0 x1 (x5 ++ [bt110.1]) bt110.1) else (none))) else (some ([] : List Int)))) else (some ([] : List Int))
def impl_WaitRing.f (k : Nat) (l0 : List (S47)) (a1 : Int) : Option (List Int) := impl_WaitRing.l0 k l0 a1 (([a1] : List Int)) a1
theorem impl_WaitRing.mono_l : ∀ k, (∀ y0 y1 y2 y3, LeO (impl_WaitRing.l0 k y0 y1 y2 y3) (impl_WaitRing.l0 (k + 1) y0 y1 y2 y3))
  | 0 => fun _ _ _ _ r h => by simp [impl_WaitRing.l0] at h
  | k + 1 => by
    have ih0 := impl_WaitRing.mono_l k
    · intro y0 y1 y2 y3
      unfold impl_WaitRing.l0
      repeat' first
      | (with_reducible exact ih0 _ _ _ _)
      | (with_reducible exact LeO.refl _)
      | (with_reducible exact LeO.none _)
      | (with_reducible refine LeO.ite ?_ ?_)
      | (with_reducible refine LeO.bind ?_ (fun _ => ?_))
      | exact ih0 _ _ _ _
      | exact LeO.none _
      | refine LeO.ite ?_ ?_
      | refine LeO.bind ?_ (fun _ => ?_)
theorem impl_WaitRing.mono : ∀ a0 a1 k, LeO (impl_WaitRing.f k a0 a1) (impl_WaitRing.f (k + 1) a0 a1) := by
  intro a0 a1 k
  have ih0 := impl_WaitRing.mono_l k
  unfold impl_WaitRing.f
  repeat' first
      | (with_reducible exact ih0 _ _ _ _)
      | (with_reducible exact LeO.refl _)
      | (with_reducible exact LeO.none _)
      | (with_reducible refine LeO.ite ?_ ?_)
      | (with_reducible refine LeO.bind ?_ (fun _ => ?_))
      | exact ih0 _ _ _ _
      | exact LeO.none _
      | refine LeO.ite ?_ ?_
      | refine LeO.bind ?_ (fun _ => ?_)
set_option maxHeartbeats 8000000 in
set_option maxRecDepth 100000 in
theorem impl_WaitRing.calls (k : Nat) (A0 : Option Addr) (c0 : Nat) (l0 : List (S47)) (a1 : Int) (r : List Int) (w : World) (hr0 : Kd.C k47 w A0 l0.length l0) (hc0 : l0.length ≤ c0) (h : impl_WaitRing.f k l0 a1 = some r) :
    Calls Try.prog 26 #[.slice A0 l0.length c0, .int .i64 a1] w fun e w' => ∃ v0_ : Value, e = .returned (v0_) ∧ Kd.R (Kd.int .i64) 3 w' w.heap.size (fun _ => True) v0_ r ∧ Below w.heap.size w w' := by
  have HR0 := Aside0.mk hr0
  have HC0 := Aside0.mk hc0
  clear hr0 hc0
  have HB := Aside0.mk (Below.refl w.heap.size w)
  have H : (impl_WaitRing.l0 k l0 a1 (([a1] : List Int)) a1) = some r := h
  clear h
  obtain ⟨y107, hy107⟩ : ∃ y_ : List Int, y_ = (([a1] : List Int)) := ⟨_, rfl⟩
  replace H : (impl_WaitRing.l0 k l0 a1 y107 a1) = some r := by first | (rw [hy107]; with_reducible exact H) | (have H2_ := (Option.bind_some _ _).symm.trans H; rw [hy107]; with_reducible exact H2_) | (have H2_ := (Option.bind_some _ _).symm.trans H; with_reducible exact H2_) | with_reducible exact H | (rw [hy107]; exact H) | exact H
  have Ny107 := Aside0.mk hy107
  clear hy107
  have H' := Aside0.mk H
  clear H
  go_enter Try.func26, Try.ntmps26
  go_wp2_with (first | ((with_reducible refine gate_dst (N := 10) rfl ?_); refine Kd.R_lit (Kd.int .i64) _ 3 ?hg (N := 10) ?hd (xs := ([a1] : List Int)) (inner := [.int .i64 a1]) (ok := fun _ => True) (okp := fun _ => True) ?hr ?hp (fun _ hk => hk) trivial (Below.refl _ _) (Nat.le_refl _) (by simp) ?_; (case hd => rfl); (case hg => rfl); (case hr => first | (go_simp; done) | (go_simp; rfl)); (case hp => exact (Reps.one (show Kd.M (Kd.int .i64) _ _ _ a1 [.int .i64 a1] from rfl) (Reps.none _ _))); intro v108 w3 ho4 hb hg_ hnew_; clear hg_ hnew_; (first | rw [← Ny107.out] at ho4 | (simp only [Int.reduceToNat] at ho4; rw [← Ny107.out] at ho4)); have n0_ := Aside0.mk (Kd.R_lower ho4 (below_size (by repeat (first | (with_reducible first | exact HB.out | apply below_alloc | apply pw_below_drewN | apply below_drew1) | exact HB.out)))); have n1_ := Aside0.mk (below_step (by repeat (first | (with_reducible first | exact HB.out | apply below_alloc | apply pw_below_drewN | apply below_drew1) | exact HB.out)) hb); clear HB; have HO109 := n0_; have HB := n1_; clear n0_ n1_; clear hb ho4))
  go_loopg [5, 6] k (fun kq v5 v6 w' => ∃ (x5_1 : List Int) (x6_1 : Int), v6 = .int .i64 x6_1 ∧ Aside0 (impl_WaitRing.l0 kq l0 a1 x5_1 x6_1 = some r) ∧ Aside0 (kq ≤ k) ∧ Aside0 (Kd.R (Kd.int .i64) 3 w' w.heap.size (fun _ => True) v5 x5_1) ∧ Aside0 (Below w.heap.size w w'))
  case atStart => exact ⟨(y107), (a1), (by first | rfl | (simp; done) | (simp [*]; done)), H', ⟨Nat.le_refl _⟩, ⟨by (with_reducible repeat (first | apply Kd.R_alloc | apply Kd.R_drewN | apply Kd.R_drew)); exact HO109.out⟩, ⟨by repeat (first | (with_reducible first | exact HB.out | apply below_alloc | apply pw_below_drewN | apply below_drew1) | exact HB.out)⟩⟩
  case round =>
    clear H'
    try clear c2
    try clear p2
    obtain ⟨x5_1, x6_1, rfl, HA, HK1, HO_5, HB⟩ := hrel
    cases gk with
    | zero => exact absurd HA.out (by simp [impl_WaitRing.l0])
    | succ k1 =>
      have H := HA.out
      clear HA
      simp only [impl_WaitRing.l0] at H
      by_cases c5 : (x5_1.length : Int) ≤ (wrap64 ((l0.length : Int) + 1))
      · rw [if_pos c5] at H
        have c5b0 : decide ((x5_1.length : Int) ≤ (wrap64 ((l0.length : Int) + 1))) = true := decide_eq_true c5
        clear c5
        replace H := Option.bind_eq_some_iff.mp H
        obtain ⟨⟨t110, t111⟩, A60, H⟩ := H
        replace H : (if t111 = true then (if t110 = a1 then (some x5_1) else (if x5_1.length < 17592186044416 then (impl_WaitRing.l0 k1 l0 a1 (x5_1 ++ [t110]) t110) else (none))) else (some ([] : List Int))) = some r := H
        have A6 := Aside0.mk A60
        clear A60
        by_cases c7 : t111 = true
        · subst c7
          have H1 : (if t110 = a1 then (some x5_1) else (if x5_1.length < 17592186044416 then (impl_WaitRing.l0 k1 l0 a1 (x5_1 ++ [t110]) t110) else (none))) = some r := by rw [if_pos rfl] at H; exact H
          clear H
          have H := H1
          clear H1
          by_cases c8 : t110 = a1
          · rw [if_pos c8] at H
            have c8b0 : (t110 == a1) = true := beq_iff_eq.mpr c8
            have c8b1 : (t110 != a1) = false := bne_eq_false_iff_eq.mpr c8
            clear c8
            obtain rfl := Option.some.inj H
            obtain ⟨Ao9, co9, eo9⟩ := Kd.R_slice HO_5.out
            subst eo9
            go_wp2_with (first | ((with_reducible refine gate_callee (f := 24) rfl ?_); refine goesL_ (some 21) rfl rfl Try.func24 (by kernel_rfl) rfl #[.slice A0 l0.length c0, .int .i64 x6_1] rfl (by (try simp only [List.map_toArray, List.map_cons, List.map_nil]); first | done | rfl | (simp only [List.length_drop, List.length_take]; rfl)) ?_; (with_reducible refine (impl_WaitNext.calls _ _ l0 x6_1 t110 true _ ?side1 ?side2 A6.out).mono ?_); (case side1 => repeat (first | exact (Kd.C_below HR0.out HB.out) | (with_reducible refine Kd.C_alloc ?_ _) | (with_reducible refine Kd.C_drewN ?_ _) | (with_reducible refine Kd.C_drew ?_))); (case side2 => exact HC0.out); rintro e w10 ⟨rfl, hb⟩; refine ⟨_, rfl, ?_⟩; have n0_ := Aside0.mk (Kd.R_below (by (with_reducible repeat (first | apply Kd.R_alloc | apply Kd.R_drewN | apply Kd.R_drew)); exact HO_5.out) hb); have n1_ := Aside0.mk (below_step (by repeat (first | (with_reducible first | exact HB.out | apply below_alloc | apply pw_below_drewN | apply below_drew1) | exact HB.out)) hb); clear HO_5; clear HB; have HO_5 := n0_; have HB := n1_; clear n0_ n1_; (try clear hb); (try clear hb2); (try clear hk); (try clear hi)))
            go_ret
            exact ⟨_, by first | rfl | (simp [errW_none, errW_some] <;> rfl) | (simp [*, errW_none, errW_some] <;> rfl), by (with_reducible repeat (first | apply Kd.R_alloc | apply Kd.R_drewN | apply Kd.R_drew)); exact HO_5.out, by repeat (first | (with_reducible first | exact HB.out | apply below_alloc | apply pw_below_drewN | apply below_drew1) | exact HB.out)⟩
          · rw [if_neg c8] at H
            have c8b0 : (t110 == a1) = false := beq_eq_false_iff_ne.mpr c8
            have c8b1 : (t110 != a1) = true := bne_iff_ne.mpr c8
            by_cases c11 : x5_1.length < 17592186044416
            · rw [if_pos c11] at H
              have LMc11 := Aside0.mk c11
              clear c11
              obtain ⟨y112, hy112⟩ : ∃ y_ : List Int, y_ = (x5_1 ++ [t110]) := ⟨_, rfl⟩
              replace H : (impl_WaitRing.l0 k1 l0 a1 y112 t110) = some r := by first | (rw [hy112]; with_reducible exact H) | (have H2_ := (Option.bind_some _ _).symm.trans H; rw [hy112]; with_reducible exact H2_) | (have H2_ := (Option.bind_some _ _).symm.trans H; with_reducible exact H2_) | with_reducible exact H | (rw [hy112]; exact H) | exact H
              have Ny112 := Aside0.mk hy112
              clear hy112
              have H' := Aside0.mk H
              clear H
              obtain ⟨Ao12, co12, eo12⟩ := Kd.R_slice HO_5.out
              subst eo12
              go_wp2_with (first | ((with_reducible refine gate_callee (f := 24) rfl ?_); refine goesL_ (some 21) rfl rfl Try.func24 (by kernel_rfl) rfl #[.slice A0 l0.length c0, .int .i64 x6_1] rfl (by (try simp only [List.map_toArray, List.map_cons, List.map_nil]); first | done | rfl | (simp only [List.length_drop, List.length_take]; rfl)) ?_; (with_reducible refine (impl_WaitNext.calls _ _ l0 x6_1 t110 true _ ?side1 ?side2 A6.out).mono ?_); (case side1 => repeat (first | exact (Kd.C_below HR0.out HB.out) | (with_reducible refine Kd.C_alloc ?_ _) | (with_reducible refine Kd.C_drewN ?_ _) | (with_reducible refine Kd.C_drew ?_))); (case side2 => exact HC0.out); rintro e w13 ⟨rfl, hb⟩; refine ⟨_, rfl, ?_⟩; have n0_ := Aside0.mk (Kd.R_below (by (with_reducible repeat (first | apply Kd.R_alloc | apply Kd.R_drewN | apply Kd.R_drew)); exact HO_5.out) hb); have n1_ := Aside0.mk (below_step (by repeat (first | (with_reducible first | exact HB.out | apply below_alloc | apply pw_below_drewN | apply below_drew1) | exact HB.out)) hb); clear HO_5; clear HB; have HO_5 := n0_; have HB := n1_; clear n0_ n1_; (try clear hb); (try clear hb2); (try clear hk); (try clear hi)) | ((with_reducible refine gate_builtin (b := .append) (xs := #[.tmp 30, .tmp 32]) rfl ?_); at_builtin; refine Kd.R_append (Kd.int .i64) (w0 := w) w.heap.size rfl (.tmp 30) (.tmp 32) 22 3 (.int .i64 0) 8 rfl Try.underlying22 info3 rfl (by decide) (by omega) (.slice Ao12 x5_1.length co12) x5_1 t110 [.int .i64 t110] (fun _ => True) (fun _ => False) rfl rfl ?aP (fun _ hk => hk.elim) ?aF ?aO ?aB ?aS ?aL ?_; (case aP => exact rfl); (case aB => exact (by repeat (first | (with_reducible first | exact HB.out | apply below_alloc | apply pw_below_drewN | apply below_drew1) | exact HB.out))); (case aF => exact (fun _ _ => trivial)); (case aO => exact (by (with_reducible repeat (first | apply Kd.R_alloc | apply Kd.R_drewN | apply Kd.R_drew)); exact HO_5.out)); (case aS => exact (below_size (by repeat (first | (with_reducible first | exact HB.out | apply below_alloc | apply pw_below_drewN | apply below_drew1) | exact HB.out)))); (case aL => have := LMc11.out; omega); intro v113 w14 ho hb hg hat; rw [← Ny112.out] at ho; have n0_ := Aside0.mk (hb); have n1_ := Aside0.mk (ho); clear HB; clear HO_5; have HB := n0_; have HO114 := n1_; clear n0_ n1_; clear ho hb hg hat))
              go_roundg k1
              case measure => have := HK1.out; omega
              case rel => exact ⟨(y112), (t110), (by first | rfl | (simp; done) | (simp [*]; done)), H', ⟨by have := HK1.out; omega⟩, ⟨by (with_reducible repeat (first | apply Kd.R_alloc | apply Kd.R_drewN | apply Kd.R_drew)); exact HO114.out⟩, ⟨by repeat (first | (with_reducible first | exact HB.out | apply below_alloc | apply pw_below_drewN | apply below_drew1) | exact HB.out)⟩⟩
            · rw [if_neg c11] at H
              exact absurd H (by simp)
        · replace c7 := Bool.eq_false_iff.mpr c7
          subst c7
          have H1 : (some ([] : List Int)) = some r := by rw [if_neg (show ¬ (false = true) by decide)] at H; exact H
          clear H
          have H := H1
          clear H1
          obtain rfl := Option.some.inj H
          obtain ⟨Ao15, co15, eo15⟩ := Kd.R_slice HO_5.out
          subst eo15
          go_wp2_with (first | ((with_reducible refine gate_callee (f := 24) rfl ?_); refine goesL_ (some 21) rfl rfl Try.func24 (by kernel_rfl) rfl #[.slice A0 l0.length c0, .int .i64 x6_1] rfl (by (try simp only [List.map_toArray, List.map_cons, List.map_nil]); first | done | rfl | (simp only [List.length_drop, List.length_take]; rfl)) ?_; (with_reducible refine (impl_WaitNext.calls _ _ l0 x6_1 t110 false _ ?side1 ?side2 A6.out).mono ?_); (case side1 => repeat (first | exact (Kd.C_below HR0.out HB.out) | (with_reducible refine Kd.C_alloc ?_ _) | (with_reducible refine Kd.C_drewN ?_ _) | (with_reducible refine Kd.C_drew ?_))); (case side2 => exact HC0.out); rintro e w16 ⟨rfl, hb⟩; refine ⟨_, rfl, ?_⟩; have n0_ := Aside0.mk (Kd.R_below (by (with_reducible repeat (first | apply Kd.R_alloc | apply Kd.R_drewN | apply Kd.R_drew)); exact HO_5.out) hb); have n1_ := Aside0.mk (below_step (by repeat (first | (with_reducible first | exact HB.out | apply below_alloc | apply pw_below_drewN | apply below_drew1) | exact HB.out)) hb); clear HO_5; clear HB; have HO_5 := n0_; have HB := n1_; clear n0_ n1_; (try clear hb); (try clear hb2); (try clear hk); (try clear hi)))
          go_ret
          exact ⟨_, by first | rfl | (simp [errW_none, errW_some] <;> rfl) | (simp [*, errW_none, errW_some] <;> rfl), by first | exact Kd.R_nil _ _ _ _ _ | exact Kd.N_nil _ _ _ _ _ | exact Kd.V_nil _ _ _ _ _ | exact Kd.Q_nil _ _ _ _ _ | exact Kd.S_nil _ _ _ _ _, by repeat (first | (with_reducible first | exact HB.out | apply below_alloc | apply pw_below_drewN | apply below_drew1) | exact HB.out)⟩
      · rw [if_neg c5] at H
        have c5b0 : decide ((x5_1.length : Int) ≤ (wrap64 ((l0.length : Int) + 1))) = false := decide_eq_false c5
        clear c5
        obtain rfl := Option.some.inj H
        obtain ⟨Ao17, co17, eo17⟩ := Kd.R_slice HO_5.out
        subst eo17
        go_wp2
        go_ret
        exact ⟨_, by first | rfl | (simp [errW_none, errW_some] <;> rfl) | (simp [*, errW_none, errW_some] <;> rfl), by first | exact Kd.R_nil _ _ _ _ _ | exact Kd.N_nil _ _ _ _ _ | exact Kd.V_nil _ _ _ _ _ | exact Kd.Q_nil _ _ _ _ _ | exact Kd.S_nil _ _ _ _ _, by repeat (first | (with_reducible first | exact HB.out | apply below_alloc | apply pw_below_drewN | apply below_drew1) | exact HB.out)⟩

/-! ### impl_WaitFree: function 27 -/
def impl_WaitFree.l0 : Nat → Int → List (S47) → List Int → List (S47) → Int → Int → Option ((List (S47)) × List Int)
  | 0, _, _, _, _, _, _ => none
  | k + 1, x1, x6, x7, x13, x14, x15 => if x15 < x14 then (if 0 ≤ x15 then (if x15 < (x13.length : Int) then (if ((rd_T47 x13 x15).f1) = x1 then (if x7.length < 17592186044416 then (impl_WaitFree.l0 k x1 x6 (x7 ++ [(rd_T47 x13 x15).f0]) x13 x14 (wrap64 (x15 + 1))) else (none)) else (if x6.length < 8796093022208 then (impl_WaitFree.l0 k x1 (x6 ++ [(⟨(rd_T47 x13 x15).f0, (rd_T47 x13 x15).f1⟩ : S47)]) x7 x13 x14 (wrap64 (x15 + 1))) else (none))) else (none)) else (none)) else (some (x6, x7))
def impl_WaitFree.f (k : Nat) (l0 : List (S47)) (a1 : Int) : Option ((List (S47)) × List Int) := (impl_WaitsOk.f l0).bind fun t115 => (if t115 = true then (impl_WaitFree.l0 k a1 ([] : List (S47)) ([] : List Int) l0 (l0.length : Int) 0) else (some (([] : List (S47)), ([] : List Int))))
theorem impl_WaitFree.mono_l : ∀ k, (∀ y0 y1 y2 y3 y4 y5, LeO (impl_WaitFree.l0 k y0 y1 y2 y3 y4 y5) (impl_WaitFree.l0 (k + 1) y0 y1 y2 y3 y4 y5))
  | 0 => fun _ _ _ _ _ _ r h => by simp [impl_WaitFree.l0] at h
  | k + 1 => by
    have ih0 := impl_WaitFree.mono_l k
    · intro y0 y1 y2 y3 y4 y5
      unfold impl_WaitFree.l0
      repeat' first
      | (with_reducible exact ih0 _ _ _ _ _ _)
      | (with_reducible exact LeO.refl _)
      | (with_reducible exact LeO.none _)
      | (with_reducible refine LeO.ite ?_ ?_)
      | (with_reducible refine LeO.bind ?_ (fun _ => ?_))
      | exact ih0 _ _ _ _ _ _
      | exact LeO.none _
      | refine LeO.ite ?_ ?_
      | refine LeO.bind ?_ (fun _ => ?_)
theorem impl_WaitFree.mono : ∀ a0 a1 k, LeO (impl_WaitFree.f k a0 a1) (impl_WaitFree.f (k + 1) a0 a1) := by
  intro a0 a1 k
  have ih0 := impl_WaitFree.mono_l k
  unfold impl_WaitFree.f
  repeat' first
      | (with_reducible exact ih0 _ _ _ _ _ _)
      | (with_reducible exact LeO.refl _)
      | (with_reducible exact LeO.none _)
      | (with_reducible refine LeO.ite ?_ ?_)
      | (with_reducible refine LeO.bind ?_ (fun _ => ?_))
      | exact ih0 _ _ _ _ _ _
      | exact LeO.none _
      | refine LeO.ite ?_ ?_
      | refine LeO.bind ?_ (fun _ => ?_)
set_option maxHeartbeats 8000000 in
set_option maxRecDepth 100000 in
theorem impl_WaitFree.calls (k : Nat) (A0 : Option Addr) (c0 : Nat) (l0 : List (S47)) (a1 : Int) (r1 : List (S47)) (r2 : List Int) (w : World) (hr0 : Kd.C k47 w A0 l0.length l0) (hc0 : l0.length ≤ c0) (h : impl_WaitFree.f k l0 a1 = some (r1, r2)) :
    Calls Try.prog 27 #[.slice A0 l0.length c0, .int .i64 a1] w fun e w' => ∃ v0_ v1_ : Value, e = .returned (.tuple #[v0_, v1_]) ∧ Kd.R k47 47 w' w.heap.size (fun _ => True) v0_ r1 ∧ Kd.R (Kd.int .i64) 3 w' w.heap.size (fun _ => True) v1_ r2 ∧ Below w.heap.size w w' := by
  have hu47 := Try.underlying47
  have HR0 := Aside0.mk hr0
  have HC0 := Aside0.mk hc0
  clear hr0 hc0
  have HB := Aside0.mk (Below.refl w.heap.size w)
  have H : ((impl_WaitsOk.f l0).bind fun t115 => (if t115 = true then (impl_WaitFree.l0 k a1 ([] : List (S47)) ([] : List Int) l0 (l0.length : Int) 0) else (some (([] : List (S47)), ([] : List Int))))) = some (r1, r2) := h
  clear h
  replace H := Option.bind_eq_some_iff.mp H
  obtain ⟨t115, A30, H⟩ := H
  replace H : (if t115 = true then (impl_WaitFree.l0 k a1 ([] : List (S47)) ([] : List Int) l0 (l0.length : Int) 0) else (some (([] : List (S47)), ([] : List Int)))) = some (r1, r2) := H
  have A3 := Aside0.mk A30
  clear A30
  by_cases c4 : t115 = true
  · subst c4
    have H1 : (impl_WaitFree.l0 k a1 ([] : List (S47)) ([] : List Int) l0 (l0.length : Int) 0) = some (r1, r2) := by rw [if_pos rfl] at H; exact H
    clear H
    have H := H1
    clear H1
    have H' := Aside0.mk H
    clear H
    go_enter Try.func27, Try.ntmps27
    go_wp2_with (first | ((with_reducible refine gate_callee (f := 15) rfl ?_); refine goesL_ (some 11) rfl rfl Try.func15 (by kernel_rfl) rfl #[.slice A0 l0.length c0] rfl (by (try simp only [List.map_toArray, List.map_cons, List.map_nil]); first | done | rfl | (simp only [List.length_drop, List.length_take]; rfl)) ?_; (with_reducible refine (impl_WaitsOk.calls _ _ l0 true _ ?side1 ?side2 A3.out).mono ?_); (case side1 => repeat (first | exact HR0.out | (with_reducible refine Kd.C_alloc ?_ _) | (with_reducible refine Kd.C_drewN ?_ _) | (with_reducible refine Kd.C_drew ?_))); (case side2 => exact HC0.out); rintro e w5 ⟨rfl, hb⟩; refine ⟨_, rfl, ?_⟩; have n0_ := Aside0.mk (below_step (by repeat (first | (with_reducible first | exact HB.out | apply below_alloc | apply pw_below_drewN | apply below_drew1) | exact HB.out)) hb); clear HB; have HB := n0_; clear n0_; (try clear hb); (try clear hb2); (try clear hk); (try clear hi)))
    go_loopg [6, 7, 15] k (fun kq v6 v7 v15 w' => ∃ (x6_1 : List (S47)) (x7_1 : List Int) (x15_1 : Int), v15 = .int .i64 x15_1 ∧ Aside0 (impl_WaitFree.l0 kq a1 x6_1 x7_1 l0 (l0.length : Int) x15_1 = some (r1, r2)) ∧ Aside0 (kq ≤ k) ∧ Aside0 (Kd.R k47 47 w' w.heap.size (fun _ => True) v6 x6_1) ∧ Aside0 (Kd.R (Kd.int .i64) 3 w' w.heap.size (fun _ => True) v7 x7_1) ∧ Aside0 (Below w.heap.size w w'))
    case atStart => exact ⟨(([] : List (S47))), (([] : List Int)), (0), (by first | rfl | (simp; done) | (simp [*]; done)), H', ⟨Nat.le_refl _⟩, ⟨by first | exact Kd.R_nil _ _ _ _ _ | exact Kd.N_nil _ _ _ _ _ | exact Kd.V_nil _ _ _ _ _ | exact Kd.Q_nil _ _ _ _ _ | exact Kd.S_nil _ _ _ _ _⟩, ⟨by first | exact Kd.R_nil _ _ _ _ _ | exact Kd.N_nil _ _ _ _ _ | exact Kd.V_nil _ _ _ _ _ | exact Kd.Q_nil _ _ _ _ _ | exact Kd.S_nil _ _ _ _ _⟩, ⟨by repeat (first | (with_reducible first | exact HB.out | apply below_alloc | apply pw_below_drewN | apply below_drew1) | exact HB.out)⟩⟩
    case round =>
      clear H'
      try clear c1
      try clear c2
      try clear p2
      try clear c4
      obtain ⟨x6_1, x7_1, x15_1, rfl, HA, HK1, HO_6, HO_7, HB⟩ := hrel
      cases gk with
      | zero => exact absurd HA.out (by simp [impl_WaitFree.l0])
      | succ k1 =>
        have H := HA.out
        clear HA
        simp only [impl_WaitFree.l0] at H
        by_cases c6 : x15_1 < (l0.length : Int)
        · rw [if_pos c6] at H
          have c6b0 : decide (x15_1 < (l0.length : Int)) = true := decide_eq_true c6
          clear c6
          by_cases c7 : 0 ≤ x15_1
          · rw [if_pos c7] at H
            have c7b0 : decide (0 ≤ x15_1) = true := decide_eq_true c7
            clear c7
            by_cases c8 : x15_1 < (l0.length : Int)
            · rw [if_pos c8] at H
              have c8b0 : decide (x15_1 < (l0.length : Int)) = true := decide_eq_true c8
              clear c8
              by_cases c9 : ((rd_T47 l0 x15_1).f1) = a1
              · rw [if_pos c9] at H
                have c9b0 : (((rd_T47 l0 x15_1).f1) == a1) = true := beq_iff_eq.mpr c9
                have c9b1 : (((rd_T47 l0 x15_1).f1) != a1) = false := bne_eq_false_iff_eq.mpr c9
                clear c9
                by_cases c10 : x7_1.length < 17592186044416
                · rw [if_pos c10] at H
                  have LMc10 := Aside0.mk c10
                  clear c10
                  obtain ⟨y118, hy118⟩ : ∃ y_ : List Int, y_ = (x7_1 ++ [(rd_T47 l0 x15_1).f0]) := ⟨_, rfl⟩
                  replace H : (impl_WaitFree.l0 k1 a1 x6_1 y118 l0 (l0.length : Int) (wrap64 (x15_1 + 1))) = some (r1, r2) := by first | (rw [hy118]; with_reducible exact H) | (have H2_ := (Option.bind_some _ _).symm.trans H; rw [hy118]; with_reducible exact H2_) | (have H2_ := (Option.bind_some _ _).symm.trans H; with_reducible exact H2_) | with_reducible exact H | (rw [hy118]; exact H) | exact H
                  have Ny118 := Aside0.mk hy118
                  clear hy118
                  have H' := Aside0.mk H
                  clear H
                  have p116 : 0 ≤ (x15_1 : Int) := of_decide_eq_true (by first | (with_reducible assumption) | assumption)
                  have q116 : x15_1 < (l0.length : Int) := of_decide_eq_true (by first | (with_reducible assumption) | assumption)
                  obtain ⟨ad116, e116, hx116_0, hx116_1⟩ := at_T47 HR0.out x15_1 p116 q116
                  cases e116
                  replace hx116_0 := (HB.out.cell (World.block_lt_of_cell? w _ hx116_0)).trans hx116_0
                  replace hx116_1 := (HB.out.cell (World.block_lt_of_cell? w _ hx116_1)).trans hx116_1
                  replace p116 := eq_true p116
                  replace q116 := eq_true q116
                  go_wp2_with (first | ((with_reducible refine gate_dst (N := 9) rfl ?_); refine box_event ?hg (N := 9) ?hd (cs := #[.int .i64 0, .int .i64 0]) (t := 47) ?hr ?_; (case hd => rfl); (case hg => rfl); (case hr => first | (go_simp; done) | (go_simp; rfl)); intro gb117 hg w11 hbox hb; have n0_ := Aside0.mk (Kd.R_below (Kd.R_elderB (by (with_reducible repeat (first | apply Kd.R_alloc | apply Kd.R_drewN | apply Kd.R_drew)); exact HO_6.out) gb117 (Nat.le_of_eq hg.symm)) hb); have n1_ := Aside0.mk (Kd.R_below (by (with_reducible repeat (first | apply Kd.R_alloc | apply Kd.R_drewN | apply Kd.R_drew)); exact HO_7.out) hb); have n2_ := Aside0.mk (below_step (by repeat (first | (with_reducible first | exact HB.out | apply below_alloc | apply pw_below_drewN | apply below_drew1) | exact HB.out)) hb); have n3_ := Aside0.mk (hbox); have n4_ := Aside0.mk ((by rw [hg]; exact (below_size (by repeat (first | (with_reducible first | exact HB.out | apply below_alloc | apply pw_below_drewN | apply below_drew1) | exact HB.out))) : w.heap.size ≤ gb117)); have n5_ := Aside0.mk ((by rw [hg]; exact (below_size (by repeat (first | (with_reducible first | exact HB.out | apply below_alloc | apply pw_below_drewN | apply below_drew1) | exact HB.out))) : w.heap.size ≤ gb117)); clear HO_6; clear HO_7; clear HB; have HO_6 := n0_; have HO_7 := n1_; have HB := n2_; have BK117 := n3_; have GW117 := n4_; have GE117 := n5_; clear n0_ n1_ n2_ n3_ n4_ n5_; clear hb hbox hg; have hcz12_0 : w11.cell? ⟨gb117, 0, none⟩ = some (.int .i64 0) := (blk_cell BK117.out 0).trans rfl; have hcz12_1 : w11.cell? ⟨gb117, 1, none⟩ = some (.int .i64 0) := (blk_cell BK117.out 1).trans rfl; have hfz12_0 := blk_frozen BK117.out 0; have hfz12_1 := blk_frozen BK117.out 1) | ((with_reducible refine gate_builtin (b := .append) (xs := #[.tmp 23, .tmp 26]) rfl ?_); at_builtin; refine Kd.R_append (Kd.int .i64) (w0 := w) w.heap.size rfl (.tmp 23) (.tmp 26) 22 3 (.int .i64 0) 8 rfl Try.underlying22 info3 rfl (by decide) (by omega) u7 x7_1 ((rd_T47 l0 x15_1).f0) [.int .i64 ((rd_T47 l0 x15_1).f0)] (fun _ => True) (fun _ => False) rfl (by first | (go_simp; done) | (go_simp; rfl)) ?aP (fun _ hk => hk.elim) ?aF ?aO ?aB ?aS ?aL ?_; (case aP => exact rfl); (case aB => exact (by repeat (first | (with_reducible first | exact HB.out | apply below_alloc | apply pw_below_drewN | apply below_drew1 | refine below_set ?_ GE117.out) | exact HB.out))); (case aF => exact (fun _ _ => trivial)); (case aO => exact (by (with_reducible repeat (first | apply Kd.R_alloc | apply Kd.R_drewN | apply Kd.R_drew)); exact Kd.R_mono (Kd.R_far (p := ⟨gb117, 1, none⟩) (Kd.R_far (p := ⟨gb117, 0, none⟩) (Kd.R_types HO_7.out BK117.out (by decide)) (fun _ hk => hk.2) (.int .i64 ((rd_T47 l0 x15_1).f0))) (fun _ hk => hk.2) (.int .i64 ((rd_T47 l0 x15_1).f1))) (fun _ hk => trivial))); (case aS => exact (below_size (by repeat (first | (with_reducible first | exact HB.out | apply below_alloc | apply pw_below_drewN | apply below_drew1 | refine below_set ?_ GE117.out) | exact HB.out)))); (case aL => have := LMc10.out; omega); intro v119 w13 ho hb hg hat; rw [← Ny118.out] at ho; have n0_ := Aside0.mk (Kd.R_over' (by (with_reducible repeat (first | apply Kd.R_alloc | apply Kd.R_drewN | apply Kd.R_drew)); exact (Kd.R_mono (Kd.R_far (p := ⟨gb117, 1, none⟩) (Kd.R_far (p := ⟨gb117, 0, none⟩) (Kd.R_mono HO_6.out (fun k_ hk => (⟨hk, hk.2⟩ : _ ∧ k_ ≠ gb117))) (fun _ hk => hk.2) (.int .i64 ((rd_T47 l0 x15_1).f0))) (fun _ hk => hk.2) (.int .i64 ((rd_T47 l0 x15_1).f1))) (fun _ h_ => h_.1))) (Kd.R_typed (by (with_reducible repeat (first | apply Kd.R_alloc | apply Kd.R_drewN | apply Kd.R_drew)); exact (Kd.R_mono (Kd.R_far (p := ⟨gb117, 1, none⟩) (Kd.R_far (p := ⟨gb117, 0, none⟩) (Kd.R_types HO_7.out BK117.out (by decide)) (fun _ hk => hk.2) (.int .i64 ((rd_T47 l0 x15_1).f0))) (fun _ hk => hk.2) (.int .i64 ((rd_T47 l0 x15_1).f1))) (fun _ h_ => h_.1)))) (by decide) hg); have n1_ := Aside0.mk (blk_grown (g := gb117) (o := .cells #[.int .i64 ((rd_T47 l0 x15_1).f0), .int .i64 ((rd_T47 l0 x15_1).f1)] 47 (0, 0)) (by (with_reducible repeat (first | refine blk_drewN ?_ _ | refine blk_drew ?_ | refine blk_alloc ?_ _)); refine blk_put (cs := #[.int .i64 ((rd_T47 l0 x15_1).f0), .int .i64 0]) ?_ 1 _ rfl; (with_reducible repeat (first | refine blk_drewN ?_ _ | refine blk_drew ?_ | refine blk_alloc ?_ _)); refine blk_put (cs := #[.int .i64 0, .int .i64 0]) ?_ 0 _ rfl; (with_reducible repeat (first | refine blk_drewN ?_ _ | refine blk_drew ?_ | refine blk_alloc ?_ _)); exact BK117.out) hg (Kd.R_ne HO_7.out BK117.out (by decide))); have n2_ := Aside0.mk (hb); have n3_ := Aside0.mk (ho); clear HO_6; clear BK117; clear HB; clear HO_7; have HO_6 := n0_; have BK117 := n1_; have HB := n2_; have HO120 := n3_; clear n0_ n1_ n2_ n3_; clear ho hb hg hat))
                  go_roundg k1
                  case measure => have := HK1.out; omega
                  case rel => exact ⟨(x6_1), (y118), (wrap64 (x15_1 + 1)), (by first | rfl | (simp; done) | (simp [*]; done)), H', ⟨by have := HK1.out; omega⟩, ⟨by (with_reducible repeat (first | apply Kd.R_alloc | apply Kd.R_drewN | apply Kd.R_drew)); exact Kd.R_mono HO_6.out (fun _ hk => trivial)⟩, ⟨by (with_reducible repeat (first | apply Kd.R_alloc | apply Kd.R_drewN | apply Kd.R_drew)); exact HO120.out⟩, ⟨by repeat (first | (with_reducible first | exact HB.out | apply below_alloc | apply pw_below_drewN | apply below_drew1 | refine below_set ?_ GE117.out) | exact HB.out)⟩⟩
                · rw [if_neg c10] at H
                  exact absurd H (by simp)
              · rw [if_neg c9] at H
                have c9b0 : (((rd_T47 l0 x15_1).f1) == a1) = false := beq_eq_false_iff_ne.mpr c9
                have c9b1 : (((rd_T47 l0 x15_1).f1) != a1) = true := bne_iff_ne.mpr c9
                by_cases c14 : x6_1.length < 8796093022208
                · rw [if_pos c14] at H
                  have LMc14 := Aside0.mk c14
                  clear c14
                  obtain ⟨y121, hy121⟩ : ∃ y_ : List (S47), y_ = (x6_1 ++ [(⟨(rd_T47 l0 x15_1).f0, (rd_T47 l0 x15_1).f1⟩ : S47)]) := ⟨_, rfl⟩
                  replace H : (impl_WaitFree.l0 k1 a1 y121 x7_1 l0 (l0.length : Int) (wrap64 (x15_1 + 1))) = some (r1, r2) := by first | (rw [hy121]; with_reducible exact H) | (have H2_ := (Option.bind_some _ _).symm.trans H; rw [hy121]; with_reducible exact H2_) | (have H2_ := (Option.bind_some _ _).symm.trans H; with_reducible exact H2_) | with_reducible exact H | (rw [hy121]; exact H) | exact H
                  have Ny121 := Aside0.mk hy121
                  clear hy121
                  have H' := Aside0.mk H
                  clear H
                  have p116 : 0 ≤ (x15_1 : Int) := of_decide_eq_true (by first | (with_reducible assumption) | assumption)
                  have q116 : x15_1 < (l0.length : Int) := of_decide_eq_true (by first | (with_reducible assumption) | assumption)
                  obtain ⟨ad116, e116, hx116_0, hx116_1⟩ := at_T47 HR0.out x15_1 p116 q116
                  cases e116
                  replace hx116_0 := (HB.out.cell (World.block_lt_of_cell? w _ hx116_0)).trans hx116_0
                  replace hx116_1 := (HB.out.cell (World.block_lt_of_cell? w _ hx116_1)).trans hx116_1
                  replace p116 := eq_true p116
                  replace q116 := eq_true q116
                  go_wp2_with (first | ((with_reducible refine gate_dst (N := 9) rfl ?_); refine box_event ?hg (N := 9) ?hd (cs := #[.int .i64 0, .int .i64 0]) (t := 47) ?hr ?_; (case hd => rfl); (case hg => rfl); (case hr => first | (go_simp; done) | (go_simp; rfl)); intro gb117 hg w15 hbox hb; have n0_ := Aside0.mk (Kd.R_below (Kd.R_elderB (by (with_reducible repeat (first | apply Kd.R_alloc | apply Kd.R_drewN | apply Kd.R_drew)); exact HO_6.out) gb117 (Nat.le_of_eq hg.symm)) hb); have n1_ := Aside0.mk (Kd.R_below (by (with_reducible repeat (first | apply Kd.R_alloc | apply Kd.R_drewN | apply Kd.R_drew)); exact HO_7.out) hb); have n2_ := Aside0.mk (below_step (by repeat (first | (with_reducible first | exact HB.out | apply below_alloc | apply pw_below_drewN | apply below_drew1) | exact HB.out)) hb); have n3_ := Aside0.mk (hbox); have n4_ := Aside0.mk ((by rw [hg]; exact (below_size (by repeat (first | (with_reducible first | exact HB.out | apply below_alloc | apply pw_below_drewN | apply below_drew1) | exact HB.out))) : w.heap.size ≤ gb117)); have n5_ := Aside0.mk ((by rw [hg]; exact (below_size (by repeat (first | (with_reducible first | exact HB.out | apply below_alloc | apply pw_below_drewN | apply below_drew1) | exact HB.out))) : w.heap.size ≤ gb117)); clear HO_6; clear HO_7; clear HB; have HO_6 := n0_; have HO_7 := n1_; have HB := n2_; have BK117 := n3_; have GW117 := n4_; have GE117 := n5_; clear n0_ n1_ n2_ n3_ n4_ n5_; clear hb hbox hg; have hcz16_0 : w15.cell? ⟨gb117, 0, none⟩ = some (.int .i64 0) := (blk_cell BK117.out 0).trans rfl; have hcz16_1 : w15.cell? ⟨gb117, 1, none⟩ = some (.int .i64 0) := (blk_cell BK117.out 1).trans rfl; have hfz16_0 := blk_frozen BK117.out 0; have hfz16_1 := blk_frozen BK117.out 1) | ((with_reducible refine gate_builtin (b := .append) (xs := #[.tmp 28, .tmp 30]) rfl ?_); at_builtin; refine Kd.R_append k47 (w0 := w) w.heap.size rfl (.tmp 28) (.tmp 30) 29 47 (.agg #[(.int .i64 0), (.int .i64 0)]) 16 rfl Try.underlying29 info47 rfl (by decide) (by omega) u6 x6_1 (⟨(rd_T47 l0 x15_1).f0, (rd_T47 l0 x15_1).f1⟩ : S47) [.int .i64 ((rd_T47 l0 x15_1).f0), .int .i64 ((rd_T47 l0 x15_1).f1)] (fun k_ => k_ ≠ gb117) (fun _ => False) rfl (by first | (go_simp; done) | (go_simp; rfl)) ?aP (fun _ hk => hk.elim) ?aF ?aO ?aB ?aS ?aL ?_; (case aP => exact k47_mkM _ _ _ (⟨(rd_T47 l0 x15_1).f0, (rd_T47 l0 x15_1).f1⟩ : S47)); (case aB => exact (by repeat (first | (with_reducible first | exact HB.out | apply below_alloc | apply pw_below_drewN | apply below_drew1 | refine below_set ?_ GE117.out) | exact HB.out))); (case aF => exact (fun k_ hk => Kd.freshB (g := gb117) (o := .cells #[.int .i64 ((rd_T47 l0 x15_1).f0), .int .i64 ((rd_T47 l0 x15_1).f1)] 47 (0, 0)) (by (with_reducible repeat (first | refine blk_drewN ?_ _ | refine blk_drew ?_ | refine blk_alloc ?_ _)); refine blk_put (cs := #[.int .i64 ((rd_T47 l0 x15_1).f0), .int .i64 0]) ?_ 1 _ rfl; (with_reducible repeat (first | refine blk_drewN ?_ _ | refine blk_drew ?_ | refine blk_alloc ?_ _)); refine blk_put (cs := #[.int .i64 0, .int .i64 0]) ?_ 0 _ rfl; (with_reducible repeat (first | refine blk_drewN ?_ _ | refine blk_drew ?_ | refine blk_alloc ?_ _)); exact BK117.out) k_ hk)); (case aO => exact (by (with_reducible repeat (first | apply Kd.R_alloc | apply Kd.R_drewN | apply Kd.R_drew)); exact Kd.R_mono (Kd.R_far (p := ⟨gb117, 1, none⟩) (Kd.R_far (p := ⟨gb117, 0, none⟩) (Kd.R_mono HO_6.out (fun k_ hk => (⟨hk, hk.2⟩ : _ ∧ k_ ≠ gb117))) (fun _ hk => hk.2) (.int .i64 ((rd_T47 l0 x15_1).f0))) (fun _ hk => hk.2) (.int .i64 ((rd_T47 l0 x15_1).f1))) (fun _ hk => hk.1.2))); (case aS => exact (below_size (by repeat (first | (with_reducible first | exact HB.out | apply below_alloc | apply pw_below_drewN | apply below_drew1 | refine below_set ?_ GE117.out) | exact HB.out)))); (case aL => have := LMc14.out; omega); intro v122 w17 ho hb hg hat; rw [← Ny121.out] at ho; have n0_ := Aside0.mk (Kd.R_over' (by (with_reducible repeat (first | apply Kd.R_alloc | apply Kd.R_drewN | apply Kd.R_drew)); exact (Kd.R_mono (Kd.R_far (p := ⟨gb117, 1, none⟩) (Kd.R_far (p := ⟨gb117, 0, none⟩) (Kd.R_types HO_7.out BK117.out (by decide)) (fun _ hk => hk.2) (.int .i64 ((rd_T47 l0 x15_1).f0))) (fun _ hk => hk.2) (.int .i64 ((rd_T47 l0 x15_1).f1))) (fun _ h_ => h_.1))) (Kd.R_typed (by (with_reducible repeat (first | apply Kd.R_alloc | apply Kd.R_drewN | apply Kd.R_drew)); exact (Kd.R_mono (Kd.R_far (p := ⟨gb117, 1, none⟩) (Kd.R_far (p := ⟨gb117, 0, none⟩) (Kd.R_mono HO_6.out (fun k_ hk => (⟨hk, hk.2⟩ : _ ∧ k_ ≠ gb117))) (fun _ hk => hk.2) (.int .i64 ((rd_T47 l0 x15_1).f0))) (fun _ hk => hk.2) (.int .i64 ((rd_T47 l0 x15_1).f1))) (fun _ h_ => h_.1)))) (by decide) hg); have n1_ := Aside0.mk (blk_grown (g := gb117) (o := .cells #[.int .i64 ((rd_T47 l0 x15_1).f0), .int .i64 ((rd_T47 l0 x15_1).f1)] 47 (0, 0)) (by (with_reducible repeat (first | refine blk_drewN ?_ _ | refine blk_drew ?_ | refine blk_alloc ?_ _)); refine blk_put (cs := #[.int .i64 ((rd_T47 l0 x15_1).f0), .int .i64 0]) ?_ 1 _ rfl; (with_reducible repeat (first | refine blk_drewN ?_ _ | refine blk_drew ?_ | refine blk_alloc ?_ _)); refine blk_put (cs := #[.int .i64 0, .int .i64 0]) ?_ 0 _ rfl; (with_reducible repeat (first | refine blk_drewN ?_ _ | refine blk_drew ?_ | refine blk_alloc ?_ _)); exact BK117.out) hg (Kd.R_away HO_6.out (fun _ hk => hk.2))); have n2_ := Aside0.mk (hb); have n3_ := Aside0.mk (ho); clear HO_7; clear BK117; clear HB; clear HO_6; have HO_7 := n0_; have BK117 := n1_; have HB := n2_; have HO123 := n3_; clear n0_ n1_ n2_ n3_; clear ho hb hg hat))
                  go_roundg k1
                  case measure => have := HK1.out; omega
                  case rel => exact ⟨(y121), (x7_1), (wrap64 (x15_1 + 1)), (by first | rfl | (simp; done) | (simp [*]; done)), H', ⟨by have := HK1.out; omega⟩, ⟨by (with_reducible repeat (first | apply Kd.R_alloc | apply Kd.R_drewN | apply Kd.R_drew)); exact Kd.R_mono HO123.out (fun _ hk => trivial)⟩, ⟨by (with_reducible repeat (first | apply Kd.R_alloc | apply Kd.R_drewN | apply Kd.R_drew)); exact HO_7.out⟩, ⟨by repeat (first | (with_reducible first | exact HB.out | apply below_alloc | apply pw_below_drewN | apply below_drew1 | refine below_set ?_ GE117.out) | exact HB.out)⟩⟩
                · rw [if_neg c14] at H
                  exact absurd H (by simp)
            · rw [if_neg c8] at H
              exact absurd H (by simp)
          · rw [if_neg c7] at H
            exact absurd H (by simp)
        · rw [if_neg c6] at H
          have c6b0 : decide (x15_1 < (l0.length : Int)) = false := decide_eq_false c6
          clear c6
          simp only [Option.some.injEq, Prod.mk.injEq] at H
          obtain ⟨rfl, rfl⟩ := H
          go_wp2
          go_ret2
          exact ⟨_, _, by first | rfl | (simp [errW_none, errW_some] <;> rfl) | (simp [*, errW_none, errW_some] <;> rfl), by (with_reducible repeat (first | apply Kd.R_alloc | apply Kd.R_drewN | apply Kd.R_drew)); exact HO_6.out, by (with_reducible repeat (first | apply Kd.R_alloc | apply Kd.R_drewN | apply Kd.R_drew)); exact HO_7.out, by repeat (first | (with_reducible first | exact HB.out | apply below_alloc | apply pw_below_drewN | apply below_drew1) | exact HB.out)⟩
  · replace c4 := Bool.eq_false_iff.mpr c4
    subst c4
    have H1 : (some (([] : List (S47)), ([] : List Int))) = some (r1, r2) := by rw [if_neg (show ¬ (false = true) by decide)] at H; exact H
    clear H
    have H := H1
    clear H1
    simp only [Option.some.injEq, Prod.mk.injEq] at H
    obtain ⟨rfl, rfl⟩ := H
    go_enter Try.func27, Try.ntmps27
    go_wp2_with (first | ((with_reducible refine gate_callee (f := 15) rfl ?_); refine goesL_ (some 11) rfl rfl Try.func15 (by kernel_rfl) rfl #[.slice A0 l0.length c0] rfl (by (try simp only [List.map_toArray, List.map_cons, List.map_nil]); first | done | rfl | (simp only [List.length_drop, List.length_take]; rfl)) ?_; (with_reducible refine (impl_WaitsOk.calls _ _ l0 false _ ?side1 ?side2 A3.out).mono ?_); (case side1 => repeat (first | exact HR0.out | (with_reducible refine Kd.C_alloc ?_ _) | (with_reducible refine Kd.C_drewN ?_ _) | (with_reducible refine Kd.C_drew ?_))); (case side2 => exact HC0.out); rintro e w18 ⟨rfl, hb⟩; refine ⟨_, rfl, ?_⟩; have n0_ := Aside0.mk (below_step (by repeat (first | (with_reducible first | exact HB.out | apply below_alloc | apply pw_below_drewN | apply below_drew1) | exact HB.out)) hb); clear HB; have HB := n0_; clear n0_; (try clear hb); (try clear hb2); (try clear hk); (try clear hi)))
    go_ret2
    exact ⟨_, _, by first | rfl | (simp [errW_none, errW_some] <;> rfl) | (simp [*, errW_none, errW_some] <;> rfl), by first | exact Kd.R_nil _ _ _ _ _ | exact Kd.N_nil _ _ _ _ _ | exact Kd.V_nil _ _ _ _ _ | exact Kd.Q_nil _ _ _ _ _ | exact Kd.S_nil _ _ _ _ _, by first | exact Kd.R_nil _ _ _ _ _ | exact Kd.N_nil _ _ _ _ _ | exact Kd.V_nil _ _ _ _ _ | exact Kd.Q_nil _ _ _ _ _ | exact Kd.S_nil _ _ _ _ _, by repeat (first | (with_reducible first | exact HB.out | apply below_alloc | apply pw_below_drewN | apply below_drew1) | exact HB.out)⟩

end Go.Proofs.Ytciflbagdlkgpaa.PFnRings
