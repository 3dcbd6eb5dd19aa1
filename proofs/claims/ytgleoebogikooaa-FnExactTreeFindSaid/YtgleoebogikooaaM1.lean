/- Walks of functions of the program: what each call returns and what it leaves in memory. Conditions: those that each theorem names. -/
import Derived.Test.YtgleoebogikooaaH1
namespace Go.Proofs.Ytgleoebogikooaa.Dk
set_option linter.unusedVariables false
set_option linter.unusedSimpArgs false
open Go.Proofs.Ytgleoebogikooaa.Sx Go.Proofs Go.RowKit
set_option maxRecDepth 100000
set_option maxHeartbeats 1000000
/-- An owned row put behind another: what hangs of it goes along. -/
theorem append_own {C : Cx} {F : List HA} {α : Type} {d : Kn α} {xs ys : List α} {v : Value} {st : St} {ts tx t ty e by_ : Nat} {dst : Option Tmp} {rg' : Rg} {A : Option Addr} {c : Nat}
    (he : atB C.B C.fn.ntmps st false = some (.call { callee := .builtin .append, args := #[.tmp ts, .tmp tx], argTypes := #[t, t] }, ty, dst, rg')) (hT : rowTy C.P t = some (e, d.sz, by_))
    (hv : lk st.tm ts = some (.one (.v v))) (hx : lk st.tm tx = some (.one (.v (.slice A ys.length c)))) (h63 : xs.length + ys.length ≤ maxLen) (hbytes : (xs.length + ys.length) * by_ ≤ 140737488355328)
    (h : ∀ A c, Holds C (rowA e d (xs ++ ys) (.slice A (xs ++ ys).length c) :: F) ⟨rg', st.K, ptO st.tm dst (.one (.v (.slice A (xs ++ ys).length c))), st.lb⟩) : Holds C (rowA e d xs v :: rowA e d ys (.slice A ys.length c) :: F) st := by
  refine prim_at false he (fun L w hs => ?_)
  obtain ⟨i, z, hu, hi, _, _, _, _, _⟩ := rowTy_spec hT
  obtain ⟨S0, _, hrow⟩ := hs.at_ 1 rfl
  have ho := rowA_holds.1 hrow
  cases A with
  | none =>
    have hz : ys = [] := by
      obtain ⟨A, c', hv', _, hne, _⟩ := owRow_read ho
      cases hv'
      apply List.eq_nil_of_length_eq_zero
      apply Nat.eq_zero_of_not_pos
      intro hpos
      obtain ⟨a, ha⟩ := hne hpos
      cases ha
    subst hz
    obtain ⟨S1, _, hrow0⟩ := hs.head
    obtain ⟨B, n, hv', hle, _⟩ := rowA_holds.1 hrow0
    subst hv'
    refine ⟨.one (.v (.slice B (xs ++ []).length n)), rowA e d (xs ++ []) (.slice B (xs ++ []).length n) :: F, st.lb, w, exec_append ?_, fun hk => by (cases hk), ?_, h B n⟩
    · rw [opL_tmp hv, opL_tmp hx]
      simp only [List.append_nil]
      exact append_run0 hu hi hle
    · simpa only [List.append_nil] using (show SOK C (rowA e d xs (.slice B xs.length n) :: F) st.lb L w from (hs.bring 1 rfl).drop)
  | some a =>
    obtain ⟨css, c1, c2, c3, c4⟩ := rd_cells (owRow_read ho)
    have hfl : css.flatten.length = ys.length * d.sz := by rw [flatten_len css (fun cs hc => (c3 cs hc).1), c1]
    obtain ⟨B, n, w', hr', hs'⟩ := append_grown (ys := ys) (A := [rowA e d ys (.slice (some a) ys.length c)]) (ty := ty) (c := c) (d := d) (news := css.flatten) (t := t) (a := a) hs hT hfl (fun j u hu => c4 j u hu)
      (fun u hu => by
        obtain ⟨cs, hc, hu⟩ := List.mem_flatten.1 hu
        exact (c3 cs hc).2 u hu) (fun S hA => by
        obtain ⟨A', c', hv', hle, _, hcase⟩ := owRow_iff.1 (rowA_holds.1 (sepL_one hA))
        cases hv'
        rcases hcase with h0 | ⟨g, cells, hA', hg, hcell, hsz, hels⟩
        · have hz : ys = [] := List.eq_nil_of_length_eq_zero (by omega)
          subst hz
          exact els_nil
        · cases hA'
          refine els_mono (fun b hb => hb.1) (els_cells hels (fun k hk u hu => ?_))
          have hk' : k < css.flatten.length := by rw [hfl]; exact hk
          have h5 := c4 k _ (List.getElem?_eq_getElem hk')
          rw [add_at] at h5
          simp only [cellH, hcell, Option.isSome_none, Bool.false_eq_true, if_false, Nat.zero_add] at h5
          rw [List.getElem?_eq_getElem hk', ← h5]
          exact hu) h63 hbytes
    refine ⟨.one (.v (.slice B (xs ++ ys).length n)), _, st.lb, w', exec_append ?_, fun hk => by (cases hk), hs', h B n⟩
    rw [opL_tmp hv, opL_tmp hx]
    exact hr'
theorem one_el {α : Type} {d : Kn α} {h : Hp} {S : Nat → Prop} {x : α} {cs : List Value} (ho : d.ow h S x cs) : sepL [elA d x cs] h S := ⟨S, fun _ => False, fun _ h => h, fun _ h => h.elim, fun _ _ h => h, ho, trivial⟩
theorem take_len {α : Type} {xs : List α} {i : Nat} (h : i ≤ xs.length) : (xs.take i).length = i := by rw [List.length_take]; omega
theorem cells_row {h : Hp} {al : List En} {css : List (List Value)} {v : Value} (hr : rdRow (kCells 5) h css v) (ha : css.length = al.length) (hel : ∀ (i : Nat) x cs, al[i]? = some x → css[i]? = some cs → kEn.rd h x cs) : rdRow kEn h al v := by
  obtain ⟨A, c, e, h1, h2, h3⟩ := hr
  refine ⟨A, c, by rw [← ha]; exact e, by omega, fun hp => h2 (by omega), fun a haa i x hx => ?_⟩
  have hi : i < css.length := by rw [ha]; exact (List.getElem?_eq_some_iff.1 hx).1
  obtain ⟨cs, ⟨h4, _⟩, h5⟩ := h3 a haa i _ (List.getElem?_eq_getElem hi)
  subst h4
  exact ⟨_, hel i x _ hx (List.getElem?_eq_getElem hi), h5⟩
theorem clone_ok (ys : List Int) (vys : Value) (w : World) (hys : rdRow kU8 w.heap ys vys) (hl : ys.length ≤ 1048576) :
    Calls Try.prog 173 #[vys] w fun e w' => ∃ (B : Option Addr) (d : Nat), e = .returned (.slice B ys.length d) ∧ Fresh w w' [rowA 5 kU8 ys (.slice B ys.length d)] := by
  obtain ⟨Ays, cys, rfl⟩ := rdRow_form hys
  refine enter (args := [.one (.v (.slice Ays ys.length cys))]) Try.func173 (c := bodyOf Try.f173) rfl rfl (start_LOK _) (start_old w) ?_
  cases Ays with
  | none =>
    have h0 : ys = [] := by
      apply List.eq_nil_of_length_eq_zero
      apply Nat.eq_zero_of_not_pos
      intro hp
      obtain ⟨a, ha⟩ := rd_some hys hp
      cases ha
    subst h0
    refine go mixed 2000 [2] 0 (St.mk Rg.no [kCd (bitL 5 21), KI.code [true, true]] [(2, vS none 0 0)] []) (by kernel_rfl) (by kernel_rfl) (by kernel_rfl) ?_
    refine ret_ok (vs := [vS none 0 0]) (by kernel_rfl) ?_
    intro L w' hs
    exact ⟨none, 0, rfl, hs.out1 rowA_nil⟩
  | some a =>
    refine go mixed 2000 [5, 6] 1 (St.mk (Rg.sq (bitL 3 3) 2) [kCd (bitL 3 7)] [(5, SV.one (SC.sl 0 0 0 0)), (6, vS (some a) ys.length cys)] [LB.mk [] 5]) (by kernel_rfl) (by kernel_rfl) (by kernel_rfl) ?_
    refine export_row (d := kU8) (A := []) ([] : List Int) [] rfl rfl rfl rfl rfl rfl rfl (Nat.zero_le _) (fun _ _ _ => els_nil) (fun g => ?_)
    refine go mixed 2000 [5, 6] 0 (St.mk (Rg.sq (bitL 3 3) 2) [kCd (bitL 3 7)] [(5, vS (some (Addr.mk g 0 none)) 0 0), (6, vS (some a) ys.length cys)] []) (by kernel_rfl) (by kernel_rfl) (by kernel_rfl) ?_
    refine append_sc (by_ := 1) (e := 5) (by kernel_rfl : atB _ _ _ false = some (Op.call (Call.mk (Callee.builtin Builtin.append) #[tmpO 5, tmpO 6] #[40, 40]), 40, some 7, Rg.sq (bitL 3 3) 3)) (by kernel_rfl) rfl rfl (fun L w1 hs => rdRow_ext (hs.old 1 rfl) hys) (by simp [maxLen]; omega) (by simp; omega) ?_
    intro A c1
    refine go mixed 2000 [2] 0 (St.mk Rg.no [kCd (bitL 3 7)] [(2, vS A ([] ++ ys).length c1)] []) (by kernel_rfl) (by kernel_rfl) (by kernel_rfl) ?_
    refine ret_ok (vs := [vS A ([] ++ ys).length c1]) (by kernel_rfl) ?_
    intro L w1 hs
    exact ⟨_, _, rfl, hs.out (As := [_])⟩

theorem iOwn_ok (x : It) (csx : List Value) (w : World) (hx : kIt.rd w.heap x csx) (hl : x.t.length ≤ 1048576) :
    Calls Try.prog 144 #[.agg csx.toArray] w fun e w' => ∃ (bof : Nat) (Aot : Option Addr) (cot : Nat), e = .returned (.agg #[.int .i64 x.kind, .int .i64 x.n, .float .f64 bof, .slice Aot x.t.length cot]) ∧ Fresh w w' [rowA 5 kU8 x.t (.slice Aot x.t.length cot)] ∧ bof < 18446744073709551616 ∧ canonF bof = x.f := by
  obtain ⟨bxf, Axt, cxt, rfl, hbxf, hfxf, hrxt⟩ := kIt_inv hx
  refine enter (args := [.agg [.v (.int .i64 x.kind), .v (.int .i64 x.n), .v (.float .f64 bxf), .v (.slice Axt x.t.length cxt)]]) Try.func144 (c := bodyOf Try.f144) rfl rfl (start_LOK _) (start_old w) ?_
  refine go mixed 2000 [1, 2, 4] 2 (St.mk (Rg.sq [true, false] 2) [KI.code [true, true]] [(1, vR 0 0), (2, vR 1 0), (4, vS Axt x.t.length cxt)] [LB.mk [cI x.kind, cI x.n, cF bxf, cS Axt x.t.length cxt] 46, LB.mk [cI 0, cI 0, cF 0, cS none 0 0] 46]) (by kernel_rfl) (by kernel_rfl) (by kernel_rfl) ?_
  refine call_at true (by kernel_rfl : atC _ _ _ true = some (173, [vS Axt x.t.length cxt], some 5, Rg.sq [true, false] 3)) (by kernel_rfl) (fun L w1 hs => (Go.Proofs.Ytgleoebogikooaa.Dk.clone_ok (x.t) (Value.slice Axt x.t.length cxt) w1 (rdRow_ext (hs.old 0 rfl) hrxt) (by assumption)).mono ?_)
  rintro e_ w2_ ⟨B_1, d_1, rfl, hf_⟩
  refine ⟨.one (.v (Value.slice B_1 x.t.length d_1)), _, _, rfl, fun _ => hf_.1.block, hs.fresh hf_, ?_⟩
  clear hs hf_
  refine go mixed 2000 [2] 2 (St.mk Rg.no [kCd (bitL 3 7)] [(2, vR 1 0)] [LB.mk [cI x.kind, cI x.n, cF bxf, cS B_1 x.t.length d_1] 46, LB.mk [cI x.kind, cI x.n, cF bxf, cS B_1 x.t.length d_1] 46]) (by kernel_rfl) (by kernel_rfl) (by kernel_rfl) ?_
  refine ret_ok (vs := [SV.agg [cI x.kind, cI x.n, cF bxf, cS B_1 x.t.length d_1]]) (by kernel_rfl) ?_
  intro L w1 hs
  exact ⟨_, _, _, rfl, hs.out (As := [_]), by assumption, by assumption⟩

theorem sCopy_ok (x : It) (csx : List Value) (w : World) (hx : kIt.rd w.heap x csx) (hl : x.t.length ≤ 1048576) :
    Calls Try.prog 102 #[.agg csx.toArray] w fun e w' => ∃ (bof : Nat) (Aot : Option Addr) (cot : Nat), e = .returned (.agg #[.int .i64 x.kind, .int .i64 x.n, .float .f64 bof, .slice Aot x.t.length cot]) ∧ Fresh w w' [rowA 5 kU8 x.t (.slice Aot x.t.length cot)] ∧ bof < 18446744073709551616 ∧ canonF bof = x.f := by
  obtain ⟨bxf, Axt, cxt, rfl, hbxf, hfxf, hrxt⟩ := kIt_inv hx
  refine enter (args := [.agg [.v (.int .i64 x.kind), .v (.int .i64 x.n), .v (.float .f64 bxf), .v (.slice Axt x.t.length cxt)]]) Try.func102 (c := bodyOf Try.f102) rfl rfl (start_LOK _) (start_old w) ?_
  refine go mixed 2000 [1, 2, 3, 5] 3 (St.mk (Rg.sq [true, false] 3) [KI.code [true, true]] [(1, vR 0 0), (2, vR 1 0), (3, SV.one (SC.sl 2 0 0 0)), (5, vS Axt x.t.length cxt)] [LB.mk [cI x.kind, cI x.n, cF bxf, cS Axt x.t.length cxt] 46, LB.mk [cI 0, cI 0, cF 0, cS none 0 0] 46, LB.mk [] 5]) (by kernel_rfl) (by kernel_rfl) (by kernel_rfl) ?_
  refine append_newK (by_ := 1) (e := 5) (by kernel_rfl : atB _ _ _ true = some (Op.call (Call.mk (Callee.builtin Builtin.append) #[tmpO 3, tmpO 5] #[40, 40]), 40, some 6, Rg.sq [true, false] 4)) (by kernel_rfl) (fun L => ⟨_, rfl⟩) rfl (fun L w1 hs => rdRow_ext (hs.old 0 rfl) hrxt) (by simp [maxLen]; omega) (by omega) ?_
  intro A1 c1
  refine go mixed 2000 [2] 2 (St.mk Rg.no [kCd (bitL 3 7)] [(2, vR 1 0)] [LB.mk [cI x.kind, cI x.n, cF bxf, cS A1 x.t.length c1] 46, LB.mk [cI x.kind, cI x.n, cF bxf, cS A1 x.t.length c1] 46]) (by kernel_rfl) (by kernel_rfl) (by kernel_rfl) ?_
  refine ret_ok (vs := [SV.agg [cI x.kind, cI x.n, cF bxf, cS A1 x.t.length c1]]) (by kernel_rfl) ?_
  intro L w1 hs
  exact ⟨_, _, _, rfl, hs.out (As := [_]), by assumption, by assumption⟩

theorem iOwnEs_ok (xs : List En) (vxs : Value) (w : World) (hxs : rdRow kEn w.heap xs vxs) (hl : xs.length ≤ 1048576) (hk : ∀ x ∈ xs, x.key.t.length ≤ 1048576) :
    Calls Try.prog 103 #[vxs] w fun e w' => ∃ (B : Option Addr) (d : Nat), e = .returned (.slice B xs.length d) ∧ Fresh w w' [rowA 101 kEn xs (.slice B xs.length d)] := by
  obtain ⟨Axs, cxs, rfl⟩ := rdRow_form hxs
  refine enter (args := [.one (.v (.slice Axs xs.length cxs))]) Try.func103 (c := bodyOf Try.f103) rfl rfl (start_LOK _) (start_old w) ?_
  have sd_1 : ∀ (j : Nat) (h : j < xs.length), xs[j].key.t.length ≤ 1048576 := fun j h => hk _ (List.getElem_mem h)
  refine h_nil 101 kEn ?_
  refine go mixed 2000 [3, 6, 7, 8] 0 (St.mk Rg.no [kLp (bitL 6 59), KI.block 0, kCd (bitL 3 7)] [(3, vS none 0 0), (6, vS Axs xs.length cxs), (7, vI (↑xs.length : Int)), (8, vI 0)] []) (by kernel_rfl) (by kernel_rfl) (by kernel_rfl) ?_
  refine loop_at (ι := Nat × Option Addr × Nat) (fun s => [(8, .one (.v (.int .i64 s.1))), (3, .one (.v (.slice s.2.1 s.1 s.2.2)))]) (fun _ => []) (fun s => [rowA 101 kEn (xs.take s.1) (.slice s.2.1 s.1 s.2.2), oldA w]) (fun s => s.1 ≤ xs.length) (fun s => xs.length - s.1) (0, none, 0) rfl rfl rfl (Nat.zero_le _) ?_
  rintro ⟨i, B, d⟩ hi ih
  simp only at hi ih ⊢
  rcases Nat.lt_or_ge i xs.length with hlt | hge
  · refine go mixed 2000 [3, 6, 7, 8, 9] 0 (St.mk Rg.no [kCd (bitL 8 123), kCd (bitL 8 251), kLp (bitL 6 59), KI.block 0, kCd (bitL 3 7)] [(3, vS B i d), (6, vS Axs xs.length cxs), (7, vI (↑xs.length : Int)), (8, vI (↑i : Int)), (9, vB (decide ((↑i : Int) < (↑xs.length : Int))))] []) (by kernel_rfl) (by kernel_rfl) (by kernel_rfl) ?_
    refine split_at 9 (b := decide ((↑i : Int) < (↑xs.length : Int))) (by kernel_rfl) (by kernel_rfl) ?_ ?_
    rotate_left
    · intro hb1
      replace hb1 := of_decide_eq_false hb1
      (exfalso; omega)
    intro hb1
    replace hb1 := of_decide_eq_true hb1
    refine go mixed 2000 [3, 6, 7, 8] 0 (St.mk (Rg.sq (bitL 11 763) 0) [kCd (bitL 11 1787), KI.block 1, kCd (bitL 9 507), kLp (bitL 6 59), KI.block 0, kCd (bitL 3 7)] [(3, vS B i d), (6, vS Axs xs.length cxs), (7, vI (↑xs.length : Int)), (8, vI (↑i : Int))] []) (by kernel_rfl) (by kernel_rfl) (by kernel_rfl) ?_
    refine index_at 0 (by kernel_rfl : atP _ _ _ 0 false = some (Op.indexAddr 34 (tmpO 6) (tmpO 8), 0, some 10, Rg.sq (bitL 11 763) 1)) (ni := i) (sz := 5) (by kernel_rfl) rfl rfl rfl (by assumption) (fun L w1 hs => rd_some (i := i) (rdRow_ext (hs.old 1 rfl) hxs) (by assumption)) ?_
    intro a_1 ha_1
    cases ha_1
    refine go mixed 2000 [3, 6, 7, 8, 10] 0 (St.mk (Rg.sq (bitL 11 763) 1) [kCd (bitL 11 1787), KI.block 1, kCd (bitL 9 507), kLp (bitL 6 59), KI.block 0, kCd (bitL 3 7)] [(3, vS B i d), (6, vS (some a_1) xs.length cxs), (7, vI (↑xs.length : Int)), (8, vI (↑i : Int)), (10, vP (a_1.add (i * 5)))] []) (by kernel_rfl) (by kernel_rfl) (by kernel_rfl) ?_
    obtain ⟨bkey_f_el1, Akey_t_el1, ckey_t_el1, hr1_el1, hr2_el1, hr3_el1, hc_el1⟩ := Go.Proofs.Ytgleoebogikooaa.Dk.kEn_at (i := i) hxs (by assumption)
    refine load_agg 1 (by kernel_rfl : atP _ _ _ 1 true = some (Op.load 101 (tmpO 10), 101, some 11, Rg.sq (bitL 11 763) 2)) (n := 5) (by kernel_rfl) rfl ?_
    intro L w1 hs
    refine ⟨[.v (Value.int IntKind.i64 xs[i].key.kind), .v (Value.int IntKind.i64 xs[i].key.n), .v (Value.float FloatKind.f64 bkey_f_el1), .v (Value.slice Akey_t_el1 xs[i].key.t.length ckey_t_el1), .v (Value.int IntKind.i64 xs[i].id)], rfl, cells_at0 (cellsH_ext (hs.old 1 rfl) hc_el1) rfl, ?_⟩
    clear hs
    refine go mixed 2000 [6, 7, 8, 12, 14, 17] 0 (St.mk (Rg.dr (bitL 11 1787) (bitL 10 55) 5 2) [KI.block 1, kCd (bitL 9 507), kLp (bitL 6 59), KI.block 0, kCd (bitL 3 7)] [(6, vS (some a_1) xs.length cxs), (7, vI (↑xs.length : Int)), (8, vI (↑i : Int)), (12, vS B i d), (14, SV.agg [cI xs[i].key.kind, cI xs[i].key.n, cF bkey_f_el1, cS Akey_t_el1 xs[i].key.t.length ckey_t_el1]), (17, vI xs[i].id)] []) (by kernel_rfl) (by kernel_rfl) (by kernel_rfl) ?_
    refine call_at true (by kernel_rfl : atC _ _ _ true = some (144, [SV.agg [cI xs[i].key.kind, cI xs[i].key.n, cF bkey_f_el1, cS Akey_t_el1 xs[i].key.t.length ckey_t_el1]], some 15, Rg.dr (bitL 11 1787) (bitL 10 63) 4 10)) (by kernel_rfl) (fun L w1 hs => (Go.Proofs.Ytgleoebogikooaa.Dk.iOwn_ok (xs[i].key) ([Value.int IntKind.i64 xs[i].key.kind, Value.int IntKind.i64 xs[i].key.n, Value.float FloatKind.f64 bkey_f_el1, Value.slice Akey_t_el1 xs[i].key.t.length ckey_t_el1]) w1 (Go.Proofs.Ytgleoebogikooaa.Dk.kIt_mk (by assumption) hr2_el1 (rdRow_ext (hs.old 1 rfl) hr3_el1)) (by exact sd_1 _ _)).mono ?_)
    rintro e_ w2_ ⟨bof_1, Aot_1, cot_1, rfl, hf_, hq1, hq2⟩
    refine ⟨.agg [.v (Value.int IntKind.i64 xs[i].key.kind), .v (Value.int IntKind.i64 xs[i].key.n), .v (Value.float FloatKind.f64 bof_1), .v (Value.slice Aot_1 xs[i].key.t.length cot_1)], _, _, rfl, fun _ => hf_.1.block, hs.fresh hf_, ?_⟩
    clear hs hf_
    refine go mixed 2000 [6, 7, 8, 12, 19] 1 (St.mk (Rg.dr (bitL 11 1787) (bitL 10 255) 2 10) [KI.block 1, kCd (bitL 9 507), kLp (bitL 6 59), KI.block 0, kCd (bitL 3 7)] [(6, vS (some a_1) xs.length cxs), (7, vI (↑xs.length : Int)), (8, vI (↑i : Int)), (12, vS B i d), (19, SV.one (SC.sl 0 0 1 1))] [LB.mk [cI xs[i].key.kind, cI xs[i].key.n, cF bof_1, cS Aot_1 xs[i].key.t.length cot_1, cI xs[i].id] 101]) (by kernel_rfl) (by kernel_rfl) (by kernel_rfl) ?_
    refine h_turn (A := [_]) (B := [elA kEn xs[i] [.int .i64 xs[i].key.kind, .int .i64 xs[i].key.n, .float .f64 bof_1, .slice Aot_1 xs[i].key.t.length cot_1, .int .i64 xs[i].id]]) (fun h S ho => one_el (kEn_own (by assumption) (by assumption) ho)) ?_
    refine h_swap ?_
    have e1 := take_len hi
    refine append_lit (d := kEn) (by_ := 56) (by kernel_rfl : atB _ _ _ false = some (Op.call (Call.mk (Callee.builtin Builtin.append) #[tmpO 12, tmpO 19] #[34, 34]), 34, some 20, Rg.dr (bitL 11 1787) (bitL 10 511) 1 0)) (by kernel_rfl) rfl rfl rfl rfl (by simp only [maxLen]; omega) (by omega) ?_
    intro B' d'
    rw [← List.take_succ_eq_append_getElem hlt, take_len hlt]
    refine go mixed 2000 [3, 6, 7, 8] 0 (St.mk Rg.no [kLp (bitL 6 59), KI.block 0, kCd (bitL 3 7)] [(3, vS B' i.succ d'), (6, vS (some a_1) xs.length cxs), (7, vI (↑xs.length : Int)), (8, vI (IntKind.i64.wrap ((↑i : Int) + 1)))] []) (by kernel_rfl) (by kernel_rfl) (by kernel_rfl) ?_
    rw [wrap_succ (by omega)]
    exact ih (i + 1, B', d') hlt (by simp only; omega)
  · obtain rfl : i = xs.length := by omega
    rw [List.take_length]
    refine go mixed 2000 [3, 6, 7, 8, 9] 0 (St.mk Rg.no [kCd (bitL 8 123), kCd (bitL 8 251), kLp (bitL 6 59), KI.block 0, kCd (bitL 3 7)] [(3, vS B xs.length d), (6, vS Axs xs.length cxs), (7, vI (↑xs.length : Int)), (8, vI (↑xs.length : Int)), (9, vB (decide ((↑xs.length : Int) < (↑xs.length : Int))))] []) (by kernel_rfl) (by kernel_rfl) (by kernel_rfl) ?_
    refine split_at 9 (b := decide ((↑xs.length : Int) < (↑xs.length : Int))) (by kernel_rfl) (by kernel_rfl) ?_ ?_
    · intro hb1
      replace hb1 := of_decide_eq_true hb1
      (exfalso; omega)
    · intro hb1
      replace hb1 := of_decide_eq_false hb1
      refine go mixed 2000 [2] 0 (St.mk Rg.no [kCd (bitL 4 15)] [(2, vS B xs.length d)] []) (by kernel_rfl) (by kernel_rfl) (by kernel_rfl) ?_
      refine ret_ok (vs := [vS B xs.length d]) (by kernel_rfl) ?_
      intro L w1 hs
      exact ⟨_, _, rfl, hs.out (As := [_])⟩

theorem sCopyEs_ok (xs : List En) (vxs : Value) (w : World) (hxs : rdRow kEn w.heap xs vxs) (hl : xs.length ≤ 1048576) (hk : ∀ x ∈ xs, x.key.t.length ≤ 1048576) :
    Calls Try.prog 58 #[vxs] w fun e w' => ∃ (B : Option Addr) (d : Nat), e = .returned (.slice B xs.length d) ∧ Fresh w w' [rowA 101 kEn xs (.slice B xs.length d)] := by
  obtain ⟨Axs, cxs, rfl⟩ := rdRow_form hxs
  refine enter (args := [.one (.v (.slice Axs xs.length cxs))]) Try.func58 (c := bodyOf Try.f58) rfl rfl (start_LOK _) (start_old w) ?_
  have sd_1 : ∀ (j : Nat) (h : j < xs.length), xs[j].key.t.length ≤ 1048576 := fun j h => hk _ (List.getElem_mem h)
  refine h_nil 101 kEn ?_
  refine go mixed 2000 [0, 3, 4] 0 (St.mk Rg.no [kLp (bitL 6 59), KI.block 0, kCd (bitL 3 7)] [(0, vS Axs xs.length cxs), (3, vS none 0 0), (4, vI 0)] []) (by kernel_rfl) (by kernel_rfl) (by kernel_rfl) ?_
  refine loop_at (ι := Nat × Option Addr × Nat) (fun s => [(4, .one (.v (.int .i64 s.1))), (3, .one (.v (.slice s.2.1 s.1 s.2.2)))]) (fun _ => []) (fun s => [rowA 101 kEn (xs.take s.1) (.slice s.2.1 s.1 s.2.2), oldA w]) (fun s => s.1 ≤ xs.length) (fun s => xs.length - s.1) (0, none, 0) rfl rfl rfl (Nat.zero_le _) ?_
  rintro ⟨i, B, d⟩ hi ih
  simp only at hi ih ⊢
  rcases Nat.lt_or_ge i xs.length with hlt | hge
  · refine go mixed 2000 [0, 3, 4, 8] 0 (St.mk Rg.no [kCd (bitL 8 187), kCd (bitL 7 123), kLp (bitL 6 59), KI.block 0, kCd (bitL 3 7)] [(0, vS Axs xs.length cxs), (3, vS B i d), (4, vI (↑i : Int)), (8, vB (decide ((↑i : Int) < (↑xs.length : Int))))] []) (by kernel_rfl) (by kernel_rfl) (by kernel_rfl) ?_
    refine split_at 8 (b := decide ((↑i : Int) < (↑xs.length : Int))) (by kernel_rfl) (by kernel_rfl) ?_ ?_
    rotate_left
    · intro hb1
      replace hb1 := of_decide_eq_false hb1
      (exfalso; omega)
    intro hb1
    replace hb1 := of_decide_eq_true hb1
    refine go mixed 2000 [0, 4, 11, 12, 13, 18, 19] 0 (St.mk (Rg.dr (bitL 9 379) (bitL 16 391) 11 2) [KI.block 1, kCd (bitL 8 251), kLp (bitL 6 59), KI.block 0, kCd (bitL 3 7)] [(0, vS Axs xs.length cxs), (4, vI (↑i : Int)), (11, vS B i d), (12, vS Axs xs.length cxs), (13, vI (↑i : Int)), (18, vS Axs xs.length cxs), (19, vI (↑i : Int))] []) (by kernel_rfl) (by kernel_rfl) (by kernel_rfl) ?_
    refine index_at 3 (by kernel_rfl : atP _ _ _ 3 false = some (Op.indexAddr 34 (tmpO 12) (tmpO 13), 0, some 14, Rg.dr (bitL 9 379) (bitL 16 399) 10 2)) (ni := i) (sz := 5) (by kernel_rfl) rfl rfl rfl (by assumption) (fun L w1 hs => rd_some (i := i) (rdRow_ext (hs.old 1 rfl) hxs) (by assumption)) ?_
    intro a_1 ha_1
    cases ha_1
    refine go mixed 2000 [0, 4, 11, 15, 18, 19] 0 (St.mk (Rg.dr (bitL 9 379) (bitL 16 415) 9 2) [KI.block 1, kCd (bitL 8 251), kLp (bitL 6 59), KI.block 0, kCd (bitL 3 7)] [(0, vS (some a_1) xs.length cxs), (4, vI (↑i : Int)), (11, vS B i d), (15, vP ((a_1.add (i * 5)).add 0)), (18, vS (some a_1) xs.length cxs), (19, vI (↑i : Int))] []) (by kernel_rfl) (by kernel_rfl) (by kernel_rfl) ?_
    refine index_at 9 (by kernel_rfl : atP _ _ _ 9 false = some (Op.indexAddr 34 (tmpO 18) (tmpO 19), 0, some 20, Rg.dr (bitL 9 379) (bitL 16 927) 8 2)) (ni := i) (sz := 5) (by kernel_rfl) rfl rfl rfl (by assumption) (fun L w1 hs => rd_some (i := i) (rdRow_ext (hs.old 1 rfl) hxs) (by assumption)) ?_
    intro a_2 ha_2
    cases ha_2
    refine go mixed 2000 [0, 4, 11, 15, 21] 0 (St.mk (Rg.dr (bitL 9 379) (bitL 16 1951) 7 2) [KI.block 1, kCd (bitL 8 251), kLp (bitL 6 59), KI.block 0, kCd (bitL 3 7)] [(0, vS (some a_1) xs.length cxs), (4, vI (↑i : Int)), (11, vS B i d), (15, vP ((a_1.add (i * 5)).add 0)), (21, vP ((a_1.add (i * 5)).add 4))] []) (by kernel_rfl) (by kernel_rfl) (by kernel_rfl) ?_
    obtain ⟨bkey_f_el1, Akey_t_el1, ckey_t_el1, hr1_el1, hr2_el1, hr3_el1, hc_el1⟩ := Go.Proofs.Ytgleoebogikooaa.Dk.kEn_at (i := i) hxs (by assumption)
    refine load_agg 5 (by kernel_rfl : atP _ _ _ 5 true = some (Op.load 46 (tmpO 15), 46, some 16, Rg.dr (bitL 9 379) (bitL 16 1983) 6 2)) (n := 4) (by kernel_rfl) rfl ?_
    intro L w1 hs
    refine ⟨[.v (Value.int IntKind.i64 xs[i].key.kind), .v (Value.int IntKind.i64 xs[i].key.n), .v (Value.float FloatKind.f64 bkey_f_el1), .v (Value.slice Akey_t_el1 xs[i].key.t.length ckey_t_el1)], rfl, cells_at 0 (cellsH_ext (hs.old 1 rfl) hc_el1) rfl, ?_⟩
    clear hs
    refine go mixed 2000 [0, 4, 11, 16, 21] 0 (St.mk (Rg.dr (bitL 9 379) (bitL 16 1983) 6 2) [KI.block 1, kCd (bitL 8 251), kLp (bitL 6 59), KI.block 0, kCd (bitL 3 7)] [(0, vS (some a_1) xs.length cxs), (4, vI (↑i : Int)), (11, vS B i d), (16, SV.agg [cI xs[i].key.kind, cI xs[i].key.n, cF bkey_f_el1, cS Akey_t_el1 xs[i].key.t.length ckey_t_el1]), (21, vP ((a_1.add (i * 5)).add 4))] []) (by kernel_rfl) (by kernel_rfl) (by kernel_rfl) ?_
    obtain ⟨bkey_f_el2, Akey_t_el2, ckey_t_el2, hr1_el2, hr2_el2, hr3_el2, hc_el2⟩ := Go.Proofs.Ytgleoebogikooaa.Dk.kEn_at (i := i) hxs (by assumption)
    refine load_one 11 (by kernel_rfl : atP _ _ _ 11 true = some (Op.load 3 (tmpO 21), 3, some 22, Rg.dr (bitL 9 379) (bitL 16 4031) 5 2)) (n := 1) (by kernel_rfl) rfl ?_
    intro L w1 hs
    refine ⟨.v (Value.int IntKind.i64 xs[i].id), cell_at 4 (cellsH_ext (hs.old 1 rfl) hc_el2) rfl, ?_⟩
    clear hs
    refine go mixed 2000 [0, 4, 11, 16, 22] 0 (St.mk (Rg.dr (bitL 9 379) (bitL 16 4031) 5 2) [KI.block 1, kCd (bitL 8 251), kLp (bitL 6 59), KI.block 0, kCd (bitL 3 7)] [(0, vS (some a_1) xs.length cxs), (4, vI (↑i : Int)), (11, vS B i d), (16, SV.agg [cI xs[i].key.kind, cI xs[i].key.n, cF bkey_f_el1, cS Akey_t_el1 xs[i].key.t.length ckey_t_el1]), (22, vI xs[i].id)] []) (by kernel_rfl) (by kernel_rfl) (by kernel_rfl) ?_
    refine call_at true (by kernel_rfl : atC _ _ _ true = some (102, [SV.agg [cI xs[i].key.kind, cI xs[i].key.n, cF bkey_f_el1, cS Akey_t_el1 xs[i].key.t.length ckey_t_el1]], some 17, Rg.dr (bitL 9 379) (bitL 16 4095) 4 10)) (by kernel_rfl) (fun L w1 hs => (Go.Proofs.Ytgleoebogikooaa.Dk.sCopy_ok (xs[i].key) ([Value.int IntKind.i64 xs[i].key.kind, Value.int IntKind.i64 xs[i].key.n, Value.float FloatKind.f64 bkey_f_el1, Value.slice Akey_t_el1 xs[i].key.t.length ckey_t_el1]) w1 (Go.Proofs.Ytgleoebogikooaa.Dk.kIt_mk (by assumption) hr2_el1 (rdRow_ext (hs.old 1 rfl) hr3_el1)) (by exact sd_1 _ _)).mono ?_)
    rintro e_ w2_ ⟨bof_1, Aot_1, cot_1, rfl, hf_, hq1, hq2⟩
    refine ⟨.agg [.v (Value.int IntKind.i64 xs[i].key.kind), .v (Value.int IntKind.i64 xs[i].key.n), .v (Value.float FloatKind.f64 bof_1), .v (Value.slice Aot_1 xs[i].key.t.length cot_1)], _, _, rfl, fun _ => hf_.1.block, hs.fresh hf_, ?_⟩
    clear hs hf_
    refine go mixed 2000 [0, 4, 11, 24] 1 (St.mk (Rg.dr (bitL 9 379) (bitL 16 16383) 2 10) [KI.block 1, kCd (bitL 8 251), kLp (bitL 6 59), KI.block 0, kCd (bitL 3 7)] [(0, vS (some a_1) xs.length cxs), (4, vI (↑i : Int)), (11, vS B i d), (24, SV.one (SC.sl 0 0 1 1))] [LB.mk [cI xs[i].key.kind, cI xs[i].key.n, cF bof_1, cS Aot_1 xs[i].key.t.length cot_1, cI xs[i].id] 101]) (by kernel_rfl) (by kernel_rfl) (by kernel_rfl) ?_
    refine h_turn (A := [_]) (B := [elA kEn xs[i] [.int .i64 xs[i].key.kind, .int .i64 xs[i].key.n, .float .f64 bof_1, .slice Aot_1 xs[i].key.t.length cot_1, .int .i64 xs[i].id]]) (fun h S ho => one_el (kEn_own (by assumption) (by assumption) ho)) ?_
    refine h_swap ?_
    have e1 := take_len hi
    refine append_lit (d := kEn) (by_ := 56) (by kernel_rfl : atB _ _ _ false = some (Op.call (Call.mk (Callee.builtin Builtin.append) #[tmpO 11, tmpO 24] #[34, 34]), 34, some 25, Rg.dr (bitL 9 379) (bitL 16 32767) 1 0)) (by kernel_rfl) rfl rfl rfl rfl (by simp only [maxLen]; omega) (by omega) ?_
    intro B' d'
    rw [← List.take_succ_eq_append_getElem hlt, take_len hlt]
    refine go mixed 2000 [0, 3, 4] 0 (St.mk Rg.no [kLp (bitL 6 59), KI.block 0, kCd (bitL 3 7)] [(0, vS (some a_1) xs.length cxs), (3, vS B' i.succ d'), (4, vI (IntKind.i64.wrap ((↑i : Int) + 1)))] []) (by kernel_rfl) (by kernel_rfl) (by kernel_rfl) ?_
    rw [wrap_succ (by omega)]
    exact ih (i + 1, B', d') hlt (by simp only; omega)
  · obtain rfl : i = xs.length := by omega
    rw [List.take_length]
    refine go mixed 2000 [0, 3, 4, 8] 0 (St.mk Rg.no [kCd (bitL 8 187), kCd (bitL 7 123), kLp (bitL 6 59), KI.block 0, kCd (bitL 3 7)] [(0, vS Axs xs.length cxs), (3, vS B xs.length d), (4, vI (↑xs.length : Int)), (8, vB (decide ((↑xs.length : Int) < (↑xs.length : Int))))] []) (by kernel_rfl) (by kernel_rfl) (by kernel_rfl) ?_
    refine split_at 8 (b := decide ((↑xs.length : Int) < (↑xs.length : Int))) (by kernel_rfl) (by kernel_rfl) ?_ ?_
    · intro hb1
      replace hb1 := of_decide_eq_true hb1
      (exfalso; omega)
    · intro hb1
      replace hb1 := of_decide_eq_false hb1
      refine go mixed 2000 [2] 0 (St.mk Rg.no [kCd (bitL 4 15)] [(2, vS B xs.length d)] []) (by kernel_rfl) (by kernel_rfl) (by kernel_rfl) ?_
      refine ret_ok (vs := [vS B xs.length d]) (by kernel_rfl) ?_
      intro L w1 hs
      exact ⟨_, _, rfl, hs.out (As := [_])⟩

end Go.Proofs.Ytgleoebogikooaa.Dk
