/- Walks of functions of the program: what each call returns and what it leaves in memory. Conditions: those that each theorem names. -/
import Derived.Test.YtgleoebogikooaaM5
namespace Go.Proofs.Ytgleoebogikooaa.Dk
set_option linter.unusedVariables false
set_option linter.unusedSimpArgs false
open Go.Proofs.Ytgleoebogikooaa.Sx Go.Proofs Go.RowKit
set_option maxRecDepth 100000
set_option maxHeartbeats 1000000
theorem eqEntryS2_ok (xs : List En) (v1 v2 : Value) (w : World) (h1 : rdRow kEn w.heap xs v1) (h2 : rdRow kEn w.heap xs v2) (hzl : xs.length ≤ 1048576) (hz : ∀ x ∈ xs, x.key.t.length ≤ 1048576) :
    Calls Try.prog 21 #[v1, v2] w fun e w' => e = .returned (.bool true) ∧ Below w.heap.size w w' := by
  obtain ⟨A1, c1, rfl⟩ := rdRow_form h1
  obtain ⟨A2, c2, rfl⟩ := rdRow_form h2
  have sd_1 : ∀ (j : Nat) (h : j < xs.length), zEn xs[j] ≤ 1048576 := fun j h => hz _ (List.getElem_mem h)
  refine enter (args := [.one (.v (.slice A1 xs.length c1)), .one (.v (.slice A2 xs.length c2))]) Try.func21 (c := bodyOf Try.f21) rfl rfl (start_LOK _) (start_old w) ?_
  refine go mixed 2000 [0, 1, 10] 0 (St.mk Rg.no [kCd (bitL 3 5), KI.code [true, true]] [(0, vS A1 xs.length c1), (1, vS A2 xs.length c2), (10, vB ((↑xs.length : Int) != (↑xs.length : Int)))] []) (by kernel_rfl) (by kernel_rfl) (by kernel_rfl) ?_
  refine split_at 10 (b := (↑xs.length : Int) != (↑xs.length : Int)) (by kernel_rfl) (by kernel_rfl) ?_ ?_
  · intro hb1
    replace hb1 := bne_iff_ne.1 hb1
    (exfalso; omega)
  intro hb1
  replace hb1 := bne_eq_false_iff_eq.1 hb1
  refine go mixed 2000 [0, 1, 5] 0 (St.mk Rg.no [kLp (bitL 6 59), KI.block 0, kCd (bitL 3 7)] [(0, vS A1 xs.length c1), (1, vS A2 xs.length c2), (5, vI 0)] []) (by kernel_rfl) (by kernel_rfl) (by kernel_rfl) ?_
  refine loop_at (ι := Nat) (fun i => [(5, .one (.v (.int .i64 i)))]) (fun _ => []) (fun i => [oldA w]) (fun i => i ≤ xs.length) (fun i => xs.length - i) 0 rfl rfl rfl (Nat.zero_le _) ?_
  intro i hi ih
  refine go mixed 2000 [0, 1, 5, 14] 0 (St.mk Rg.no [kCd (bitL 8 187), kCd (bitL 7 123), kLp (bitL 6 59), KI.block 0, kCd (bitL 3 7)] [(0, vS A1 xs.length c1), (1, vS A2 xs.length c2), (5, vI (↑i : Int)), (14, vB (decide ((↑i : Int) < (↑xs.length : Int))))] []) (by kernel_rfl) (by kernel_rfl) (by kernel_rfl) ?_
  refine split_at 14 (b := decide ((↑i : Int) < (↑xs.length : Int))) (by kernel_rfl) (by kernel_rfl) ?_ ?_
  · intro hb2
    replace hb2 := of_decide_eq_true hb2
    refine go mixed 2000 [0, 1, 5, 17, 18, 21, 22] 0 (St.mk (Rg.dr (bitL 10 379) (bitL 10 51) 6 2) [kCd (bitL 10 891), KI.block 1, kCd (bitL 8 251), kLp (bitL 6 59), KI.block 0, kCd (bitL 3 7)] [(0, vS A1 xs.length c1), (1, vS A2 xs.length c2), (5, vI (↑i : Int)), (17, vS A1 xs.length c1), (18, vI (↑i : Int)), (21, vS A2 xs.length c2), (22, vI (↑i : Int))] []) (by kernel_rfl) (by kernel_rfl) (by kernel_rfl) ?_
    refine index_at 2 (by kernel_rfl : atP _ _ _ 2 false = some (Op.indexAddr 34 (tmpO 17) (tmpO 18), 0, some 19, Rg.dr (bitL 10 379) (bitL 10 55) 5 2)) (ni := i) (sz := 5) (by kernel_rfl) rfl rfl rfl (by omega) (fun L w1 hs => rd_some (i := i) (rdRow_ext (hs.old 0 rfl) h1) (by omega)) ?_
    intro a_1 ha_1
    cases ha_1
    refine go mixed 2000 [0, 1, 5, 19, 21, 22] 0 (St.mk (Rg.dr (bitL 10 379) (bitL 10 55) 5 2) [kCd (bitL 10 891), KI.block 1, kCd (bitL 8 251), kLp (bitL 6 59), KI.block 0, kCd (bitL 3 7)] [(0, vS (some a_1) xs.length c1), (1, vS A2 xs.length c2), (5, vI (↑i : Int)), (19, vP (a_1.add (i * 5))), (21, vS A2 xs.length c2), (22, vI (↑i : Int))] []) (by kernel_rfl) (by kernel_rfl) (by kernel_rfl) ?_
    refine index_at 6 (by kernel_rfl : atP _ _ _ 6 false = some (Op.indexAddr 34 (tmpO 21) (tmpO 22), 0, some 23, Rg.dr (bitL 10 379) (bitL 10 119) 4 2)) (ni := i) (sz := 5) (by kernel_rfl) rfl rfl rfl (by omega) (fun L w1 hs => rd_some (i := i) (rdRow_ext (hs.old 0 rfl) h2) (by omega)) ?_
    intro a_2 ha_2
    cases ha_2
    refine go mixed 2000 [0, 1, 5, 19, 23] 0 (St.mk (Rg.dr (bitL 10 379) (bitL 10 119) 4 2) [kCd (bitL 10 891), KI.block 1, kCd (bitL 8 251), kLp (bitL 6 59), KI.block 0, kCd (bitL 3 7)] [(0, vS (some a_1) xs.length c1), (1, vS (some a_2) xs.length c2), (5, vI (↑i : Int)), (19, vP (a_1.add (i * 5))), (23, vP (a_2.add (i * 5)))] []) (by kernel_rfl) (by kernel_rfl) (by kernel_rfl) ?_
    obtain ⟨bkey_f_el1, Akey_t_el1, ckey_t_el1, hr1_el1, hr2_el1, hr3_el1, hc_el1⟩ := Go.Proofs.Ytgleoebogikooaa.Dk.kEn_at (i := i) h1 (by omega)
    refine load_agg 3 (by kernel_rfl : atP _ _ _ 3 true = some (Op.load 101 (tmpO 19), 101, some 20, Rg.dr (bitL 10 379) (bitL 10 127) 3 2)) (n := 5) (by kernel_rfl) rfl ?_
    intro L w1 hs
    refine ⟨[.v (Value.int IntKind.i64 xs[i].key.kind), .v (Value.int IntKind.i64 xs[i].key.n), .v (Value.float FloatKind.f64 bkey_f_el1), .v (Value.slice Akey_t_el1 xs[i].key.t.length ckey_t_el1), .v (Value.int IntKind.i64 xs[i].id)], rfl, cells_at0 (cellsH_ext (hs.old 0 rfl) hc_el1) rfl, ?_⟩
    clear hs
    refine go mixed 2000 [0, 1, 5, 20, 23] 0 (St.mk (Rg.dr (bitL 10 379) (bitL 10 127) 3 2) [kCd (bitL 10 891), KI.block 1, kCd (bitL 8 251), kLp (bitL 6 59), KI.block 0, kCd (bitL 3 7)] [(0, vS (some a_1) xs.length c1), (1, vS (some a_2) xs.length c2), (5, vI (↑i : Int)), (20, SV.agg [cI xs[i].key.kind, cI xs[i].key.n, cF bkey_f_el1, cS Akey_t_el1 xs[i].key.t.length ckey_t_el1, cI xs[i].id]), (23, vP (a_2.add (i * 5)))] []) (by kernel_rfl) (by kernel_rfl) (by kernel_rfl) ?_
    obtain ⟨bkey_f_el2, Akey_t_el2, ckey_t_el2, hr1_el2, hr2_el2, hr3_el2, hc_el2⟩ := Go.Proofs.Ytgleoebogikooaa.Dk.kEn_at (i := i) h2 (by omega)
    refine load_agg 7 (by kernel_rfl : atP _ _ _ 7 true = some (Op.load 101 (tmpO 23), 101, some 24, Rg.dr (bitL 10 379) (bitL 10 255) 2 2)) (n := 5) (by kernel_rfl) rfl ?_
    intro L w1 hs
    refine ⟨[.v (Value.int IntKind.i64 xs[i].key.kind), .v (Value.int IntKind.i64 xs[i].key.n), .v (Value.float FloatKind.f64 bkey_f_el2), .v (Value.slice Akey_t_el2 xs[i].key.t.length ckey_t_el2), .v (Value.int IntKind.i64 xs[i].id)], rfl, cells_at0 (cellsH_ext (hs.old 0 rfl) hc_el2) rfl, ?_⟩
    clear hs
    refine go mixed 2000 [0, 1, 5, 20, 24] 0 (St.mk (Rg.dr (bitL 10 379) (bitL 10 255) 2 2) [kCd (bitL 10 891), KI.block 1, kCd (bitL 8 251), kLp (bitL 6 59), KI.block 0, kCd (bitL 3 7)] [(0, vS (some a_1) xs.length c1), (1, vS (some a_2) xs.length c2), (5, vI (↑i : Int)), (20, SV.agg [cI xs[i].key.kind, cI xs[i].key.n, cF bkey_f_el1, cS Akey_t_el1 xs[i].key.t.length ckey_t_el1, cI xs[i].id]), (24, SV.agg [cI xs[i].key.kind, cI xs[i].key.n, cF bkey_f_el2, cS Akey_t_el2 xs[i].key.t.length ckey_t_el2, cI xs[i].id])] []) (by kernel_rfl) (by kernel_rfl) (by kernel_rfl) ?_
    refine call_pure true (by kernel_rfl : atC _ _ _ true = some (60, [SV.agg [cI xs[i].key.kind, cI xs[i].key.n, cF bkey_f_el1, cS Akey_t_el1 xs[i].key.t.length ckey_t_el1, cI xs[i].id], SV.agg [cI xs[i].key.kind, cI xs[i].key.n, cF bkey_f_el2, cS Akey_t_el2 xs[i].key.t.length ckey_t_el2, cI xs[i].id]], some 25, Rg.dr (bitL 10 379) (bitL 10 511) 1 10)) (by kernel_rfl) (.one (.bo (true))) (fun L w1 hs => (Go.Proofs.Ytgleoebogikooaa.Dk.eqEntry_ok (xs[i]) ([Value.int IntKind.i64 xs[i].key.kind, Value.int IntKind.i64 xs[i].key.n, Value.float FloatKind.f64 bkey_f_el1, Value.slice Akey_t_el1 xs[i].key.t.length ckey_t_el1, Value.int IntKind.i64 xs[i].id]) ([Value.int IntKind.i64 xs[i].key.kind, Value.int IntKind.i64 xs[i].key.n, Value.float FloatKind.f64 bkey_f_el2, Value.slice Akey_t_el2 xs[i].key.t.length ckey_t_el2, Value.int IntKind.i64 xs[i].id]) w1 (Go.Proofs.Ytgleoebogikooaa.Dk.kEn_mk (by assumption) hr2_el1 (rdRow_ext (hs.old 0 rfl) hr3_el1)) (Go.Proofs.Ytgleoebogikooaa.Dk.kEn_mk (by assumption) (by assumption) (rdRow_ext (hs.old 0 rfl) hr3_el2)) (by exact sd_1 _ _))) ?_
    refine go mixed 2000 [0, 1, 5, 26] 0 (St.mk Rg.no [kCd (bitL 10 891), KI.block 1, kCd (bitL 8 251), kLp (bitL 6 59), KI.block 0, kCd (bitL 3 7)] [(0, vS (some a_1) xs.length c1), (1, vS (some a_2) xs.length c2), (5, vI (↑i : Int)), (26, vB false)] []) (by kernel_rfl) (by kernel_rfl) (by kernel_rfl) ?_
    refine lit_at 26 (b := false) (by kernel_rfl) ?_
    refine go mixed 2000 [0, 1, 5] 0 (St.mk Rg.no [kLp (bitL 6 59), KI.block 0, kCd (bitL 3 7)] [(0, vS (some a_1) xs.length c1), (1, vS (some a_2) xs.length c2), (5, vI (IntKind.i64.wrap ((↑i : Int) + 1)))] []) (by kernel_rfl) (by kernel_rfl) (by kernel_rfl) ?_
    rw [wrap_succ (by omega)]; exact ih (i + 1) (by omega) (by omega)
  · intro hb2
    replace hb2 := of_decide_eq_false hb2
    refine go mixed 2000 [4] 0 (St.mk Rg.no [kCd (bitL 4 15)] [(4, vL true)] []) (by kernel_rfl) (by kernel_rfl) (by kernel_rfl) ?_
    refine ret_ok (vs := [vL true]) (by kernel_rfl) ?_
    intro L w1 hs
    exact ⟨rfl, hs.out0⟩

theorem kNd_shape {h : Hp} {S : Nat → Prop} {x : Nd} {cs : List Value} (ho : kNd.ow h S x cs) : ∃ A1 c1 A2 c2, cs = [.bool x.leaf, .slice A1 x.entries.length c1, .slice A2 x.kids.length c2] ∧ sepL [rowA 101 kEn x.entries (.slice A1 x.entries.length c1), rowA 3 kI64 x.kids (.slice A2 x.kids.length c2)] h S := by
  obtain ⟨c1, c2, rfl, S1, S2, s1, s2, _, ra, a1, a2, rfl, T1, T2, t1, t2, d2, ⟨v1, rv1, h1⟩, v2, rv2, h2⟩ := ho
  have ra : c1 = [.bool x.leaf] := ra
  obtain ⟨A1, n1, hv1, hr1⟩ := id h1
  obtain ⟨A2, n2, hv2, hr2⟩ := id h2
  subst ra rv1 rv2 hv1 hv2
  exact ⟨A1, n1, A2, n2, rfl, T1, T2, fun b hb => s2 b (t1 b hb), fun b hb => s2 b (t2 b hb), d2, rowA_holds.2 h1, T2, fun _ => False, fun _ h => h, fun _ h => h.elim, fun _ _ h => h, rowA_holds.2 h2, trivial⟩
theorem h_el_Nd {C : Cx} {F : List HA} {st : St} {x : Nd} {cs : List Value} (h : ∀ A1 c1 A2 c2, cs = [.bool x.leaf, .slice A1 x.entries.length c1, .slice A2 x.kids.length c2] → Holds C (rowA 101 kEn x.entries (.slice A1 x.entries.length c1) :: rowA 3 kI64 x.kids (.slice A2 x.kids.length c2) :: F) st) : Holds C (elA kNd x cs :: F) st := by
  intro L w1 w a hs ht hr
  obtain ⟨henv, hl, S, hS, S1, S2, h1, h2, hd, hel, hF⟩ := hs
  obtain ⟨A1, c1, A2, c2, e1, hrow⟩ := kNd_shape hel
  exact h A1 c1 A2 c2 e1 L w1 w a ⟨henv, hl, S, hS, sepL_append (l1 := [_, _]).2 ⟨S1, S2, h1, h2, hd, hrow, hF⟩⟩ ht hr
theorem kNd_put0 {h : Hp} {S : Nat → Prop} {x : Nd} {cs : List Value} {b : Bool} (ho : kNd.ow h S x cs) : kNd.ow h S ⟨b, x.entries, x.kids⟩ (splice cs 0 [.bool b]) := by
  obtain ⟨A1, c1, A2, c2, rfl, h3⟩ := kNd_shape ho
  exact kNd_own (x := ⟨b, x.entries, x.kids⟩) (sepL_perm (List.Perm.swap _ _ _) h3)
def nNs : List Nd → Nat
  | [] => 0
  | x :: r => 1 + nEs x.entries + x.kids.length + nNs r
theorem nNs_app : ∀ (a b : List Nd), nNs (a ++ b) = nNs a + nNs b
  | [], b => by simp [nNs]
  | x :: r, b => by simp only [List.cons_append, nNs, nNs_app r b]; omega
theorem nNs_take {xs : List Nd} {i : Nat} (hi : i < xs.length) : nNs (xs.take (i + 1)) = nNs (xs.take i) + (1 + nEs xs[i].entries + xs[i].kids.length) := by
  rw [List.take_succ_eq_append_getElem hi, nNs_app]
  simp [nNs]
theorem nNs_take_le (xs : List Nd) (i : Nat) : nNs (xs.take i) ≤ nNs xs := by
  conv => rhs; rw [← List.take_append_drop i xs, nNs_app]
  omega
theorem nNs_z : ∀ (xs : List Nd), nNs xs ≤ xs.length + 4 * (xs.map zNd).sum
  | [] => Nat.zero_le _
  | x :: r => by
    have h1 := nNs_z r
    have h2 := nEs_z x.entries
    have h3 : zNd x = (x.entries.length + (x.entries.map zEn).sum) + x.kids.length := rfl
    simp only [nNs, List.length_cons, List.map_cons, List.sum_cons]
    omega
theorem nEs_le {B : Nat} : ∀ {xs : List En}, (∀ x ∈ xs, x.key.t.length ≤ B) → nEs xs ≤ xs.length * (4 + B)
  | [], _ => by simp [nEs]
  | x :: r, h => by
    have h1 := nEs_le (xs := r) fun y hy => h y (List.mem_cons_of_mem _ hy)
    have h2 := h x List.mem_cons_self
    simp only [nEs, List.length_cons, Nat.add_mul]
    omega
theorem midN_get {α : Type} {zs xs : List α} {i : Nat} (hz : zs.length = i) (hi : i < xs.length) (h : i < (zs ++ xs.drop i).length) : (zs ++ xs.drop i)[i] = xs[i] := by
  rw [List.getElem_append_right (by omega)]
  simp [hz]
theorem midN_set {α : Type} {zs xs : List α} {y : α} {i : Nat} (hz : zs.length = i) (hi : i < xs.length) : (zs ++ xs.drop i).set i y = (zs ++ [y]) ++ xs.drop (i + 1) := by
  rw [List.set_append_right _ _ (by omega), hz, Nat.sub_self, List.drop_eq_getElem_cons hi, List.set_cons_zero]
  simp
theorem markNodeS_ok (xs : List Nd) (A : Option Addr) (c : Nat) (k : Int) (w : World) (S : Nat → Prop) (h : sepL [rowA 96 kNd xs (.slice A xs.length c)] w.heap S) (hS : ∀ b, S b → b < w.heap.size) (hl : xs.length ≤ 1048576) (hn : nNs xs ≤ 16777216) (hkl : ∀ n ∈ xs, ∀ x ∈ n.entries, x.key.t.length ≤ 1048576) (hsz2 : ∀ n ∈ xs, n.entries.length ≤ 1048576 ∧ n.kids.length ≤ 1048576) (hk : 0 ≤ k ∧ k ≤ 1048576) :
    Calls Try.prog 61 #[.slice A xs.length c, .int .i64 k] w fun e w' => e = .returned (.int .i64 (k + nNs xs)) ∧ Mut w w' S [] := by
  have hown := rowA_holds.1 (sepL_one h)
  refine enter (args := [.one (.v (.slice A xs.length c)), .one (.v (.int .i64 k))]) Try.func61 (c := bodyOf Try.f61) rfl rfl (start_LOK _) (start_mut h hS) ?_
  refine go mixed 2000 [0, 1, 5] 0 (St.mk Rg.no [kLp (bitL 5 29), KI.block 0, KI.code [true, true]] [(0, vS A xs.length c), (1, vI k), (5, vI 0)] []) (by kernel_rfl) (by kernel_rfl) (by kernel_rfl) ?_
  refine loop_at (ι := Nat × List Nd) (fun s => [(1, .one (.v (.int .i64 (k + (nNs (xs.take s.1) : Int))))), (5, .one (.v (.int .i64 s.1)))]) (fun _ => []) (fun s => [rowA 96 kNd (s.2 ++ xs.drop s.1) (.slice A xs.length c), oldX w S]) (fun s => s.1 ≤ xs.length ∧ s.2.length = s.1) (fun s => xs.length - s.1) (0, []) (by simp [updTm, lk, nNs]; exact ⟨rfl, rfl⟩) rfl (by simp) ⟨Nat.zero_le _, rfl⟩ ?_
  rintro ⟨i, zs⟩ ⟨hi, hz⟩ ih
  simp only at hi hz ih ⊢
  refine go mixed 2000 [0, 1, 5, 9] 0 (St.mk Rg.no [kCd (bitL 7 93), kCd (bitL 6 61), kLp (bitL 5 29), KI.block 0, KI.code [true, true]] [(0, vS A xs.length c), (1, vI (k + (↑(nNs (List.take i xs)) : Int))), (5, vI (↑i : Int)), (9, vB (decide ((↑i : Int) < (↑xs.length : Int))))] []) (by kernel_rfl) (by kernel_rfl) (by kernel_rfl) ?_
  refine split_at 9 (b := decide ((↑i : Int) < (↑xs.length : Int))) (by kernel_rfl) (by kernel_rfl) ?_ ?_
  · intro h1
    have hlt : i < xs.length := by simpa using h1
    have hle := nNs_take_le xs i
    have hle2 := nNs_take hlt
    have hle3 := nNs_take_le xs (i + 1)
    have hlm : i < (zs ++ xs.drop i).length := by simp [hz]; omega
    have hsz := hsz2 _ (List.getElem_mem hlt)
    have hke := hkl _ (List.getElem_mem hlt)
    obtain ⟨K, hK⟩ : ∃ K : Int, K = k + (nNs (xs.take i) : Int) := ⟨_, rfl⟩
    rw [← hK]
    have w1_ : IntKind.i64.wrap (K + 1) = K + 1 := by rw [IntKind.wrap_i64]; omega
    obtain ⟨g, rfl⟩ := own_g hown (by omega)
    refine go mixed 2000 [0, 1, 5, 12, 13, 16] 0 (St.mk (Rg.sq (bitL 9 189) 5) [kCd (bitL 9 445), KI.block 1, kCd (bitL 7 125), kLp (bitL 5 29), KI.block 0, KI.code [true, true]] [(0, vS (some (Addr.mk g 0 none)) xs.length c), (1, vI K), (5, vI (↑i : Int)), (12, vS (some (Addr.mk g 0 none)) xs.length c), (13, vI (↑i : Int)), (16, vB (K.tmod 3 == 0))] []) (by kernel_rfl) (by kernel_rfl) (by kernel_rfl) ?_
    refine index_at 5 (by kernel_rfl : atP _ _ _ 5 false = some (Op.indexAddr 27 (tmpO 12) (tmpO 13), 0, some 17, Rg.sq (bitL 9 189) 6)) (sz := 3) (by kernel_rfl) rfl rfl rfl hlt (fun L w1 hs => ⟨_, rfl⟩) ?_
    intro a2 ha2; cases ha2
    refine go mixed 2000 [0, 1, 5, 16, 18] 0 (St.mk (Rg.sq (bitL 9 189) 7) [kCd (bitL 9 445), KI.block 1, kCd (bitL 7 125), kLp (bitL 5 29), KI.block 0, KI.code [true, true]] [(0, vS (some (Addr.mk g 0 none)) xs.length c), (1, vI K), (5, vI (↑i : Int)), (16, vB (K.tmod 3 == 0)), (18, vP (((Addr.mk g 0 none).add (i * 3)).add 0))] []) (by kernel_rfl) (by kernel_rfl) (by kernel_rfl) ?_
    refine store_part (A := []) (d := kNd) (o := 0) (i := i) (y := ⟨K.tmod 3 == 0, xs[i].entries, xs[i].kids⟩) (by kernel_rfl : atB _ _ _ false = some (Op.store 4 (tmpO 18) (tmpO 16), 0, none, Rg.sq (bitL 9 189) 8)) (by kernel_rfl) rfl rfl (by simp only [add_at, Nat.add_zero]; rfl) rfl rfl (by simp [Value.oneCell']) hlm (Nat.le_of_ble_eq_true rfl) (fun h S1 S2 cs ho _ _ => by rw [midN_get hz hlt] at ho; exact kNd.mono (fun b hb => .inl hb) (kNd_put0 ho)) ?_
    refine go mixed 2000 [0, 1, 5, 21, 22] 0 (St.mk (Rg.sq (bitL 11 957) 2) [kCd (bitL 11 1981), KI.block 1, kCd (bitL 7 125), kLp (bitL 5 29), KI.block 0, KI.code [true, true]] [(0, vS (some (Addr.mk g 0 none)) xs.length c), (1, vI (IntKind.i64.wrap (K + 1))), (5, vI (↑i : Int)), (21, vS (some (Addr.mk g 0 none)) xs.length c), (22, vI (↑i : Int))] []) (by kernel_rfl) (by kernel_rfl) (by kernel_rfl) ?_
    rw [w1_]
    refine index_at 2 (by kernel_rfl : atP _ _ _ 2 false = some (Op.indexAddr 27 (tmpO 21) (tmpO 22), 0, some 23, Rg.sq (bitL 11 957) 3)) (sz := 3) (by kernel_rfl) rfl rfl rfl hlt (fun L w1 hs => ⟨_, rfl⟩) ?_
    intro a2 ha2; cases ha2
    refine go mixed 2000 [0, 1, 5, 24] 0 (St.mk (Rg.sq (bitL 11 957) 4) [kCd (bitL 11 1981), KI.block 1, kCd (bitL 7 125), kLp (bitL 5 29), KI.block 0, KI.code [true, true]] [(0, vS (some (Addr.mk g 0 none)) xs.length c), (1, vI (K + 1)), (5, vI (↑i : Int)), (24, vP (((Addr.mk g 0 none).add (i * 3)).add 1))] []) (by kernel_rfl) (by kernel_rfl) (by kernel_rfl) ?_
    refine h_focus (by rw [List.length_set]; exact hlm) (fun cs => ?_)
    rw [List.getElem_set_self]
    refine h_el_Nd ?_
    rintro A1 c1 A2 c2 rfl
    refine load_one 4 (by kernel_rfl : atP _ _ _ 4 true = some (Op.load 34 (tmpO 24), 34, some 25, Rg.sq (bitL 11 957) 5)) (n := 1) (by kernel_rfl) rfl ?_
    intro L w1 hs
    obtain ⟨S1, hS1, hh⟩ := hs.at_ 2 rfl
    refine ⟨.v (.slice A1 xs[i].entries.length c1), by have h9 := hole_cell hh 1 _ rfl; simp only [add_at, Nat.add_zero] at h9 ⊢; exact h9, ?_⟩
    clear hs hh hS1 S1
    refine go mixed 2000 [0, 5, 25, 26] 0 (St.mk (Rg.sq (bitL 11 957) 6) [kCd (bitL 11 1981), KI.block 1, kCd (bitL 7 125), kLp (bitL 5 29), KI.block 0, KI.code [true, true]] [(0, vS (some (Addr.mk g 0 none)) xs.length c), (5, vI (↑i : Int)), (25, vS A1 xs[i].entries.length c1), (26, vI (K + 1))] []) (by kernel_rfl) (by kernel_rfl) (by kernel_rfl) ?_
    refine call_mut (A := [rowA 101 kEn xs[i].entries (.slice A1 xs[i].entries.length c1)]) (by kernel_rfl : atC _ _ _ false = some (23, [vS A1 xs[i].entries.length c1, vI (K + 1)], some 27, Rg.sq (bitL 11 957) 7)) (by kernel_rfl) (fun L w1 S1 hs hA hS1 => (markEntryS_ok xs[i].entries A1 c1 _ w1 S1 hA hS1 hsz.1 (by omega) hke (by omega)).mono ?_)
    rintro e w2 ⟨rfl, hm⟩
    refine ⟨.one (.v (.int .i64 _)), _, rfl, hm, ?_⟩
    clear hm hs hA hS1
    refine go mixed 2000 [0, 1, 5, 28, 29] 0 (St.mk (Rg.sq (bitL 11 1981) 2) [KI.block 1, kCd (bitL 7 125), kLp (bitL 5 29), KI.block 0, KI.code [true, true]] [(0, vS (some (Addr.mk g 0 none)) xs.length c), (1, vI (K + 1 + (↑(nEs xs[i].entries) : Int))), (5, vI (↑i : Int)), (28, vS (some (Addr.mk g 0 none)) xs.length c), (29, vI (↑i : Int))] []) (by kernel_rfl) (by kernel_rfl) (by kernel_rfl) ?_
    refine index_at 2 (by kernel_rfl : atP _ _ _ 2 false = some (Op.indexAddr 27 (tmpO 28) (tmpO 29), 0, some 30, Rg.sq (bitL 11 1981) 3)) (sz := 3) (by kernel_rfl) rfl rfl rfl hlt (fun L w1 hs => ⟨_, rfl⟩) ?_
    intro a2 ha2; cases ha2
    refine go mixed 2000 [0, 1, 5, 31] 0 (St.mk (Rg.sq (bitL 11 1981) 4) [KI.block 1, kCd (bitL 7 125), kLp (bitL 5 29), KI.block 0, KI.code [true, true]] [(0, vS (some (Addr.mk g 0 none)) xs.length c), (1, vI (K + 1 + (↑(nEs xs[i].entries) : Int))), (5, vI (↑i : Int)), (31, vP (((Addr.mk g 0 none).add (i * 3)).add 2))] []) (by kernel_rfl) (by kernel_rfl) (by kernel_rfl) ?_
    refine load_one 4 (by kernel_rfl : atP _ _ _ 4 true = some (Op.load 44 (tmpO 31), 44, some 32, Rg.sq (bitL 11 1981) 5)) (n := 1) (by kernel_rfl) rfl ?_
    intro L w1 hs
    obtain ⟨S1, hS1, hh⟩ := hs.at_ 2 rfl
    refine ⟨.v (.slice A2 xs[i].kids.length c2), by have h9 := hole_cell hh 2 _ rfl; simp only [add_at, Nat.add_zero] at h9 ⊢; exact h9, ?_⟩
    clear hs hh hS1 S1
    refine go mixed 2000 [0, 5, 32, 33] 0 (St.mk (Rg.sq (bitL 11 1981) 6) [KI.block 1, kCd (bitL 7 125), kLp (bitL 5 29), KI.block 0, KI.code [true, true]] [(0, vS (some (Addr.mk g 0 none)) xs.length c), (5, vI (↑i : Int)), (32, vS A2 xs[i].kids.length c2), (33, vI (K + 1 + (↑(nEs xs[i].entries) : Int)))] []) (by kernel_rfl) (by kernel_rfl) (by kernel_rfl) ?_
    refine h_swap ?_
    refine call_mut (A := [rowA 3 kI64 xs[i].kids (.slice A2 xs[i].kids.length c2)]) (by kernel_rfl : atC _ _ _ false = some (32, [vS A2 xs[i].kids.length c2, vI (K + 1 + (↑(nEs xs[i].entries) : Int))], some 34, Rg.sq (bitL 11 1981) 7)) (by kernel_rfl) (fun L w1 S1 hs hA hS1 => (markIntS_ok xs[i].kids A2 c2 _ w1 S1 hA hS1 hsz.2 (by omega)).mono ?_)
    rintro e w2 ⟨rfl, hm⟩
    refine ⟨.one (.v (.int .i64 _)), _, rfl, hm, ?_⟩
    clear hm hs hA hS1
    refine go mixed 2000 [0, 1, 5] 0 (St.mk Rg.no [kLp (bitL 5 29), KI.block 0, KI.code [true, true]] [(0, vS (some (Addr.mk g 0 none)) xs.length c), (1, vI (K + 1 + (↑(nEs xs[i].entries) : Int) + (↑xs[i].kids.length : Int))), (5, vI (IntKind.i64.wrap ((↑i : Int) + 1)))] []) (by kernel_rfl) (by kernel_rfl) (by kernel_rfl) ?_
    refine h_turn (A := [_, _]) (B := [elA kNd (⟨K.tmod 3 == 0, mkEs xs[i].entries (K + 1), mkN xs[i].kids.length (K + 1 + (nEs xs[i].entries : Int))⟩ : Nd) [.bool (K.tmod 3 == 0), .slice A1 xs[i].entries.length c1, .slice A2 xs[i].kids.length c2]]) (fun h S ho => one_el (by have h9 := kNd_own (h := h) (S := S) (Aentries := A1) (centries := c1) (Akids := A2) (ckids := c2) (x := ⟨K.tmod 3 == 0, mkEs xs[i].entries (K + 1), mkN xs[i].kids.length (K + 1 + (nEs xs[i].entries : Int))⟩) (by simp only [mkEs_len, mkN_len]; exact ho); simp only [mkEs_len, mkN_len] at h9; exact h9)) ?_
    refine h_unfocus (d := kNd) ?_
    rw [List.set_set, midN_set hz hlt, wrap_succ (by omega), hK, show k + (nNs (xs.take i) : Int) + 1 + (nEs xs[i].entries : Int) + (xs[i].kids.length : Int) = k + (nNs (xs.take (i + 1)) : Int) by omega]
    exact ih (i + 1, _) ⟨hlt, by simp [hz]⟩ (by simp only; omega)
  · intro h1
    refine go mixed 2000 [4] 0 (St.mk Rg.no [kCd (bitL 3 7)] [(4, vI (k + (↑(nNs (List.take i xs)) : Int)))] []) (by kernel_rfl) (by kernel_rfl) (by kernel_rfl) ?_
    refine ret_ok (vs := [vI (k + (↑(nNs (List.take i xs)) : Int))]) (by kernel_rfl) ?_
    intro L w1 hs
    have hi2 : i = xs.length := by
      have : ¬ i < xs.length := by simpa using h1
      omega
    subst hi2
    simp only [List.take_length] at hs ⊢
    exact ⟨rfl, SOK.outm (As := []) hs.drop⟩

theorem markTree_ok (t : Tr) (A : Option Addr) (c : Nat) (k : Int) (w : World) (S : Nat → Prop) (h : sepL [rowA 96 kNd t.nodes (.slice A t.nodes.length c)] w.heap S) (hS : ∀ b, S b → b < w.heap.size) (hz : zTr t ≤ 1048576) (hk : 0 ≤ k ∧ k ≤ 1048576) :
    Calls Try.prog 22 #[.agg #[.slice A t.nodes.length c, .int .i64 t.root], .int .i64 k] w fun e w' => e = .returned (.int .i64 (k + nNs t.nodes)) ∧ Mut w w' S [] := by
  have hzz : zTr t = zRow zNd t.nodes := rfl
  have hz1 : zRow zNd t.nodes = t.nodes.length + (t.nodes.map zNd).sum := rfl
  have hsz2 : ∀ n ∈ t.nodes, n.entries.length ≤ 1048576 ∧ n.kids.length ≤ 1048576 := fun n hn => by
    have h1 := z_le zNd t.nodes hn
    have h2 : zNd n = (n.entries.length + (n.entries.map zEn).sum) + n.kids.length := rfl
    omega
  have hnn := nNs_z t.nodes
  refine enter (args := [.agg [.v (.slice A t.nodes.length c), .v (.int .i64 t.root)], .one (.v (.int .i64 k))]) Try.func22 (c := bodyOf Try.f22) rfl rfl (start_LOK _) (start_mut h hS) ?_
  refine go mixed 2000 [6, 7] 0 (St.mk (Rg.sq [true, false] 3) [KI.code [true, true]] [(6, vS A t.nodes.length c), (7, vI k)] []) (by kernel_rfl) (by kernel_rfl) (by kernel_rfl) ?_
  refine call_mut (A := [rowA 96 kNd t.nodes (.slice A t.nodes.length c)]) (by kernel_rfl : atC _ _ _ false = some (61, [vS A t.nodes.length c, vI k], some 8, Rg.sq [true, false] 4)) (by kernel_rfl) (fun L w1 S1 hs hA hS1 => (markNodeS_ok t.nodes A c _ w1 S1 hA hS1 (by omega) (by omega) (key_le hz) hsz2 (by omega)).mono ?_)
  rintro e w2 ⟨rfl, hm⟩
  refine ⟨.one (.v (.int .i64 _)), _, rfl, hm, ?_⟩
  clear hm hs hA hS1
  refine go mixed 2000 [4] 0 (St.mk Rg.no [kCd (bitL 3 7)] [(4, vI (k + (↑(nNs t.nodes) : Int)))] []) (by kernel_rfl) (by kernel_rfl) (by kernel_rfl) ?_
  refine ret_ok (vs := [vI (k + (↑(nNs t.nodes) : Int))]) (by kernel_rfl) ?_
  intro L w1 hs
  exact ⟨rfl, SOK.outm (As := []) hs⟩

end Go.Proofs.Ytgleoebogikooaa.Dk
