/- Walks of functions of the program: what each call returns and what it leaves in memory. Conditions: those that each theorem names. -/
import Derived.Test.YtjbbakckckihnaaProg
import Derived.Test.YtjbbakckckihnaaF14
namespace Go.Proofs.Ytjbbakckckihnaa.Dk
set_option linter.unusedVariables false
set_option linter.unusedSimpArgs false
open Go.Proofs.Ytjbbakckckihnaa.Sx Go.Proofs Go.RowKit
set_option maxRecDepth 100000
theorem lawFuses_ok (ys : List Int) (A : Option Addr) (c : Nat) (w : World) (h : rdRow kU8 w.heap ys (.slice A ys.length c)) (hy : ∀ b ∈ ys, 0 ≤ b ∧ b ≤ 255) :
    Calls Try.prog 8 #[.slice A ys.length c] w fun e w' => e = .returned (.bool true) ∧ Below w.heap.size w w' := by
  refine enter (args := [.one (.v (.slice A ys.length c))]) Try.func8 (c := bodyOf Try.f8) rfl rfl (start_LOK _) (start_old w) ?_
  refine go mixed 2000 [0, 11] 0 (St.mk (Rg.sq [true, false, false] 1) [KI.code [true, false, true], KI.code [true, true]] [(0, SV.one (SC.v (Value.slice A ys.length c))), (11, SV.one (SC.v (Value.slice A ys.length c)))] []) (by kernel_rfl) (by kernel_rfl) (by kernel_rfl) ?_
  refine call_pure true (by kernel_rfl : atC _ _ _ true = some (28, [SV.one (SC.v (Value.slice A ys.length c))], some 12, Rg.sq [true, false, false] 2)) (by kernel_rfl) (.one (.bo (decide ((ys.length : Int) > 1048576)))) (fun L w1 hs => big_ok ys A c w1) ?_
  refine go mixed 2000 [0, 12] 0 (St.mk Rg.no [KI.code [true, false, true], KI.code [true, true]] [(0, SV.one (SC.v (Value.slice A ys.length c))), (12, SV.one (SC.bo (decide ((↑ys.length : Int) > 1048576))))] []) (by kernel_rfl) (by kernel_rfl) (by kernel_rfl) ?_
  refine split_at 12 (b := decide ((↑ys.length : Int) > 1048576)) (by kernel_rfl) (by kernel_rfl) ?_ ?_
  · intro hx
    refine go mixed 2000 [2] 0 (St.mk Rg.no [KI.code [true, false, true, false, true], KI.code [true, true]] [(2, SV.one (SC.v (Value.bool true)))] []) (by kernel_rfl) (by kernel_rfl) (by kernel_rfl) ?_
    refine ret_ok (vs := [SV.one (SC.v (Value.bool true))]) (by kernel_rfl) ?_
    intro L w1 hs
    exact ⟨rfl, hs.out0⟩
  intro hx
  have hl : ys.length ≤ 1048576 := by have := of_decide_eq_false hx; omega
  clear hx
  refine go mixed 2000 [0, 13] 0 (St.mk (Rg.sq [true, true, false] 1) [KI.code [true, true, true]] [(0, SV.one (SC.v (Value.slice A ys.length c))), (13, SV.one (SC.v (Value.slice A ys.length c)))] []) (by kernel_rfl) (by kernel_rfl) (by kernel_rfl) ?_
  refine call_at true (by kernel_rfl : atC _ _ _ true = some (34, [SV.one (SC.v (Value.slice A ys.length c)), SV.one (SC.v (Value.int IntKind.i64 0))], some 14, Rg.sq [true, true, false] 2)) (by kernel_rfl) fun L w1 hs => (at_ok ys A c 0 w1 (rdRow_ext (hs.old 0 rfl) h) hl hy (by omega)).mono ?_
  rintro e w2 ⟨q0, rfl, hbel, hq0⟩
  refine ⟨.one (.v (.int .i64 q0)), _, _, rfl, fun _ => hbel.block, hs.below hbel, ?_⟩
  clear hs hbel
  refine go mixed 2000 [0, 3] 0 (St.mk (Rg.sq [true, true, true, false] 0) [KI.code [true, true, true, true]] [(0, SV.one (SC.v (Value.slice A ys.length c))), (3, SV.one (SC.v (Value.int IntKind.i64 (q0.tmod 9))))] []) (by kernel_rfl) (by kernel_rfl) (by kernel_rfl) ?_
  have hn : 0 ≤ q0.tmod 9 ∧ q0.tmod 9 ≤ 8 := by rw [Int.tmod_eq_emod_of_nonneg hq0.1]; omega
  generalize q0.tmod 9 = n at hn
  refine call_fresh true (by kernel_rfl : atC _ _ _ true = some (35, [SV.one (SC.v (Value.int IntKind.i64 4))], some 17, Rg.sq [true, true, true, false] 1)) (by kernel_rfl) fun L w1 hs => (diskNew_ok 4 w1 (by decide) (by decide)).mono ?_
  obtain ⟨z, hz⟩ : ∃ z : DD, (⟨List.replicate 4 (List.replicate 64 0), [], -1, false⟩ : DD) = z := ⟨_, rfl⟩
  rw [hz]
  rintro e w2 ⟨Z1, z1, Z2, z2, rfl, hf⟩
  refine ⟨.agg [.v (.slice Z1 z.xs.length z1), .v (.slice Z2 z.ws.length z2), .v (.int .i64 z.f), .bo z.dn], _, rfl, hf, ?_⟩
  clear hs hf
  have hzl : z.xs.length ≤ 1048576 ∧ (∀ y ∈ z.xs, y.length ≤ 1048576) ∧ z.ws.length ≤ 1048576 ∧ ∀ y ∈ z.ws, y.2.length ≤ 1048576 := by
    subst hz
    exact ⟨by decide, fun y hy => by rw [(List.mem_replicate.1 hy).2, List.length_replicate]; decide, by decide, fun y hy => by simp at hy⟩
  obtain ⟨r, hk, hI⟩ : ∃ r : DD, fuseR z.xs z.ws z.f z.dn n = (r, 0) ∧ FI n 0 r := by
    subst hz
    have ho : ∀ g : Int, -1 ≤ g → okD (List.replicate 4 (List.replicate 64 0)) [] g = true := fun g hg => okD_iff.2 ⟨⟨by decide, by decide, by decide, hg⟩, fun y hy => by rw [(List.mem_replicate.1 hy).2, List.length_replicate], fun y hy => by simp at hy⟩
    exact ⟨⟨_, _, n, false⟩, if_pos ⟨ho _ (by decide), by omega⟩, rfl, ho n (by omega), Nat.le_refl _, .inl ⟨hn.1, by simp, rfl⟩⟩
  refine go mixed 2000 [0, 3, 17, 18] 0 (St.mk (Rg.sq [true, true, true, false] 2) [KI.code [true, true, true, true]] [(0, SV.one (SC.v (Value.slice A ys.length c))), (3, SV.one (SC.v (Value.int IntKind.i64 n))), (17, SV.agg [SC.v (Value.slice Z1 z.xs.length z1), SC.v (Value.slice Z2 z.ws.length z2), SC.v (Value.int IntKind.i64 z.f), SC.bo z.dn]), (18, SV.one (SC.v (Value.int IntKind.i64 n)))] []) (by kernel_rfl) (by kernel_rfl) (by kernel_rfl) ?_
  refine call_fresh true (by kernel_rfl : atC _ _ _ true = some (12, [SV.agg [SC.v (Value.slice Z1 z.xs.length z1), SC.v (Value.slice Z2 z.ws.length z2), SC.v (Value.int IntKind.i64 z.f), SC.bo z.dn], SV.one (SC.v (Value.int IntKind.i64 n))], some 19, Rg.sq [true, true, true, false] 3)) (by kernel_rfl) fun L w1 hs => (implFuse_ok z.xs z.ws z.f z.dn _ _ _ _ n w1 (hs.rd 1 rfl) (hs.rd 0 rfl) hzl.1 hzl.2.1 hzl.2.2.1 hzl.2.2.2).mono ?_
  rw [hk]
  rintro e w2 ⟨R0, r0, S0, s0, rfl, hf⟩
  refine ⟨.one (.v (.tuple #[.agg #[.slice R0 r.xs.length r0, .slice S0 r.ws.length s0, .int .i64 r.f, .bool r.dn], .int .i64 (0)])), _, rfl, hf, ?_⟩
  clear hs hf
  refine go mixed 2000 [0, 3, 4, 24] 1 (St.mk (Rg.sq [true, true, true, true, false, false] 3) [KI.code [true, true, true, true, false, true], KI.code [true, true, true, true, true]] [(0, SV.one (SC.v (Value.slice A ys.length c))), (3, SV.one (SC.v (Value.int IntKind.i64 n))), (4, SV.one (SC.ptr 0 0)), (24, SV.one (SC.bo false))] [LB.mk [SC.v (Value.slice R0 r.xs.length r0), SC.v (Value.slice S0 r.ws.length s0), SC.v (Value.int IntKind.i64 r.f), SC.bo r.dn] 29]) (by kernel_rfl) (by kernel_rfl) (by kernel_rfl) ?_
  refine lit_at 24 (b := false) (by kernel_rfl) ?_
  refine go mixed 2000 [0, 3, 4, 29] 1 (St.mk Rg.no [KI.code [true, true, true, true, false, true], KI.code [true, true, true, true, true]] [(0, SV.one (SC.v (Value.slice A ys.length c))), (3, SV.one (SC.v (Value.int IntKind.i64 n))), (4, SV.one (SC.ptr 0 0)), (29, SV.one (SC.bo ((↑r.xs.length : Int) != 4)))] [LB.mk [SC.v (Value.slice R0 r.xs.length r0), SC.v (Value.slice S0 r.ws.length s0), SC.v (Value.int IntKind.i64 r.f), SC.bo r.dn] 29]) (by kernel_rfl) (by kernel_rfl) (by kernel_rfl) ?_
  refine h_erase 2 _ rfl ?_
  refine h_erase 2 _ rfl ?_
  refine split_at 29 (b := (↑r.xs.length : Int) != 4) (by kernel_rfl) (by kernel_rfl) ?_ ?_
  · intro hx
    have := hI.1
    simp at hx
    try omega
  intro hx
  clear hx
  refine go mixed 2000 [0, 3, 4, 6] 1 (St.mk Rg.no [KI.loop [true, true, true, true, true, false, true, true, true], KI.block 0, KI.code [true, true, true, true, true, true]] [(0, SV.one (SC.v (Value.slice A ys.length c))), (3, SV.one (SC.v (Value.int IntKind.i64 n))), (4, SV.one (SC.ptr 0 0)), (6, SV.one (SC.v (Value.int IntKind.i64 0)))] [LB.mk [SC.v (Value.slice R0 r.xs.length r0), SC.v (Value.slice S0 r.ws.length s0), SC.v (Value.int IntKind.i64 r.f), SC.bo r.dn] 29]) (by kernel_rfl) (by kernel_rfl) (by kernel_rfl) ?_
  refine loop_at (ι := Nat × DD × Option Addr × Nat × Option Addr × Nat) (fun s => [(6, .one (.v (.int .i64 s.1)))]) (fun s => [(0, ⟨[.v (.slice s.2.2.1 s.2.1.xs.length s.2.2.2.1), .v (.slice s.2.2.2.2.1 s.2.1.ws.length s.2.2.2.2.2), .v (.int .i64 s.2.1.f), .bo s.2.1.dn], 29⟩)]) (fun s => [rowA 59 kW s.2.1.ws (.slice s.2.2.2.2.1 s.2.1.ws.length s.2.2.2.2.2), rowA 36 kB s.2.1.xs (.slice s.2.2.1 s.2.1.xs.length s.2.2.2.1), oldA w]) (fun s => (s.1 : Int) ≤ n + 3 ∧ FI n s.1 s.2.1) (fun s => (n + 3).toNat - s.1) (0, r, R0, r0, S0, s0) rfl rfl rfl ⟨by simp only; omega, hI⟩ ?_
  intro s hi ih
  refine go mixed 2000 [0, 3, 4, 6, 33] 1 (St.mk Rg.no [KI.code [true, true, true, true, true, false, true, true, true, false, true], KI.code [true, true, true, true, true, false, true, true, true, true], KI.loop [true, true, true, true, true, false, true, true, true], KI.block 0, KI.code [true, true, true, true, true, true]] [(0, SV.one (SC.v (Value.slice A ys.length c))), (3, SV.one (SC.v (Value.int IntKind.i64 n))), (4, SV.one (SC.ptr 0 0)), (6, SV.one (SC.v (Value.int IntKind.i64 (↑s.fst : Int)))), (33, SV.one (SC.bo (decide ((↑s.fst : Int) < IntKind.i64.wrap (n + 3)))))] [LB.mk [SC.v (Value.slice s.snd.snd.1 s.snd.fst.xs.length s.snd.snd.snd.fst), SC.v (Value.slice s.snd.snd.snd.snd.1 s.snd.fst.ws.length s.snd.snd.snd.snd.snd), SC.v (Value.int IntKind.i64 s.snd.fst.f), SC.bo s.snd.fst.dn] 29]) (by kernel_rfl) (by kernel_rfl) (by kernel_rfl) ?_
  obtain ⟨i, d, B, b, B1, b1⟩ := s
  simp only at hi ih ⊢
  clear hI hk hz hzl
  obtain ⟨hi, hI⟩ := hi
  have hs4 := fi_small hI
  rw [show IntKind.i64.wrap (n + 3) = n + 3 by rw [IntKind.wrap_i64]; omega]
  refine split_at 33 (b := decide ((↑i : Int) < n + 3)) (by kernel_rfl) (by kernel_rfl) ?_ ?_
  · intro h1
    have hlt : (i : Int) < n + 3 := of_decide_eq_true h1
    clear h1
    refine go mixed 2000 [0, 3, 4, 6, 37] 1 (St.mk (Rg.sq [true, true, true, true, true, false, true, true, true, true, false, true, false] 1) [KI.code [true, true, true, true, true, false, true, true, true, true, false, true, true], KI.block 1, KI.code [true, true, true, true, true, false, true, true, true, true, true], KI.loop [true, true, true, true, true, false, true, true, true], KI.block 0, KI.code [true, true, true, true, true, true]] [(0, SV.one (SC.v (Value.slice A ys.length c))), (3, SV.one (SC.v (Value.int IntKind.i64 n))), (4, SV.one (SC.ptr 0 0)), (6, SV.one (SC.v (Value.int IntKind.i64 (↑i : Int)))), (37, SV.agg [SC.v (Value.slice B d.xs.length b), SC.v (Value.slice B1 d.ws.length b1), SC.v (Value.int IntKind.i64 d.f), SC.bo d.dn])] [LB.mk [SC.v (Value.slice B d.xs.length b), SC.v (Value.slice B1 d.ws.length b1), SC.v (Value.int IntKind.i64 d.f), SC.bo d.dn] 29]) (by kernel_rfl) (by kernel_rfl) (by kernel_rfl) ?_
    refine call_fresh true (by kernel_rfl : atC _ _ _ true = some (27, [SV.agg [SC.v (Value.slice B d.xs.length b), SC.v (Value.slice B1 d.ws.length b1), SC.v (Value.int IntKind.i64 d.f), SC.bo d.dn]], some 38, Rg.sq [true, true, true, true, true, false, true, true, true, true, false, true, false] 2)) (by kernel_rfl) fun L w1 hs => (implSync_ok d.xs d.ws d.f d.dn _ _ _ _ w1 (hs.rd 1 rfl) (hs.rd 0 rfl) hs4.1 hs4.2.1 hs4.2.2.1 hs4.2.2.2).mono ?_
    have hsI := syncI hI hn.2
    obtain ⟨⟨e1, k1⟩, he⟩ : ∃ e, syncR d.xs d.ws d.f d.dn = e := ⟨_, rfl⟩
    rw [he] at hsI ⊢
    obtain ⟨hs1, rfl⟩ : FI n (i + 1) e1 ∧ k1 = codeI n i := hsI
    rintro e w2 ⟨R1, r1, S1, s1, rfl, hf⟩
    refine ⟨.one (.v (.tuple #[.agg #[.slice R1 e1.xs.length r1, .slice S1 e1.ws.length s1, .int .i64 e1.f, .bool e1.dn], .int .i64 (codeI n i)])), _, rfl, hf, ?_⟩
    clear hs hf
    refine go mixed 2000 [0, 3, 4, 6, 7, 8, 41, 43] 2 (St.mk (Rg.sq [true, true, true, true, true, false, true, true, true, true, false, true, true, false, false] 3) [KI.code [true, true, true, true, true, false, true, true, true, true, false, true, true, false, true], KI.code [true, true, true, true, true, false, true, true, true, true, false, true, true, true], KI.block 1, KI.code [true, true, true, true, true, false, true, true, true, true, true], KI.loop [true, true, true, true, true, false, true, true, true], KI.block 0, KI.code [true, true, true, true, true, true]] [(0, SV.one (SC.v (Value.slice A ys.length c))), (3, SV.one (SC.v (Value.int IntKind.i64 n))), (4, SV.one (SC.ptr 0 0)), (6, SV.one (SC.v (Value.int IntKind.i64 (↑i : Int)))), (7, SV.one (SC.ptr 1 0)), (8, SV.one (SC.v (Value.int IntKind.i64 (codeI n i)))), (41, SV.one (SC.v (Value.slice A ys.length c))), (43, SV.one (SC.v (Value.int IntKind.i64 (IntKind.i64.wrap (1 + (↑i : Int))))))] [LB.mk [SC.v (Value.slice B d.xs.length b), SC.v (Value.slice B1 d.ws.length b1), SC.v (Value.int IntKind.i64 d.f), SC.bo d.dn] 29, LB.mk [SC.v (Value.slice R1 e1.xs.length r1), SC.v (Value.slice S1 e1.ws.length s1), SC.v (Value.int IntKind.i64 e1.f), SC.bo e1.dn] 29]) (by kernel_rfl) (by kernel_rfl) (by kernel_rfl) ?_
    rw [show IntKind.i64.wrap (1 + (i : Int)) = ((i + 1 : Nat) : Int) by rw [IntKind.wrap_i64]; omega]
    refine call_at true (by kernel_rfl : atC _ _ _ true = some (34, [SV.one (SC.v (Value.slice A ys.length c)), SV.one (SC.v (Value.int IntKind.i64 (↑(i + 1) : Int)))], some 44, Rg.sq [true, true, true, true, true, false, true, true, true, true, false, true, true, false, false] 4)) (by kernel_rfl) fun L w1 hs => (at_ok ys A c (i + 1) w1 (rdRow_ext (hs.old 4 rfl) h) hl hy (by omega)).mono ?_
    rintro e w2 ⟨q1, rfl, hbel, hq1⟩
    refine ⟨.one (.v (.int .i64 q1)), _, _, rfl, fun _ => hbel.block, hs.below hbel, ?_⟩
    clear hs hbel
    refine go mixed 2000 [0, 3, 4, 6, 7, 8, 46] 2 (St.mk Rg.no [KI.code [true, true, true, true, true, false, true, true, true, true, false, true, true, false, true], KI.code [true, true, true, true, true, false, true, true, true, true, false, true, true, true], KI.block 1, KI.code [true, true, true, true, true, false, true, true, true, true, true], KI.loop [true, true, true, true, true, false, true, true, true], KI.block 0, KI.code [true, true, true, true, true, true]] [(0, SV.one (SC.v (Value.slice A ys.length c))), (3, SV.one (SC.v (Value.int IntKind.i64 n))), (4, SV.one (SC.ptr 0 0)), (6, SV.one (SC.v (Value.int IntKind.i64 (↑i : Int)))), (7, SV.one (SC.ptr 1 0)), (8, SV.one (SC.v (Value.int IntKind.i64 (codeI n i)))), (46, SV.one (SC.bo (q1.tmod 2 == 0)))] [LB.mk [SC.v (Value.slice B d.xs.length b), SC.v (Value.slice B1 d.ws.length b1), SC.v (Value.int IntKind.i64 d.f), SC.bo d.dn] 29, LB.mk [SC.v (Value.slice R1 e1.xs.length r1), SC.v (Value.slice S1 e1.ws.length s1), SC.v (Value.int IntKind.i64 e1.f), SC.bo e1.dn] 29]) (by kernel_rfl) (by kernel_rfl) (by kernel_rfl) ?_
    refine split_at 46 (b := q1.tmod 2 == 0) (by kernel_rfl) (by kernel_rfl) ?_ ?_
    · intro hev
      clear hev
      refine go mixed 2000 [0, 3, 4, 6, 7, 48, 49, 51] 2 (St.mk (Rg.dr [true, true, true, true, true, false, true, true, true, true, false, true, true, false, true, false] [true, true, true, true, false, false, false, false, false, false, false, false, false] 9 2) [KI.code [true, true, true, true, true, false, true, true, true, true, false, true, true, true], KI.block 1, KI.code [true, true, true, true, true, false, true, true, true, true, true], KI.loop [true, true, true, true, true, false, true, true, true], KI.block 0, KI.code [true, true, true, true, true, true]] [(0, SV.one (SC.v (Value.slice A ys.length c))), (3, SV.one (SC.v (Value.int IntKind.i64 n))), (4, SV.one (SC.ptr 0 0)), (6, SV.one (SC.v (Value.int IntKind.i64 (↑i : Int)))), (7, SV.one (SC.ptr 1 0)), (48, SV.agg [SC.v (Value.slice B d.xs.length b), SC.v (Value.slice B1 d.ws.length b1), SC.v (Value.int IntKind.i64 d.f), SC.bo d.dn]), (49, SV.one (SC.v (Value.slice A ys.length c))), (51, SV.one (SC.v (Value.int IntKind.i64 (IntKind.i64.wrap (20 + (↑i : Int))))))] [LB.mk [SC.v (Value.slice B d.xs.length b), SC.v (Value.slice B1 d.ws.length b1), SC.v (Value.int IntKind.i64 d.f), SC.bo d.dn] 29, LB.mk [SC.v (Value.slice R1 e1.xs.length r1), SC.v (Value.slice S1 e1.ws.length s1), SC.v (Value.int IntKind.i64 e1.f), SC.bo e1.dn] 29]) (by kernel_rfl) (by kernel_rfl) (by kernel_rfl) ?_
      rw [show IntKind.i64.wrap (20 + (i : Int)) = ((i + 20 : Nat) : Int) by rw [IntKind.wrap_i64]; omega]
      refine two_at 4 6 (by kernel_rfl) ?_ ?_
      · simp only [fxOf]
        refine call_at true (by kernel_rfl : atC _ _ _ true = some (34, [SV.one (SC.v (Value.slice A ys.length c)), SV.one (SC.v (Value.int IntKind.i64 (↑(i + 20) : Int)))], some 52, Rg.dr [true, true, true, true, true, false, true, true, true, true, false, true, true, false, true, false] [true, true, true, true, true, false, false, false, false, false, false, false, false] 8 1)) (by kernel_rfl) fun L w1 hs => (at_ok ys A c (i + 20) w1 (rdRow_ext (hs.old 4 rfl) h) hl hy (by omega)).mono ?_
        rintro e w2 ⟨q2, rfl, hbel, hq2⟩
        refine ⟨.one (.v (.int .i64 q2)), _, _, rfl, fun _ => hbel.block, hs.below hbel, ?_⟩
        clear hs hbel
        refine go mixed 2000 [0, 3, 4, 6, 7, 48, 53] 2 (St.mk (Rg.dr [true, true, true, true, true, false, true, true, true, true, false, true, true, false, true, false] [true, true, true, true, true, true, false, false, false, false, false, false, false] 7 1) [KI.code [true, true, true, true, true, false, true, true, true, true, false, true, true, true], KI.block 1, KI.code [true, true, true, true, true, false, true, true, true, true, true], KI.loop [true, true, true, true, true, false, true, true, true], KI.block 0, KI.code [true, true, true, true, true, true]] [(0, SV.one (SC.v (Value.slice A ys.length c))), (3, SV.one (SC.v (Value.int IntKind.i64 n))), (4, SV.one (SC.ptr 0 0)), (6, SV.one (SC.v (Value.int IntKind.i64 (↑i : Int)))), (7, SV.one (SC.ptr 1 0)), (48, SV.agg [SC.v (Value.slice B d.xs.length b), SC.v (Value.slice B1 d.ws.length b1), SC.v (Value.int IntKind.i64 d.f), SC.bo d.dn]), (53, SV.one (SC.v (Value.int IntKind.i64 (q2.tmod 4))))] [LB.mk [SC.v (Value.slice B d.xs.length b), SC.v (Value.slice B1 d.ws.length b1), SC.v (Value.int IntKind.i64 d.f), SC.bo d.dn] 29, LB.mk [SC.v (Value.slice R1 e1.xs.length r1), SC.v (Value.slice S1 e1.ws.length s1), SC.v (Value.int IntKind.i64 e1.f), SC.bo e1.dn] 29]) (by kernel_rfl) (by kernel_rfl) (by kernel_rfl) ?_
        refine make_at (d := kU8) 64 0 (zc := [.int .u8 0]) (by_ := 1) (e := 5) true (by kernel_rfl : atB _ _ _ true = some (Op.makeSlice 36 (Operand.const (Value.int IntKind.i64 64)) (Operand.const (Value.int IntKind.i64 64)), 36, some 54, Rg.dr [true, true, true, true, true, false, true, true, true, true, false, true, true, false, true, false] [true, true, true, true, true, true, true, false, false, false, false, false, false] 6 1)) (by kernel_rfl) (by kernel_rfl) rfl rfl rfl rfl (by omega) (by simp [maxLen]) (fun _ => rfl) ?_
        intro g
        refine go mixed 2000 [0, 3, 4, 6, 7, 48, 53, 54] 2 (St.mk (Rg.dr [true, true, true, true, true, false, true, true, true, true, false, true, true, false, true, false] [true, true, true, true, true, true, true, false, false, false, false, false, false] 6 1) [KI.code [true, true, true, true, true, false, true, true, true, true, false, true, true, true], KI.block 1, KI.code [true, true, true, true, true, false, true, true, true, true, true], KI.loop [true, true, true, true, true, false, true, true, true], KI.block 0, KI.code [true, true, true, true, true, true]] [(0, SV.one (SC.v (Value.slice A ys.length c))), (3, SV.one (SC.v (Value.int IntKind.i64 n))), (4, SV.one (SC.ptr 0 0)), (6, SV.one (SC.v (Value.int IntKind.i64 (↑i : Int)))), (7, SV.one (SC.ptr 1 0)), (48, SV.agg [SC.v (Value.slice B d.xs.length b), SC.v (Value.slice B1 d.ws.length b1), SC.v (Value.int IntKind.i64 d.f), SC.bo d.dn]), (53, SV.one (SC.v (Value.int IntKind.i64 (q2.tmod 4)))), (54, SV.one (SC.v (Value.slice (some (Addr.mk g 0 none)) 64 64)))] [LB.mk [SC.v (Value.slice B d.xs.length b), SC.v (Value.slice B1 d.ws.length b1), SC.v (Value.int IntKind.i64 d.f), SC.bo d.dn] 29, LB.mk [SC.v (Value.slice R1 e1.xs.length r1), SC.v (Value.slice S1 e1.ws.length s1), SC.v (Value.int IntKind.i64 e1.f), SC.bo e1.dn] 29]) (by kernel_rfl) (by kernel_rfl) (by kernel_rfl) ?_
        have hx4 : 0 ≤ q2.tmod 4 ∧ q2.tmod 4 < 4 := by rw [Int.tmod_eq_emod_of_nonneg hq2.1]; omega
        refine call_fresh true (by kernel_rfl : atC _ _ _ true = some (18, [SV.agg [SC.v (Value.slice B d.xs.length b), SC.v (Value.slice B1 d.ws.length b1), SC.v (Value.int IntKind.i64 d.f), SC.bo d.dn], SV.one (SC.v (Value.int IntKind.i64 (q2.tmod 4))), SV.one (SC.v (Value.slice (some (Addr.mk g 0 none)) 64 64))], some 55, Rg.dr [true, true, true, true, true, false, true, true, true, true, false, true, true, false, true, false] [true, true, true, true, true, true, true, true, false, false, false, false, false] 5 1)) (by kernel_rfl) fun L w1 hs => (implWrite_ok d.xs d.ws d.f d.dn _ _ _ _ (q2.tmod 4) (List.replicate 64 0) _ _ w1 (hs.rd 4 rfl) (hs.rd 3 rfl) (hs.rd 0 rfl) hs4.1 hs4.2.1 hs4.2.2.1 hs4.2.2.2).mono ?_
        have hwI := writeI hI hn.2 (by omega) (q2.tmod 4) (List.replicate 64 0) hx4 (List.length_replicate ..)
        obtain ⟨⟨e2, k2⟩, he2⟩ : ∃ e, writeR d.xs d.ws d.f d.dn (q2.tmod 4) (List.replicate 64 0) = e := ⟨_, rfl⟩
        rw [he2] at hwI ⊢
        obtain ⟨hs2, rfl⟩ : FI n (i + 1) e2 ∧ k2 = codeI n i := hwI
        rintro e w2 ⟨R2, r2, S2, s2, rfl, hf⟩
        refine ⟨.one (.v (.tuple #[.agg #[.slice R2 e2.xs.length r2, .slice S2 e2.ws.length s2, .int .i64 e2.f, .bool e2.dn], .int .i64 (codeI n i)])), _, rfl, hf, ?_⟩
        clear hs hf
        refine go mixed 2000 [0, 3, 4, 6, 8, 65] 1 (St.mk (Rg.sq [true, true, true, true, true, false, true, true, true, true, false, true, true, true, true, false] 7) [KI.code [true, true, true, true, true, false, true, true, true, true, false, true, true, true, true, true], KI.block 1, KI.code [true, true, true, true, true, false, true, true, true, true, true], KI.loop [true, true, true, true, true, false, true, true, true], KI.block 0, KI.code [true, true, true, true, true, true]] [(0, SV.one (SC.v (Value.slice A ys.length c))), (3, SV.one (SC.v (Value.int IntKind.i64 n))), (4, SV.one (SC.ptr 0 0)), (6, SV.one (SC.v (Value.int IntKind.i64 (↑i : Int)))), (8, SV.one (SC.v (Value.int IntKind.i64 (codeI n i)))), (65, SV.one (SC.bo !(codeI n i == 0) == decide ((↑i : Int) < n)))] [LB.mk [SC.v (Value.slice R2 e2.xs.length r2), SC.v (Value.slice S2 e2.ws.length s2), SC.v (Value.int IntKind.i64 e2.f), SC.bo e2.dn] 29]) (by kernel_rfl) (by kernel_rfl) (by kernel_rfl) ?_
        refine go mixed 2000 [0, 3, 4, 6, 8, 65] 1 (St.mk (Rg.sq [true, true, true, true, true, false, true, true, true, true, false, true, true, true, true, false] 7) [KI.code [true, true, true, true, true, false, true, true, true, true, false, true, true, true, true, true], KI.block 1, KI.code [true, true, true, true, true, false, true, true, true, true, true], KI.loop [true, true, true, true, true, false, true, true, true], KI.block 0, KI.code [true, true, true, true, true, true]] [(0, SV.one (SC.v (Value.slice A ys.length c))), (3, SV.one (SC.v (Value.int IntKind.i64 n))), (4, SV.one (SC.ptr 0 0)), (6, SV.one (SC.v (Value.int IntKind.i64 (↑i : Int)))), (8, SV.one (SC.v (Value.int IntKind.i64 (codeI n i)))), (65, SV.one (SC.bo !(codeI n i == 0) == decide ((↑i : Int) < n)))] [LB.mk [SC.v (Value.slice R2 e2.xs.length r2), SC.v (Value.slice S2 e2.ws.length s2), SC.v (Value.int IntKind.i64 e2.f), SC.bo e2.dn] 29]) (by kernel_rfl) (by kernel_rfl) (by kernel_rfl) ?_
        refine split_at 65 (b := !(codeI n i == 0) == decide ((↑i : Int) < n)) (by kernel_rfl) (by kernel_rfl) ?_ ?_
        · intro hx
          exfalso
          unfold codeI at hx
          split at hx <;> simp_all <;> omega
        intro hx
        clear hx
        refine go mixed 2000 [0, 3, 4, 6, 72] 1 (St.mk Rg.no [KI.code [true, true, true, true, true, false, true, true, true, true, false, true, true, true, true, true], KI.block 1, KI.code [true, true, true, true, true, false, true, true, true, true, true], KI.loop [true, true, true, true, true, false, true, true, true], KI.block 0, KI.code [true, true, true, true, true, true]] [(0, SV.one (SC.v (Value.slice A ys.length c))), (3, SV.one (SC.v (Value.int IntKind.i64 n))), (4, SV.one (SC.ptr 0 0)), (6, SV.one (SC.v (Value.int IntKind.i64 (↑i : Int)))), (72, SV.one (SC.bo !(codeI n i == 3) == decide ((↑i : Int) ≥ n)))] [LB.mk [SC.v (Value.slice R2 e2.xs.length r2), SC.v (Value.slice S2 e2.ws.length s2), SC.v (Value.int IntKind.i64 e2.f), SC.bo e2.dn] 29]) (by kernel_rfl) (by kernel_rfl) (by kernel_rfl) ?_
        refine split_at 72 (b := !(codeI n i == 3) == decide ((↑i : Int) ≥ n)) (by kernel_rfl) (by kernel_rfl) ?_ ?_
        · intro hx
          exfalso
          unfold codeI at hx
          split at hx <;> simp_all <;> omega
        intro hx
        clear hx
        refine go mixed 2000 [0, 3, 4, 6] 1 (St.mk Rg.no [KI.loop [true, true, true, true, true, false, true, true, true], KI.block 0, KI.code [true, true, true, true, true, true]] [(0, SV.one (SC.v (Value.slice A ys.length c))), (3, SV.one (SC.v (Value.int IntKind.i64 n))), (4, SV.one (SC.ptr 0 0)), (6, SV.one (SC.v (Value.int IntKind.i64 (IntKind.i64.wrap ((↑i : Int) + 1)))))] [LB.mk [SC.v (Value.slice R2 e2.xs.length r2), SC.v (Value.slice S2 e2.ws.length s2), SC.v (Value.int IntKind.i64 e2.f), SC.bo e2.dn] 29]) (by kernel_rfl) (by kernel_rfl) (by kernel_rfl) ?_
        refine h_erase 2 _ rfl ?_
        refine h_erase 2 _ rfl ?_
        refine h_erase 2 _ rfl ?_
        refine h_erase 2 _ rfl ?_
        refine h_erase 2 _ rfl ?_
        rw [wrap_succ (by omega)]
        exact ih (i + 1, e2, R2, r2, S2, s2) ⟨by simp only; omega, hs2⟩ (by simp only; omega)
      · simp only [fxOf]
        refine make_at (d := kU8) 64 0 (zc := [.int .u8 0]) (by_ := 1) (e := 5) true (by kernel_rfl : atB _ _ _ true = some (Op.makeSlice 36 (Operand.const (Value.int IntKind.i64 64)) (Operand.const (Value.int IntKind.i64 64)), 36, some 54, Rg.dr [true, true, true, true, true, false, true, true, true, true, false, true, true, false, true, false] [true, true, true, true, false, false, true, false, false, false, false, false, false] 8 1)) (by kernel_rfl) (by kernel_rfl) rfl rfl rfl rfl (by omega) (by simp [maxLen]) (fun _ => rfl) ?_
        intro g
        refine go mixed 2000 [0, 3, 4, 6, 7, 48, 49, 51, 54] 2 (St.mk (Rg.dr [true, true, true, true, true, false, true, true, true, true, false, true, true, false, true, false] [true, true, true, true, false, false, true, false, false, false, false, false, false] 8 1) [KI.code [true, true, true, true, true, false, true, true, true, true, false, true, true, true], KI.block 1, KI.code [true, true, true, true, true, false, true, true, true, true, true], KI.loop [true, true, true, true, true, false, true, true, true], KI.block 0, KI.code [true, true, true, true, true, true]] [(0, SV.one (SC.v (Value.slice A ys.length c))), (3, SV.one (SC.v (Value.int IntKind.i64 n))), (4, SV.one (SC.ptr 0 0)), (6, SV.one (SC.v (Value.int IntKind.i64 (↑i : Int)))), (7, SV.one (SC.ptr 1 0)), (48, SV.agg [SC.v (Value.slice B d.xs.length b), SC.v (Value.slice B1 d.ws.length b1), SC.v (Value.int IntKind.i64 d.f), SC.bo d.dn]), (49, SV.one (SC.v (Value.slice A ys.length c))), (51, SV.one (SC.v (Value.int IntKind.i64 (↑(i + 20) : Int)))), (54, SV.one (SC.v (Value.slice (some (Addr.mk g 0 none)) 64 64)))] [LB.mk [SC.v (Value.slice B d.xs.length b), SC.v (Value.slice B1 d.ws.length b1), SC.v (Value.int IntKind.i64 d.f), SC.bo d.dn] 29, LB.mk [SC.v (Value.slice R1 e1.xs.length r1), SC.v (Value.slice S1 e1.ws.length s1), SC.v (Value.int IntKind.i64 e1.f), SC.bo e1.dn] 29]) (by kernel_rfl) (by kernel_rfl) (by kernel_rfl) ?_
        refine call_at true (by kernel_rfl : atC _ _ _ true = some (34, [SV.one (SC.v (Value.slice A ys.length c)), SV.one (SC.v (Value.int IntKind.i64 (↑(i + 20) : Int)))], some 52, Rg.dr [true, true, true, true, true, false, true, true, true, true, false, true, true, false, true, false] [true, true, true, true, true, false, true, false, false, false, false, false, false] 7 1)) (by kernel_rfl) fun L w1 hs => (at_ok ys A c (i + 20) w1 (rdRow_ext (hs.old 5 rfl) h) hl hy (by omega)).mono ?_
        rintro e w2 ⟨q2, rfl, hbel, hq2⟩
        refine ⟨.one (.v (.int .i64 q2)), _, _, rfl, fun _ => hbel.block, hs.below hbel, ?_⟩
        clear hs hbel
        refine go mixed 2000 [0, 3, 4, 6, 7, 48, 53, 54] 2 (St.mk (Rg.dr [true, true, true, true, true, false, true, true, true, true, false, true, true, false, true, false] [true, true, true, true, true, true, true, false, false, false, false, false, false] 6 1) [KI.code [true, true, true, true, true, false, true, true, true, true, false, true, true, true], KI.block 1, KI.code [true, true, true, true, true, false, true, true, true, true, true], KI.loop [true, true, true, true, true, false, true, true, true], KI.block 0, KI.code [true, true, true, true, true, true]] [(0, SV.one (SC.v (Value.slice A ys.length c))), (3, SV.one (SC.v (Value.int IntKind.i64 n))), (4, SV.one (SC.ptr 0 0)), (6, SV.one (SC.v (Value.int IntKind.i64 (↑i : Int)))), (7, SV.one (SC.ptr 1 0)), (48, SV.agg [SC.v (Value.slice B d.xs.length b), SC.v (Value.slice B1 d.ws.length b1), SC.v (Value.int IntKind.i64 d.f), SC.bo d.dn]), (53, SV.one (SC.v (Value.int IntKind.i64 (q2.tmod 4)))), (54, SV.one (SC.v (Value.slice (some (Addr.mk g 0 none)) 64 64)))] [LB.mk [SC.v (Value.slice B d.xs.length b), SC.v (Value.slice B1 d.ws.length b1), SC.v (Value.int IntKind.i64 d.f), SC.bo d.dn] 29, LB.mk [SC.v (Value.slice R1 e1.xs.length r1), SC.v (Value.slice S1 e1.ws.length s1), SC.v (Value.int IntKind.i64 e1.f), SC.bo e1.dn] 29]) (by kernel_rfl) (by kernel_rfl) (by kernel_rfl) ?_
        have hx4 : 0 ≤ q2.tmod 4 ∧ q2.tmod 4 < 4 := by rw [Int.tmod_eq_emod_of_nonneg hq2.1]; omega
        refine call_fresh true (by kernel_rfl : atC _ _ _ true = some (18, [SV.agg [SC.v (Value.slice B d.xs.length b), SC.v (Value.slice B1 d.ws.length b1), SC.v (Value.int IntKind.i64 d.f), SC.bo d.dn], SV.one (SC.v (Value.int IntKind.i64 (q2.tmod 4))), SV.one (SC.v (Value.slice (some (Addr.mk g 0 none)) 64 64))], some 55, Rg.dr [true, true, true, true, true, false, true, true, true, true, false, true, true, false, true, false] [true, true, true, true, true, true, true, true, false, false, false, false, false] 5 1)) (by kernel_rfl) fun L w1 hs => (implWrite_ok d.xs d.ws d.f d.dn _ _ _ _ (q2.tmod 4) (List.replicate 64 0) _ _ w1 (hs.rd 4 rfl) (hs.rd 3 rfl) (hs.rd 0 rfl) hs4.1 hs4.2.1 hs4.2.2.1 hs4.2.2.2).mono ?_
        have hwI := writeI hI hn.2 (by omega) (q2.tmod 4) (List.replicate 64 0) hx4 (List.length_replicate ..)
        obtain ⟨⟨e2, k2⟩, he2⟩ : ∃ e, writeR d.xs d.ws d.f d.dn (q2.tmod 4) (List.replicate 64 0) = e := ⟨_, rfl⟩
        rw [he2] at hwI ⊢
        obtain ⟨hs2, rfl⟩ : FI n (i + 1) e2 ∧ k2 = codeI n i := hwI
        rintro e w2 ⟨R2, r2, S2, s2, rfl, hf⟩
        refine ⟨.one (.v (.tuple #[.agg #[.slice R2 e2.xs.length r2, .slice S2 e2.ws.length s2, .int .i64 e2.f, .bool e2.dn], .int .i64 (codeI n i)])), _, rfl, hf, ?_⟩
        clear hs hf
        refine go mixed 2000 [0, 3, 4, 6, 8, 65] 1 (St.mk (Rg.sq [true, true, true, true, true, false, true, true, true, true, false, true, true, true, true, false] 7) [KI.code [true, true, true, true, true, false, true, true, true, true, false, true, true, true, true, true], KI.block 1, KI.code [true, true, true, true, true, false, true, true, true, true, true], KI.loop [true, true, true, true, true, false, true, true, true], KI.block 0, KI.code [true, true, true, true, true, true]] [(0, SV.one (SC.v (Value.slice A ys.length c))), (3, SV.one (SC.v (Value.int IntKind.i64 n))), (4, SV.one (SC.ptr 0 0)), (6, SV.one (SC.v (Value.int IntKind.i64 (↑i : Int)))), (8, SV.one (SC.v (Value.int IntKind.i64 (codeI n i)))), (65, SV.one (SC.bo !(codeI n i == 0) == decide ((↑i : Int) < n)))] [LB.mk [SC.v (Value.slice R2 e2.xs.length r2), SC.v (Value.slice S2 e2.ws.length s2), SC.v (Value.int IntKind.i64 e2.f), SC.bo e2.dn] 29]) (by kernel_rfl) (by kernel_rfl) (by kernel_rfl) ?_
        refine go mixed 2000 [0, 3, 4, 6, 8, 65] 1 (St.mk (Rg.sq [true, true, true, true, true, false, true, true, true, true, false, true, true, true, true, false] 7) [KI.code [true, true, true, true, true, false, true, true, true, true, false, true, true, true, true, true], KI.block 1, KI.code [true, true, true, true, true, false, true, true, true, true, true], KI.loop [true, true, true, true, true, false, true, true, true], KI.block 0, KI.code [true, true, true, true, true, true]] [(0, SV.one (SC.v (Value.slice A ys.length c))), (3, SV.one (SC.v (Value.int IntKind.i64 n))), (4, SV.one (SC.ptr 0 0)), (6, SV.one (SC.v (Value.int IntKind.i64 (↑i : Int)))), (8, SV.one (SC.v (Value.int IntKind.i64 (codeI n i)))), (65, SV.one (SC.bo !(codeI n i == 0) == decide ((↑i : Int) < n)))] [LB.mk [SC.v (Value.slice R2 e2.xs.length r2), SC.v (Value.slice S2 e2.ws.length s2), SC.v (Value.int IntKind.i64 e2.f), SC.bo e2.dn] 29]) (by kernel_rfl) (by kernel_rfl) (by kernel_rfl) ?_
        refine split_at 65 (b := !(codeI n i == 0) == decide ((↑i : Int) < n)) (by kernel_rfl) (by kernel_rfl) ?_ ?_
        · intro hx
          exfalso
          unfold codeI at hx
          split at hx <;> simp_all <;> omega
        intro hx
        clear hx
        refine go mixed 2000 [0, 3, 4, 6, 72] 1 (St.mk Rg.no [KI.code [true, true, true, true, true, false, true, true, true, true, false, true, true, true, true, true], KI.block 1, KI.code [true, true, true, true, true, false, true, true, true, true, true], KI.loop [true, true, true, true, true, false, true, true, true], KI.block 0, KI.code [true, true, true, true, true, true]] [(0, SV.one (SC.v (Value.slice A ys.length c))), (3, SV.one (SC.v (Value.int IntKind.i64 n))), (4, SV.one (SC.ptr 0 0)), (6, SV.one (SC.v (Value.int IntKind.i64 (↑i : Int)))), (72, SV.one (SC.bo !(codeI n i == 3) == decide ((↑i : Int) ≥ n)))] [LB.mk [SC.v (Value.slice R2 e2.xs.length r2), SC.v (Value.slice S2 e2.ws.length s2), SC.v (Value.int IntKind.i64 e2.f), SC.bo e2.dn] 29]) (by kernel_rfl) (by kernel_rfl) (by kernel_rfl) ?_
        refine split_at 72 (b := !(codeI n i == 3) == decide ((↑i : Int) ≥ n)) (by kernel_rfl) (by kernel_rfl) ?_ ?_
        · intro hx
          exfalso
          unfold codeI at hx
          split at hx <;> simp_all <;> omega
        intro hx
        clear hx
        refine go mixed 2000 [0, 3, 4, 6] 1 (St.mk Rg.no [KI.loop [true, true, true, true, true, false, true, true, true], KI.block 0, KI.code [true, true, true, true, true, true]] [(0, SV.one (SC.v (Value.slice A ys.length c))), (3, SV.one (SC.v (Value.int IntKind.i64 n))), (4, SV.one (SC.ptr 0 0)), (6, SV.one (SC.v (Value.int IntKind.i64 (IntKind.i64.wrap ((↑i : Int) + 1)))))] [LB.mk [SC.v (Value.slice R2 e2.xs.length r2), SC.v (Value.slice S2 e2.ws.length s2), SC.v (Value.int IntKind.i64 e2.f), SC.bo e2.dn] 29]) (by kernel_rfl) (by kernel_rfl) (by kernel_rfl) ?_
        refine h_erase 2 _ rfl ?_
        refine h_erase 2 _ rfl ?_
        refine h_erase 2 _ rfl ?_
        refine h_erase 2 _ rfl ?_
        refine h_erase 2 _ rfl ?_
        rw [wrap_succ (by omega)]
        exact ih (i + 1, e2, R2, r2, S2, s2) ⟨by simp only; omega, hs2⟩ (by simp only; omega)
    intro hev
    clear hev
    refine go mixed 2000 [0, 3, 4, 6, 8, 65] 1 (St.mk (Rg.sq [true, true, true, true, true, false, true, true, true, true, false, true, true, true, true, false] 7) [KI.code [true, true, true, true, true, false, true, true, true, true, false, true, true, true, true, true], KI.block 1, KI.code [true, true, true, true, true, false, true, true, true, true, true], KI.loop [true, true, true, true, true, false, true, true, true], KI.block 0, KI.code [true, true, true, true, true, true]] [(0, SV.one (SC.v (Value.slice A ys.length c))), (3, SV.one (SC.v (Value.int IntKind.i64 n))), (4, SV.one (SC.ptr 0 0)), (6, SV.one (SC.v (Value.int IntKind.i64 (↑i : Int)))), (8, SV.one (SC.v (Value.int IntKind.i64 (codeI n i)))), (65, SV.one (SC.bo !(codeI n i == 0) == decide ((↑i : Int) < n)))] [LB.mk [SC.v (Value.slice R1 e1.xs.length r1), SC.v (Value.slice S1 e1.ws.length s1), SC.v (Value.int IntKind.i64 e1.f), SC.bo e1.dn] 29]) (by kernel_rfl) (by kernel_rfl) (by kernel_rfl) ?_
    refine split_at 65 (b := !(codeI n i == 0) == decide ((↑i : Int) < n)) (by kernel_rfl) (by kernel_rfl) ?_ ?_
    · intro hx
      exfalso
      unfold codeI at hx
      split at hx <;> simp_all <;> omega
    intro hx
    clear hx
    refine go mixed 2000 [0, 3, 4, 6, 72] 1 (St.mk Rg.no [KI.code [true, true, true, true, true, false, true, true, true, true, false, true, true, true, true, true], KI.block 1, KI.code [true, true, true, true, true, false, true, true, true, true, true], KI.loop [true, true, true, true, true, false, true, true, true], KI.block 0, KI.code [true, true, true, true, true, true]] [(0, SV.one (SC.v (Value.slice A ys.length c))), (3, SV.one (SC.v (Value.int IntKind.i64 n))), (4, SV.one (SC.ptr 0 0)), (6, SV.one (SC.v (Value.int IntKind.i64 (↑i : Int)))), (72, SV.one (SC.bo !(codeI n i == 3) == decide ((↑i : Int) ≥ n)))] [LB.mk [SC.v (Value.slice R1 e1.xs.length r1), SC.v (Value.slice S1 e1.ws.length s1), SC.v (Value.int IntKind.i64 e1.f), SC.bo e1.dn] 29]) (by kernel_rfl) (by kernel_rfl) (by kernel_rfl) ?_
    refine split_at 72 (b := !(codeI n i == 3) == decide ((↑i : Int) ≥ n)) (by kernel_rfl) (by kernel_rfl) ?_ ?_
    · intro hx
      exfalso
      unfold codeI at hx
      split at hx <;> simp_all <;> omega
    intro hx
    clear hx
    refine go mixed 2000 [0, 3, 4, 6] 1 (St.mk Rg.no [KI.loop [true, true, true, true, true, false, true, true, true], KI.block 0, KI.code [true, true, true, true, true, true]] [(0, SV.one (SC.v (Value.slice A ys.length c))), (3, SV.one (SC.v (Value.int IntKind.i64 n))), (4, SV.one (SC.ptr 0 0)), (6, SV.one (SC.v (Value.int IntKind.i64 (IntKind.i64.wrap ((↑i : Int) + 1)))))] [LB.mk [SC.v (Value.slice R1 e1.xs.length r1), SC.v (Value.slice S1 e1.ws.length s1), SC.v (Value.int IntKind.i64 e1.f), SC.bo e1.dn] 29]) (by kernel_rfl) (by kernel_rfl) (by kernel_rfl) ?_
    refine h_erase 2 _ rfl ?_
    refine h_erase 2 _ rfl ?_
    rw [wrap_succ (by omega)]
    exact ih (i + 1, e1, R1, r1, S1, s1) ⟨by simp only; omega, hs1⟩ (by simp only; omega)
  intro h1
  clear h1
  refine go mixed 2000 [74] 0 (St.mk (Rg.sq [true, true, true, true, true, true, false] 1) [KI.code [true, true, true, true, true, true, true]] [(74, SV.agg [SC.v (Value.slice B d.xs.length b), SC.v (Value.slice B1 d.ws.length b1), SC.v (Value.int IntKind.i64 d.f), SC.bo d.dn])] []) (by kernel_rfl) (by kernel_rfl) (by kernel_rfl) ?_
  refine call_fresh true (by kernel_rfl : atC _ _ _ true = some (23, [SV.agg [SC.v (Value.slice B d.xs.length b), SC.v (Value.slice B1 d.ws.length b1), SC.v (Value.int IntKind.i64 d.f), SC.bo d.dn], SV.one (SC.v (Value.slice none 0 0))], some 75, Rg.sq [true, true, true, true, true, true, false] 2)) (by kernel_rfl) fun L w1 hs => (implCrash_ok d.xs d.ws d.f d.dn _ _ _ _ [] none 0 w1 (hs.rd 1 rfl) (hs.rd 0 rfl) nilRow hs4.1 hs4.2.1 hs4.2.2.1 hs4.2.2.2).mono ?_
  obtain ⟨z, hz⟩ : ∃ z : DD, crashR d.xs d.ws d.f [] = z := ⟨_, rfl⟩
  have hzo : okD z.xs z.ws z.f = true ∧ z.f = -1 ∧ z.dn = false := by
    rw [← hz]; unfold crashR
    rw [if_pos hI.2.1]
    exact ⟨okD_stl _ _ hI.2.1 (show (-1 : Int) ≤ -1 by decide), rfl, rfl⟩
  have hzk := okD_iff.1 hzo.1
  rw [hz]
  rintro e w2 ⟨Z1, z1, Z2, z2, rfl, hf⟩
  refine ⟨.agg [.v (.slice Z1 z.xs.length z1), .v (.slice Z2 z.ws.length z2), .v (.int .i64 z.f), .bo z.dn], _, rfl, hf, ?_⟩
  clear hs hf
  refine go mixed 2000 [75] 0 (St.mk (Rg.sq [true, true, true, true, true, true, false] 2) [KI.code [true, true, true, true, true, true, true]] [(75, SV.agg [SC.v (Value.slice Z1 z.xs.length z1), SC.v (Value.slice Z2 z.ws.length z2), SC.v (Value.int IntKind.i64 z.f), SC.bo z.dn])] []) (by kernel_rfl) (by kernel_rfl) (by kernel_rfl) ?_
  refine call_fresh true (by kernel_rfl : atC _ _ _ true = some (27, [SV.agg [SC.v (Value.slice Z1 z.xs.length z1), SC.v (Value.slice Z2 z.ws.length z2), SC.v (Value.int IntKind.i64 z.f), SC.bo z.dn]], some 76, Rg.sq [true, true, true, true, true, true, false] 3)) (by kernel_rfl) fun L w1 hs => (implSync_ok z.xs z.ws z.f z.dn _ _ _ _ w1 (hs.rd 1 rfl) (hs.rd 0 rfl) (by omega) (fun y hy => by rw [hzk.2.1 y hy]; decide) (by omega) (fun y hy => by rw [(hzk.2.2 y hy).2.2]; decide)).mono ?_
  obtain ⟨⟨e3, k3⟩, he3⟩ : ∃ e, syncR z.xs z.ws z.f z.dn = e := ⟨_, rfl⟩
  have hk3 : k3 = 0 := by
    have : (syncR z.xs z.ws z.f z.dn).2 = 0 := by
      unfold syncR
      rw [if_pos hzo.1, hzo.2.1, hzo.2.2]
      rfl
    rw [he3] at this
    exact this
  subst hk3
  rw [he3]
  rintro e w2 ⟨R9, r9, S9, s9, rfl, hf⟩
  refine ⟨.one (.v (.tuple #[.agg #[.slice R9 e3.xs.length r9, .slice S9 e3.ws.length s9, .int .i64 e3.f, .bool e3.dn], .int .i64 (0)])), _, rfl, hf, ?_⟩
  clear hs hf
  refine go mixed 2000 [2] 0 (St.mk Rg.no [KI.code [true, true, true, true, true, true, true, true]] [(2, SV.one (SC.bo true))] []) (by kernel_rfl) (by kernel_rfl) (by kernel_rfl) ?_
  refine h_erase 0 _ rfl ?_
  refine h_erase 0 _ rfl ?_
  refine h_erase 0 _ rfl ?_
  refine h_erase 0 _ rfl ?_
  refine h_erase 0 _ rfl ?_
  refine h_erase 0 _ rfl ?_
  refine ret_ok (vs := [SV.one (SC.bo true)]) (by kernel_rfl) ?_
  intro L w1 hs
  exact ⟨rfl, hs.out0⟩
end Go.Proofs.Ytjbbakckckihnaa.Dk
