/- Walks of functions of the program: what each call returns and what it leaves in memory. Conditions: those that each theorem names. -/
import Derived.Test.YtjbbakckckihnaaProg
import Derived.Test.YtjbbakckckihnaaF6
namespace Go.Proofs.Ytjbbakckckihnaa.Dk
set_option linter.unusedVariables false
set_option linter.unusedSimpArgs false
open Go.Proofs.Ytjbbakckckihnaa.Sx Go.Proofs Go.RowKit
set_option maxRecDepth 100000
def syncR (xs : List (List Int)) (ws : List (Int × List Int)) (f : Int) (dn : Bool) : DD × Int :=
  if okD xs ws f = true then (if (takeR f dn).2 = true then (⟨stl (keepI [] true) ws xs ws.length, [], (takeR f dn).1.1, (takeR f dn).1.2⟩, 0) else (⟨xs, ws, (takeR f dn).1.1, (takeR f dn).1.2⟩, 3)) else badD
def crashR (xs : List (List Int)) (ws : List (Int × List Int)) (f : Int) (ks : List Bool) : DD :=
  if okD xs ws f = true then ⟨stl (keepI ks false) ws xs ws.length, [], -1, false⟩ else ⟨[], [], 0, false⟩
theorem nilRow {α : Type} {d : Kn α} {h : Hp} : rdRow d h [] (.slice none 0 0) := owRow_read (e := 0) (S := fun _ => False) owRow_nil
theorem specSync_ok (xs : List (List Int)) (ws : List (Int × List Int)) (f : Int) (dn : Bool) (A : Option Addr) (c : Nat) (A1 : Option Addr) (c1 : Nat) (w : World) (h : rdRow kB w.heap xs (.slice A xs.length c)) (h2 : rdRow kW w.heap ws (.slice A1 ws.length c1)) (hl : xs.length ≤ 1048576) (hl2 : ∀ y ∈ xs, y.length ≤ 1048576) (hl3 : ws.length ≤ 1048576) (hl4 : ∀ y ∈ ws, y.2.length ≤ 1048576) :
    Calls Try.prog 26 #[.agg #[.slice A xs.length c, .slice A1 ws.length c1, .int .i64 f, .bool dn]] w (DkRes (syncR xs ws f dn) w) := by
  refine enter (args := [.agg [.v (.slice A xs.length c), .v (.slice A1 ws.length c1), .v (.int .i64 f), .bo dn]]) Try.func26 (c := bodyOf Try.f26) rfl rfl (start_LOK _) (start_old w) ?_
  refine go mixed 2000 [1, 2, 6] 2 (St.mk (Rg.sq [true, false, false] 1) [KI.code [true, false, true], KI.code [true, true]] [(1, SV.one (SC.ptr 0 0)), (2, SV.one (SC.ptr 1 0)), (6, SV.agg [SC.v (Value.slice A xs.length c), SC.v (Value.slice A1 ws.length c1), SC.v (Value.int IntKind.i64 f), SC.bo dn])] [LB.mk [SC.v (Value.slice A xs.length c), SC.v (Value.slice A1 ws.length c1), SC.v (Value.int IntKind.i64 f), SC.bo dn] 29, LB.mk [SC.v (Value.slice none 0 0), SC.v (Value.slice none 0 0), SC.v (Value.int IntKind.i64 0), SC.v (Value.bool false)] 29]) (by kernel_rfl) (by kernel_rfl) (by kernel_rfl) ?_
  refine call_pure true (by kernel_rfl : atC _ _ _ true = some (32, [SV.agg [SC.v (Value.slice A xs.length c), SC.v (Value.slice A1 ws.length c1), SC.v (Value.int IntKind.i64 f), SC.bo dn]], some 7, Rg.sq [true, false, false] 2)) (by kernel_rfl) (.one (.bo (okD xs ws f))) (fun L w1 hs => specDiskOk_ok xs ws f dn A c A1 c1 w1 (rdRow_ext (hs.old 0 rfl) h) (rdRow_ext (hs.old 0 rfl) h2) hl hl3) ?_
  refine go mixed 2000 [1, 2, 8] 2 (St.mk Rg.no [KI.code [true, false, true], KI.code [true, true]] [(1, SV.one (SC.ptr 0 0)), (2, SV.one (SC.ptr 1 0)), (8, SV.one (SC.bo !okD xs ws f))] [LB.mk [SC.v (Value.slice A xs.length c), SC.v (Value.slice A1 ws.length c1), SC.v (Value.int IntKind.i64 f), SC.bo dn] 29, LB.mk [SC.v (Value.slice none 0 0), SC.v (Value.slice none 0 0), SC.v (Value.int IntKind.i64 0), SC.v (Value.bool false)] 29]) (by kernel_rfl) (by kernel_rfl) (by kernel_rfl) ?_
  refine split_at 8 (b := !okD xs ws f) (by kernel_rfl) (by kernel_rfl) ?_ ?_
  · intro h1
    have hk : syncR xs ws f dn = badD := if_neg fun hk => by
      rw [hk] at h1
      cases h1
    refine go mixed 2000 [2, 3] 2 (St.mk Rg.no [KI.code [true, false, true, false, true], KI.code [true, true]] [(2, SV.one (SC.ptr 1 0)), (3, SV.one (SC.v (Value.int IntKind.i64 1)))] [LB.mk [SC.v (Value.slice A xs.length c), SC.v (Value.slice A1 ws.length c1), SC.v (Value.int IntKind.i64 f), SC.bo dn] 29, LB.mk [SC.v (Value.slice none 0 0), SC.v (Value.slice none 0 0), SC.v (Value.int IntKind.i64 0), SC.bo false] 29]) (by kernel_rfl) (by kernel_rfl) (by kernel_rfl) ?_
    refine ret_ok (vs := [SV.agg [SC.v (Value.slice none 0 0), SC.v (Value.slice none 0 0), SC.v (Value.int IntKind.i64 0), SC.bo false], SV.one (SC.v (Value.int IntKind.i64 1))]) (by kernel_rfl) ?_
    intro L w1 hs
    rw [hk]
    exact ⟨none, 0, none, 0, rfl, fresh_empty hs.out0⟩
  intro h1
  have e1 : okD xs ws f = true := by simpa using h1
  have e2 := okD_iff.1 e1
  have hR : syncR xs ws f dn = (if (takeR f dn).2 = true then (⟨stl (keepI [] true) ws xs ws.length, [], (takeR f dn).1.1, (takeR f dn).1.2⟩, 0) else (⟨xs, ws, (takeR f dn).1.1, (takeR f dn).1.2⟩, 3)) := if_pos e1
  clear h1
  refine go mixed 2000 [2, 11] 2 (St.mk (Rg.sq [true, true, false] 1) [KI.code [true, true, true]] [(2, SV.one (SC.ptr 1 0)), (11, SV.agg [SC.v (Value.slice A xs.length c), SC.v (Value.slice A1 ws.length c1), SC.v (Value.int IntKind.i64 f), SC.bo dn])] [LB.mk [SC.v (Value.slice A xs.length c), SC.v (Value.slice A1 ws.length c1), SC.v (Value.int IntKind.i64 f), SC.bo dn] 29, LB.mk [SC.v (Value.slice none 0 0), SC.v (Value.slice none 0 0), SC.v (Value.int IntKind.i64 0), SC.v (Value.bool false)] 29]) (by kernel_rfl) (by kernel_rfl) (by kernel_rfl) ?_
  obtain ⟨⟨⟨f', dn'⟩, tk⟩, hT⟩ : ∃ r, takeR f dn = r := ⟨_, rfl⟩
  rw [hT] at hR
  refine call_fresh true (by kernel_rfl : atC _ _ _ true = some (48, [SV.agg [SC.v (Value.slice A xs.length c), SC.v (Value.slice A1 ws.length c1), SC.v (Value.int IntKind.i64 f), SC.bo dn]], some 12, Rg.sq [true, true, false] 2)) (by kernel_rfl) fun L w1 hs => (l4call_ok xs ws f dn A c A1 c1 w1 (rdRow_ext (hs.old 0 rfl) h) (rdRow_ext (hs.old 0 rfl) h2) hl hl2 hl3 hl4).mono ?_
  rw [hT]
  rintro e w2 ⟨A', c', A1', c1', rfl, hf⟩
  refine ⟨.one (.v (.tuple #[.agg #[.slice A' xs.length c', .slice A1' ws.length c1', .int .i64 f', .bool dn'], .bool tk])), _, rfl, hf, ?_⟩
  clear hs hf
  refine go mixed 2000 [2, 4, 16] 3 (St.mk Rg.no [KI.code [true, true, true, false, true], KI.code [true, true, true, true]] [(2, SV.one (SC.ptr 1 0)), (4, SV.one (SC.ptr 2 0)), (16, SV.one (SC.bo !tk))] [LB.mk [SC.v (Value.slice A xs.length c), SC.v (Value.slice A1 ws.length c1), SC.v (Value.int IntKind.i64 f), SC.bo dn] 29, LB.mk [SC.v (Value.slice none 0 0), SC.v (Value.slice none 0 0), SC.v (Value.int IntKind.i64 0), SC.v (Value.bool false)] 29, LB.mk [SC.v (Value.slice A' xs.length c'), SC.v (Value.slice A1' ws.length c1'), SC.v (Value.int IntKind.i64 f'), SC.bo dn'] 29]) (by kernel_rfl) (by kernel_rfl) (by kernel_rfl) ?_
  refine split_at 16 (b := !tk) (by kernel_rfl) (by kernel_rfl) ?_ ?_
  · intro h8
    have hk : syncR xs ws f dn = (⟨xs, ws, f', dn'⟩, 3) := hR.trans (if_neg (by simpa using h8))
    refine go mixed 2000 [2, 3] 2 (St.mk Rg.no [KI.code [true, true, true, false, true, false, true], KI.code [true, true, true, true]] [(2, SV.one (SC.ptr 1 0)), (3, SV.one (SC.v (Value.int IntKind.i64 3)))] [LB.mk [SC.v (Value.slice A xs.length c), SC.v (Value.slice A1 ws.length c1), SC.v (Value.int IntKind.i64 f), SC.bo dn] 29, LB.mk [SC.v (Value.slice A' xs.length c'), SC.v (Value.slice A1' ws.length c1'), SC.v (Value.int IntKind.i64 f'), SC.bo dn'] 29]) (by kernel_rfl) (by kernel_rfl) (by kernel_rfl) ?_
    refine ret_ok (vs := [SV.agg [SC.v (Value.slice A' xs.length c'), SC.v (Value.slice A1' ws.length c1'), SC.v (Value.int IntKind.i64 f'), SC.bo dn'], SV.one (SC.v (Value.int IntKind.i64 3))]) (by kernel_rfl) ?_
    intro L w1 hs
    rw [hk]
    exact ⟨_, _, _, _, rfl, hs.out (As := [_, _])⟩
  intro h8
  have hk : syncR xs ws f dn = (⟨stl (keepI [] true) ws xs ws.length, [], f', dn'⟩, 0) := hR.trans (if_pos (by simpa using h8))
  refine go mixed 2000 [2, 18] 2 (St.mk (Rg.sq [true, true, true, true, false] 1) [KI.code [true, true, true, true, true]] [(2, SV.one (SC.ptr 1 0)), (18, SV.agg [SC.v (Value.slice A' xs.length c'), SC.v (Value.slice A1' ws.length c1'), SC.v (Value.int IntKind.i64 f'), SC.bo dn'])] [LB.mk [SC.v (Value.slice A xs.length c), SC.v (Value.slice A1 ws.length c1), SC.v (Value.int IntKind.i64 f), SC.bo dn] 29, LB.mk [SC.v (Value.slice none 0 0), SC.v (Value.slice none 0 0), SC.v (Value.int IntKind.i64 0), SC.v (Value.bool false)] 29]) (by kernel_rfl) (by kernel_rfl) (by kernel_rfl) ?_
  refine call_fresh true (by kernel_rfl : atC _ _ _ true = some (51, [SV.agg [SC.v (Value.slice A' xs.length c'), SC.v (Value.slice A1' ws.length c1'), SC.v (Value.int IntKind.i64 f'), SC.bo dn'], SV.one (SC.v (Value.slice none 0 0)), SV.one (SC.v (Value.bool true))], some 19, Rg.sq [true, true, true, true, false] 2)) (by kernel_rfl) fun L w1 hs => (l4done_ok xs ws f' dn' _ _ _ _ [] none 0 true w1 (hs.rd 1 rfl) (hs.rd 0 rfl) nilRow hl hl2 hl3 hl4 (by omega) (fun y hy => ⟨(e2.2.2 y hy).1, (e2.2.2 y hy).2.1⟩)).mono ?_
  rintro e w2 ⟨B, b, B1, b1, rfl, hf⟩
  refine ⟨.agg [.v (.slice B _ b), .v (.slice B1 0 b1), .v (.int .i64 f'), .bo dn'], _, rfl, hf, ?_⟩
  clear hs hf
  refine h_erase 2 _ rfl ?_
  refine h_erase 2 _ rfl ?_
  refine go mixed 2000 [2, 3] 2 (St.mk Rg.no [KI.code [true, true, true, true, true]] [(2, SV.one (SC.ptr 1 0)), (3, SV.one (SC.v (Value.int IntKind.i64 0)))] [LB.mk [SC.v (Value.slice A xs.length c), SC.v (Value.slice A1 ws.length c1), SC.v (Value.int IntKind.i64 f), SC.bo dn] 29, LB.mk [SC.v (Value.slice B (DD.mk (stl (keepI [] true) ws xs ws.length) [] f' dn').xs.length b), SC.v (Value.slice B1 0 b1), SC.v (Value.int IntKind.i64 f'), SC.bo dn'] 29]) (by kernel_rfl) (by kernel_rfl) (by kernel_rfl) ?_
  refine ret_ok (vs := [SV.agg [SC.v (Value.slice B (DD.mk (stl (keepI [] true) ws xs ws.length) [] f' dn').xs.length b), SC.v (Value.slice B1 0 b1), SC.v (Value.int IntKind.i64 f'), SC.bo dn'], SV.one (SC.v (Value.int IntKind.i64 0))]) (by kernel_rfl) ?_
  intro L w1 hs
  rw [hk]
  exact ⟨_, _, _, _, rfl, hs.out (As := [_, _])⟩
theorem specCrash_ok (xs : List (List Int)) (ws : List (Int × List Int)) (f : Int) (dn : Bool) (A : Option Addr) (c : Nat) (A1 : Option Addr) (c1 : Nat) (ks : List Bool) (K : Option Addr) (kk : Nat) (w : World) (h : rdRow kB w.heap xs (.slice A xs.length c)) (h2 : rdRow kW w.heap ws (.slice A1 ws.length c1)) (h3 : rdRow kBool w.heap ks (.slice K ks.length kk)) (hl : xs.length ≤ 1048576) (hl2 : ∀ y ∈ xs, y.length ≤ 1048576) (hl3 : ws.length ≤ 1048576) (hl4 : ∀ y ∈ ws, y.2.length ≤ 1048576) :
    Calls Try.prog 21 #[.agg #[.slice A xs.length c, .slice A1 ws.length c1, .int .i64 f, .bool dn], .slice K ks.length kk] w (DkRes1 (crashR xs ws f ks) w) := by
  refine enter (args := [.agg [.v (.slice A xs.length c), .v (.slice A1 ws.length c1), .v (.int .i64 f), .bo dn], .one (.v (.slice K ks.length kk))]) Try.func21 (c := bodyOf Try.f21) rfl rfl (start_LOK _) (start_old w) ?_
  refine go mixed 2000 [1, 2, 4, 6] 2 (St.mk (Rg.sq [true, false, false] 1) [KI.code [true, false, true], KI.code [true, true]] [(1, SV.one (SC.v (Value.slice K ks.length kk))), (2, SV.one (SC.ptr 0 0)), (4, SV.one (SC.ptr 1 0)), (6, SV.agg [SC.v (Value.slice A xs.length c), SC.v (Value.slice A1 ws.length c1), SC.v (Value.int IntKind.i64 f), SC.bo dn])] [LB.mk [SC.v (Value.slice A xs.length c), SC.v (Value.slice A1 ws.length c1), SC.v (Value.int IntKind.i64 f), SC.bo dn] 29, LB.mk [SC.v (Value.slice none 0 0), SC.v (Value.slice none 0 0), SC.v (Value.int IntKind.i64 0), SC.v (Value.bool false)] 29]) (by kernel_rfl) (by kernel_rfl) (by kernel_rfl) ?_
  refine call_pure true (by kernel_rfl : atC _ _ _ true = some (32, [SV.agg [SC.v (Value.slice A xs.length c), SC.v (Value.slice A1 ws.length c1), SC.v (Value.int IntKind.i64 f), SC.bo dn]], some 7, Rg.sq [true, false, false] 2)) (by kernel_rfl) (.one (.bo (okD xs ws f))) (fun L w1 hs => specDiskOk_ok xs ws f dn A c A1 c1 w1 (rdRow_ext (hs.old 0 rfl) h) (rdRow_ext (hs.old 0 rfl) h2) hl hl3) ?_
  refine go mixed 2000 [1, 2, 4, 8] 2 (St.mk Rg.no [KI.code [true, false, true], KI.code [true, true]] [(1, SV.one (SC.v (Value.slice K ks.length kk))), (2, SV.one (SC.ptr 0 0)), (4, SV.one (SC.ptr 1 0)), (8, SV.one (SC.bo !okD xs ws f))] [LB.mk [SC.v (Value.slice A xs.length c), SC.v (Value.slice A1 ws.length c1), SC.v (Value.int IntKind.i64 f), SC.bo dn] 29, LB.mk [SC.v (Value.slice none 0 0), SC.v (Value.slice none 0 0), SC.v (Value.int IntKind.i64 0), SC.v (Value.bool false)] 29]) (by kernel_rfl) (by kernel_rfl) (by kernel_rfl) ?_
  refine split_at 8 (b := !okD xs ws f) (by kernel_rfl) (by kernel_rfl) ?_ ?_
  · intro h1
    have hk : crashR xs ws f ks = ⟨[], [], 0, false⟩ := if_neg fun hk => by
      rw [hk] at h1
      cases h1
    refine go mixed 2000 [4] 2 (St.mk Rg.no [KI.code [true, false, true, false, true], KI.code [true, true]] [(4, SV.one (SC.ptr 1 0))] [LB.mk [SC.v (Value.slice A xs.length c), SC.v (Value.slice A1 ws.length c1), SC.v (Value.int IntKind.i64 f), SC.bo dn] 29, LB.mk [SC.v (Value.slice none 0 0), SC.v (Value.slice none 0 0), SC.v (Value.int IntKind.i64 0), SC.bo false] 29]) (by kernel_rfl) (by kernel_rfl) (by kernel_rfl) ?_
    refine ret_ok (vs := [SV.agg [SC.v (Value.slice none 0 0), SC.v (Value.slice none 0 0), SC.v (Value.int IntKind.i64 0), SC.bo false]]) (by kernel_rfl) ?_
    intro L w1 hs
    rw [hk]
    exact ⟨none, 0, none, 0, rfl, fresh_empty hs.out0⟩
  intro h1
  have e1 : okD xs ws f = true := by simpa using h1
  have e2 := okD_iff.1 e1
  have hR : crashR xs ws f ks = ⟨stl (keepI ks false) ws xs ws.length, [], -1, false⟩ := if_pos e1
  clear h1
  refine go mixed 2000 [4, 10, 11] 2 (St.mk (Rg.sq [true, true, false] 2) [KI.code [true, true, true]] [(4, SV.one (SC.ptr 1 0)), (10, SV.agg [SC.v (Value.slice A xs.length c), SC.v (Value.slice A1 ws.length c1), SC.v (Value.int IntKind.i64 f), SC.bo dn]), (11, SV.one (SC.v (Value.slice K ks.length kk)))] [LB.mk [SC.v (Value.slice A xs.length c), SC.v (Value.slice A1 ws.length c1), SC.v (Value.int IntKind.i64 f), SC.bo dn] 29, LB.mk [SC.v (Value.slice none 0 0), SC.v (Value.slice none 0 0), SC.v (Value.int IntKind.i64 0), SC.v (Value.bool false)] 29]) (by kernel_rfl) (by kernel_rfl) (by kernel_rfl) ?_
  refine call_fresh true (by kernel_rfl : atC _ _ _ true = some (51, [SV.agg [SC.v (Value.slice A xs.length c), SC.v (Value.slice A1 ws.length c1), SC.v (Value.int IntKind.i64 f), SC.bo dn], SV.one (SC.v (Value.slice K ks.length kk)), SV.one (SC.v (Value.bool false))], some 12, Rg.sq [true, true, false] 3)) (by kernel_rfl) fun L w1 hs => (l4done_ok xs ws f dn A c A1 c1 ks K kk false w1 (rdRow_ext (hs.old 0 rfl) h) (rdRow_ext (hs.old 0 rfl) h2) (rdRow_ext (hs.old 0 rfl) h3) hl hl2 hl3 hl4 (by omega) (fun y hy => ⟨(e2.2.2 y hy).1, (e2.2.2 y hy).2.1⟩)).mono ?_
  rintro e w2 ⟨B, b, B1, b1, rfl, hf⟩
  refine ⟨.agg [.v (.slice B _ b), .v (.slice B1 0 b1), .v (.int .i64 f), .bo dn], _, rfl, hf, ?_⟩
  clear hs hf
  refine go mixed 2000 [4] 2 (St.mk Rg.no [KI.code [true, true, true, true, true, true]] [(4, SV.one (SC.ptr 1 0))] [LB.mk [SC.v (Value.slice A xs.length c), SC.v (Value.slice A1 ws.length c1), SC.v (Value.int IntKind.i64 f), SC.bo dn] 29, LB.mk [SC.v (Value.slice B (DD.mk (stl (keepI ks false) ws xs ws.length) [] f dn).xs.length b), SC.v (Value.slice B1 0 b1), SC.v (Value.int IntKind.i64 (-1)), SC.v (Value.bool false)] 29]) (by kernel_rfl) (by kernel_rfl) (by kernel_rfl) ?_
  refine ret_ok (vs := [SV.agg [SC.v (Value.slice B (DD.mk (stl (keepI ks false) ws xs ws.length) [] f dn).xs.length b), SC.v (Value.slice B1 0 b1), SC.v (Value.int IntKind.i64 (-1)), SC.v (Value.bool false)]]) (by kernel_rfl) ?_
  intro L w1 hs
  rw [hR]
  exact ⟨_, _, _, _, rfl, hs.out (As := [_, _])⟩
end Go.Proofs.Ytjbbakckckihnaa.Dk
