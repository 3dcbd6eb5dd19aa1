/- Walks of functions of the program: what each call returns and what it leaves in memory. Conditions: those that each theorem names. -/
import Derived.Test.YtjbbakckckihnaaProg
import Derived.Test.YtjbbakckckihnaaF7
namespace Go.Proofs.Ytjbbakckckihnaa.Dk
set_option linter.unusedVariables false
set_option linter.unusedSimpArgs false
open Go.Proofs.Ytjbbakckckihnaa.Sx Go.Proofs Go.RowKit
set_option maxRecDepth 100000
def kHB : Kn (Hd ⊕ List Int) := kOr kHd kB rfl
def ClPred (F : Nat) (caps : Array Value) (w : World) (S : Nat → Prop) (n : Nat) (is : Nat → Bool) : Prop :=
  ∀ w1 : World, (∀ b, b < w.heap.size → ¬ S b → w1.heap[b]? = w.heap[b]?) → ∀ i, i < n → Calls Try.prog F (#[.int .i64 (i : Int)] ++ caps) w1 fun e w2 => e = .returned (.bool (is i)) ∧ Below w1.heap.size w1 w2
def Agr (h0 : Hp) (T : Nat → Prop) (h' : Hp) : Prop := ∀ b, T b → b < h0.size → h'[b]? = h0[b]?
def Rd2 (h0 : Hp) (T : Nat → Prop) (hW : Hp) (TW : Nat → Prop) (y : List Int) (hd : Hd) : Prop := ∀ h', Agr h0 T h' → Agr hW TW h' → rdRow kU8 h' y hd.v
theorem frz_w {hW : Hp} {TW : Nat → Prop} {ws : List (Int × List Int)} {a : Addr} {n c : Nat} (ho : owRow 59 kW hW TW ws (.slice (some a) n c)) {i : Nat} (hi : i < ws.length) :
    ∃ hd : Hd, hd.n = ws[i].2.length ∧ RdF kU8 hW TW ws[i].2 hd ∧ ∀ h', Agr hW TW h' → cellH h' ((a.add (i * 2)).add 0) = some (.int .i64 ws[i].1) ∧ cellH h' ((a.add (i * 2)).add 1) = some hd.v := by
  obtain ⟨A, c', hv, hc, hm, hcase⟩ := ho
  cases hv
  rcases hcase with h0 | ⟨g, cells, hA, hg, hblk, hcs, T, hT1, hT2, hel⟩
  · omega
  · cases hA
    obtain ⟨cs, ⟨k1, k2, hk, S1, S2, s1, s2, sd, hk1, v, hk2, hov⟩, hcell⟩ := hel i _ (List.getElem?_eq_getElem hi)
    have hk1 : k1 = [.int .i64 ws[i].1] := hk1
    subst hk1 hk2 hk
    obtain ⟨hd, hvd, hrd⟩ := RdF.of (T' := TW) hov (fun b hb => (hT1 i b (s2 b hb)).1)
    obtain ⟨_, _, hvv, _⟩ := id hov
    refine ⟨hd, ?_, hrd, fun h' ha => ?_⟩
    · rw [hvv] at hvd
      cases hd
      cases hvd
      rfl
    · have hg' : h'[g]? = some (.cells cells 59 (0, 0)) := (ha g hg (Array.getElem?_eq_some_iff.1 hblk).1).trans hblk
      have h1 := hcell 0 _ rfl
      have h2 := hcell 1 _ rfl
      rw [hvd] at h2
      constructor
      · rw [add_add, add_at]
        simp only [cellH, hg', Option.isSome_none, Bool.false_eq_true, if_false, Nat.zero_add]
        exact h1
      · rw [add_add, add_at]
        simp only [cellH, hg', Option.isSome_none, Bool.false_eq_true, if_false, Nat.zero_add]
        exact h2
theorem mix_step (zs : List (List Int)) (hds : List Hd) {j : Nat} (hj : j < zs.length) (hl : hds.length = zs.length) :
    (((zs.take j).map (Sum.inr : List Int → Hd ⊕ List Int)) ++ (hds.drop j).map Sum.inl).set j (Sum.inr zs[j]) = ((zs.take (j + 1)).map Sum.inr) ++ (hds.drop (j + 1)).map Sum.inl := by
  apply List.ext_getElem?
  intro k
  simp only [List.getElem?_set, List.getElem?_append, List.length_map, List.length_take, List.getElem?_map, List.getElem?_drop, List.getElem?_take, List.length_append, List.length_drop]
  by_cases h1 : j = k
  · subst h1
    rw [if_pos rfl, if_pos (by omega), if_pos (by omega), if_pos (by omega), List.getElem?_eq_getElem hj]
    rfl
  · rcases Nat.lt_or_ge k j with h2 | h2
    · simp [h1, h2, Nat.min_eq_left (Nat.le_of_lt hj), show k < j + 1 by omega, show min (j+1) zs.length = j + 1 by omega]
    · simp [h1, show ¬ k < j by omega, show ¬ k < j + 1 by omega, show min j zs.length = j by omega, show min (j+1) zs.length = j + 1 by omega, show j + (k - j) = k by omega, show j + 1 + (k - (j + 1)) = k by omega]
theorem mix_get (zs : List (List Int)) (hds : List Hd) {j : Nat} (hj : j < zs.length) (hl : hds.length = zs.length) :
    (((zs.take j).map (Sum.inr : List Int → Hd ⊕ List Int)) ++ (hds.drop j).map Sum.inl)[j]? = some (Sum.inl (hds[j]'(by omega))) := by
  rw [List.getElem?_append_right (by simp; omega)]
  simp [show min j zs.length = j by omega, List.getElem?_eq_getElem (show j < hds.length by omega)]
theorem stl_all {is : Nat → Bool} {ws : List (Int × List Int)} {xs : List (List Int)} {p : List Int → Prop} (hx : ∀ y ∈ xs, p y) (hw : ∀ y ∈ ws, p y.2) : ∀ i, ∀ y ∈ stl is ws xs i, p y
  | 0 => hx
  | i + 1 => by
    intro y hy
    unfold stl at hy
    split at hy
    · split at hy
      · rename_i z hz
        rcases List.mem_or_eq_of_mem_set hy with h | h
        · exact stl_all hx hw i y h
        · rw [h]
          exact hw z (List.mem_of_getElem? hz)
      · exact stl_all hx hw i y hy
    · exact stl_all hx hw i y hy
theorem rd_el {α : Type} {d : Kn α} {h : Hp} {xs : List α} {a : Addr} {n c : Nat} (hr : rdRow d h xs (.slice (some a) n c)) {i : Nat} {x : α} (hx : xs[i]? = some x) : ∃ cs, d.rd h x cs ∧ ∀ j u, cs[j]? = some u → cellH h (a.add (i * d.sz + j)) = some u := by
  obtain ⟨A, c', hv, _, _, hel⟩ := hr
  cases hv
  exact hel a rfl i x hx
theorem settle1_ok (F : Nat) (hF : goesB Try.prog F = true) (cv : Value) (is : Nat → Bool) (xs : List (List Int)) (ws : List (Int × List Int)) (f : Int) (dn : Bool) (A : Option Addr) (c : Nat) (A1 : Option Addr) (c1 : Nat) (g : Nat) (S : Nat → Prop) (w : World)
    (h : sepL [blkA g [.slice A xs.length c, .slice A1 ws.length c1, .int .i64 f, .bool dn] 29, rowA 59 kW ws (.slice A1 ws.length c1), rowA 36 kB xs (.slice A xs.length c)] w.heap S) (hS : ∀ b, S b → b < w.heap.size)
    (hcl : ClPred F #[cv] w S ws.length is) (hl : xs.length ≤ 1048576) (hl2 : ∀ y ∈ xs, y.length ≤ 1048576) (hl3 : ws.length ≤ 1048576) (hl4 : ∀ y ∈ ws, y.2.length ≤ 1048576) (hne : 0 < xs.length) (hat : ∀ y ∈ ws, 0 ≤ y.1 ∧ y.1 < (xs.length : Int)) :
    Calls Try.prog 52 #[.pointer (some ⟨g, 0, none⟩), .func (.func F) #[] #[cv]] w fun e w' => ∃ A' c', e = .returned (.tuple #[]) ∧
      Mut w w' S [blkA g [.slice A' xs.length c', .slice none 0 0, .int .i64 f, .bool dn] 29, rowA 36 kB (stl is ws xs ws.length) (.slice A' xs.length c')] := by
  have hgS : S g := by obtain ⟨S1, _, h1, _, _, ⟨hg, _⟩, _⟩ := h; exact h1 g hg
  have hst := start_ptr (cells := [.v (.slice A xs.length c), .v (.slice A1 ws.length c1), .v (.int .i64 f), .bo dn]) h hS rfl
  refine enter (L0 := [g]) (args := [.one (.ptr 0 0), .one (.v (.func (.func F) #[] #[cv]))]) Try.func52 (c := bodyOf Try.f52) rfl rfl hst.1 hst.2 ?_
  clear hst
  refine h_frz fun hW TW hoW => ?_
  refine h_swap ?_
  refine h_own_g hne fun gx hgx => ?_
  subst hgx
  refine h_shell (e' := 5) (d := kU8) (dr := kB) (hsz := rfl) fun hds h0 T hdl hdr => ?_
  refine go mixed 2000 [0, 1, 11, 12, 13] 1 (St.mk Rg.no [KI.loop [false, true, true, true], KI.block 0, KI.code [true]] [(0, SV.one (SC.ptr 0 0)), (1, SV.one (SC.v (Value.func (Fn.func F) #[] #[cv]))), (11, SV.one (SC.v (Value.slice A1 ws.length c1))), (12, SV.one (SC.v (Value.int IntKind.i64 (↑ws.length : Int)))), (13, SV.one (SC.v (Value.int IntKind.i64 0)))] [LB.mk [SC.v (Value.slice (some (Addr.mk gx 0 none)) xs.length c), SC.v (Value.slice A1 ws.length c1), SC.v (Value.int IntKind.i64 f), SC.bo dn] 29]) (by kernel_rfl) (by kernel_rfl) (by kernel_rfl) ?_
  refine loop_at (ι := Nat × List Hd) (fun s => [(13, .one (.v (.int .i64 s.1)))]) (fun s => []) (fun s => [rowA 36 kHB (s.2.map .inl) (.slice (some ⟨gx, 0, none⟩) xs.length c), frzA h0 T, frzA hW TW, oldX w S]) (fun s => s.1 ≤ ws.length ∧ s.2.length = xs.length ∧ ∀ (k : Nat) (y : List Int) (hd : Hd), (stl is ws xs s.1)[k]? = some y → s.2[k]? = some hd → Rd2 h0 T hW TW y hd) (fun s => ws.length - s.1) (0, hds) rfl rfl rfl ⟨Nat.zero_le _, hdl, fun k y hd hy hh h' ha1 ha2 => hdr k y hd hy hh h' ha1⟩ ?_
  intro s hi ih
  refine go mixed 2000 [0, 1, 11, 12, 13, 14] 1 (St.mk Rg.no [KI.code [false, true, true, true, true, false], KI.code [false, true, true, true, true, true], KI.loop [false, true, true, true], KI.block 0, KI.code [true]] [(0, SV.one (SC.ptr 0 0)), (1, SV.one (SC.v (Value.func (Fn.func F) #[] #[cv]))), (11, SV.one (SC.v (Value.slice A1 ws.length c1))), (12, SV.one (SC.v (Value.int IntKind.i64 (↑ws.length : Int)))), (13, SV.one (SC.v (Value.int IntKind.i64 (↑s.fst : Int)))), (14, SV.one (SC.bo (decide ((↑s.fst : Int) < (↑ws.length : Int)))))] [LB.mk [SC.v (Value.slice (some (Addr.mk gx 0 none)) xs.length c), SC.v (Value.slice A1 ws.length c1), SC.v (Value.int IntKind.i64 f), SC.bo dn] 29]) (by kernel_rfl) (by kernel_rfl) (by kernel_rfl) ?_
  obtain ⟨i, hs1⟩ := s
  simp only at hi ih ⊢
  refine split_at 14 (b := decide ((↑i : Int) < (↑ws.length : Int))) (by kernel_rfl) (by kernel_rfl) ?_ ?_
  · intro h1
    have hlt : i < ws.length := by simpa using h1
    clear h1
    refine go mixed 2000 [0, 1, 11, 12, 13, 15] 1 (St.mk (Rg.sq [false, true, true, true, true, true, false, true, false] 1) [KI.code [false, true, true, true, true, true, false, true, true], KI.block 1, KI.code [false, true, true, true, true, true, true], KI.loop [false, true, true, true], KI.block 0, KI.code [true]] [(0, SV.one (SC.ptr 0 0)), (1, SV.one (SC.v (Value.func (Fn.func F) #[] #[cv]))), (11, SV.one (SC.v (Value.slice A1 ws.length c1))), (12, SV.one (SC.v (Value.int IntKind.i64 (↑ws.length : Int)))), (13, SV.one (SC.v (Value.int IntKind.i64 (↑i : Int)))), (15, SV.one (SC.v (Value.int IntKind.i64 (↑i : Int))))] [LB.mk [SC.v (Value.slice (some (Addr.mk gx 0 none)) xs.length c), SC.v (Value.slice A1 ws.length c1), SC.v (Value.int IntKind.i64 f), SC.bo dn] 29]) (by kernel_rfl) (by kernel_rfl) (by kernel_rfl) ?_
    refine index_at 1 (by kernel_rfl : atP _ _ _ 1 false = some (Op.indexAddr 27 (Operand.tmp 11) (Operand.tmp 13), 0, some 16, Rg.sq [false, true, true, true, true, true, false, true, false] 2)) (sz := 2) (by kernel_rfl) rfl rfl rfl hlt (fun L w1 hs => rd_some (hs.frzrd hoW 2 rfl) hlt) ?_
    intro a1 ha1; cases ha1
    refine go mixed 2000 [0, 1, 11, 12, 13, 15, 16] 1 (St.mk (Rg.sq [false, true, true, true, true, true, false, true, false] 2) [KI.code [false, true, true, true, true, true, false, true, true], KI.block 1, KI.code [false, true, true, true, true, true, true], KI.loop [false, true, true, true], KI.block 0, KI.code [true]] [(0, SV.one (SC.ptr 0 0)), (1, SV.one (SC.v (Value.func (Fn.func F) #[] #[cv]))), (11, SV.one (SC.v (Value.slice (some a1) ws.length c1))), (12, SV.one (SC.v (Value.int IntKind.i64 (↑ws.length : Int)))), (13, SV.one (SC.v (Value.int IntKind.i64 (↑i : Int)))), (15, SV.one (SC.v (Value.int IntKind.i64 (↑i : Int)))), (16, SV.one (SC.v (Value.pointer (some (a1.add (i * 2))))))] [LB.mk [SC.v (Value.slice (some (Addr.mk gx 0 none)) xs.length c), SC.v (Value.slice (some a1) ws.length c1), SC.v (Value.int IntKind.i64 f), SC.bo dn] 29]) (by kernel_rfl) (by kernel_rfl) (by kernel_rfl) ?_
    obtain ⟨hd, hdn, hdR, hdC⟩ := frz_w hoW hlt
    obtain ⟨Ai, n1, ci⟩ := hd
    simp only at hdn
    subst hdn
    refine load_agg 2 (by kernel_rfl : atP _ _ _ 2 true = some (Op.load 59 (Operand.tmp 16), 59, some 17, Rg.sq [false, true, true, true, true, true, false, true, false] 3)) (n := 2) (by kernel_rfl) rfl ?_
    intro L w1 hs
    refine ⟨[.v (.int .i64 (ws[i]).1), .v (.slice Ai (ws[i]).2.length ci)], rfl, fun j c hj => ?_, ?_⟩
    · match j, hj with
      | 0, hj => cases hj; exact (hdC _ (hs.frz 2 rfl)).1
      | 1, hj => cases hj; exact (hdC _ (hs.frz 2 rfl)).2
    clear hs
    refine go mixed 2000 [0, 1, 5, 11, 12, 13, 18, 19] 2 (St.mk (Rg.sq [false, true, true, true, true, true, false, true, true, false] 2) [KI.code [false, true, true, true, true, true, false, true, true, true], KI.block 1, KI.code [false, true, true, true, true, true, true], KI.loop [false, true, true, true], KI.block 0, KI.code [true]] [(0, SV.one (SC.ptr 0 0)), (1, SV.one (SC.v (Value.func (Fn.func F) #[] #[cv]))), (5, SV.one (SC.ptr 1 0)), (11, SV.one (SC.v (Value.slice (some a1) ws.length c1))), (12, SV.one (SC.v (Value.int IntKind.i64 (↑ws.length : Int)))), (13, SV.one (SC.v (Value.int IntKind.i64 (↑i : Int)))), (18, SV.one (SC.v (Value.func (Fn.func F) #[] #[cv]))), (19, SV.one (SC.v (Value.int IntKind.i64 (↑i : Int))))] [LB.mk [SC.v (Value.slice (some (Addr.mk gx 0 none)) xs.length c), SC.v (Value.slice (some a1) ws.length c1), SC.v (Value.int IntKind.i64 f), SC.bo dn] 29, LB.mk [SC.v (Value.int IntKind.i64 ws[i].fst), SC.v (Value.slice Ai ws[i].snd.length ci)] 59]) (by kernel_rfl) (by kernel_rfl) (by kernel_rfl) ?_
    refine call_pure true (by kernel_rfl : atC _ _ _ true = some (F, [SV.one (SC.v (Value.int IntKind.i64 (↑i : Int))), SV.one (SC.v cv)], some 20, Rg.sq [false, true, true, true, true, true, false, true, true, false] 3)) hF (.one (.bo (is i))) (fun L w1 hs => hcl w1 (hs.oldx 3 rfl) i hlt) ?_
    refine go mixed 2000 [0, 1, 5, 11, 12, 13, 20] 2 (St.mk Rg.no [KI.code [false, true, true, true, true, true, false, true, true, true], KI.block 1, KI.code [false, true, true, true, true, true, true], KI.loop [false, true, true, true], KI.block 0, KI.code [true]] [(0, SV.one (SC.ptr 0 0)), (1, SV.one (SC.v (Value.func (Fn.func F) #[] #[cv]))), (5, SV.one (SC.ptr 1 0)), (11, SV.one (SC.v (Value.slice (some a1) ws.length c1))), (12, SV.one (SC.v (Value.int IntKind.i64 (↑ws.length : Int)))), (13, SV.one (SC.v (Value.int IntKind.i64 (↑i : Int)))), (20, SV.one (SC.bo (is i)))] [LB.mk [SC.v (Value.slice (some (Addr.mk gx 0 none)) xs.length c), SC.v (Value.slice (some a1) ws.length c1), SC.v (Value.int IntKind.i64 f), SC.bo dn] 29, LB.mk [SC.v (Value.int IntKind.i64 ws[i].fst), SC.v (Value.slice Ai ws[i].snd.length ci)] 59]) (by kernel_rfl) (by kernel_rfl) (by kernel_rfl) ?_
    refine split_at 20 (b := is i) (by kernel_rfl) (by kernel_rfl) ?_ ?_
    · intro h2
      have hat1 := hat _ (List.getElem_mem hlt)
      refine go mixed 2000 [0, 1, 11, 12, 13, 24, 26, 28] 1 (St.mk (Rg.dr [false, true, true, true, true, true, false, true, true, true, false] [true, true, true, true, true, true, true, true, false, false] 2 2) [KI.block 1, KI.code [false, true, true, true, true, true, true], KI.loop [false, true, true, true], KI.block 0, KI.code [true]] [(0, SV.one (SC.ptr 0 0)), (1, SV.one (SC.v (Value.func (Fn.func F) #[] #[cv]))), (11, SV.one (SC.v (Value.slice (some a1) ws.length c1))), (12, SV.one (SC.v (Value.int IntKind.i64 (↑ws.length : Int)))), (13, SV.one (SC.v (Value.int IntKind.i64 (↑i : Int)))), (24, SV.one (SC.v (Value.slice (some (Addr.mk gx 0 none)) xs.length c))), (26, SV.one (SC.v (Value.int IntKind.i64 ws[i].fst))), (28, SV.one (SC.v (Value.slice Ai ws[i].snd.length ci)))] [LB.mk [SC.v (Value.slice (some (Addr.mk gx 0 none)) xs.length c), SC.v (Value.slice (some a1) ws.length c1), SC.v (Value.int IntKind.i64 f), SC.bo dn] 29]) (by kernel_rfl) (by kernel_rfl) (by kernel_rfl) ?_
      refine index_at 8 (by kernel_rfl : atP _ _ _ 8 false = some (Op.indexAddr 22 (Operand.tmp 24) (Operand.tmp 26), 0, some 29, Rg.dr [false, true, true, true, true, true, false, true, true, true, false] [true, true, true, true, true, true, true, true, true, false] 1 2)) (sz := 1) (ni := (ws[i]).1.toNat) (by kernel_rfl) rfl rfl (Int.toNat_of_nonneg hat1.1).symm (by omega) (fun L w1 hs => ⟨_, rfl⟩) ?_
      intro a2 ha2; cases ha2
      refine go mixed 2000 [0, 1, 11, 12, 13, 28, 29] 1 (St.mk (Rg.dr [false, true, true, true, true, true, false, true, true, true, false] [true, true, true, true, true, true, true, true, true, false] 1 2) [KI.block 1, KI.code [false, true, true, true, true, true, true], KI.loop [false, true, true, true], KI.block 0, KI.code [true]] [(0, SV.one (SC.ptr 0 0)), (1, SV.one (SC.v (Value.func (Fn.func F) #[] #[cv]))), (11, SV.one (SC.v (Value.slice (some a1) ws.length c1))), (12, SV.one (SC.v (Value.int IntKind.i64 (↑ws.length : Int)))), (13, SV.one (SC.v (Value.int IntKind.i64 (↑i : Int)))), (28, SV.one (SC.v (Value.slice Ai ws[i].snd.length ci))), (29, SV.one (SC.v (Value.pointer (some ((Addr.mk gx 0 none).add (ws[i].fst.toNat * 1))))))] [LB.mk [SC.v (Value.slice (some (Addr.mk gx 0 none)) xs.length c), SC.v (Value.slice (some a1) ws.length c1), SC.v (Value.int IntKind.i64 f), SC.bo dn] 29]) (by kernel_rfl) (by kernel_rfl) (by kernel_rfl) ?_
      refine store_el (A := []) (d := kHB) (y := .inl ⟨Ai, (ws[i]).2.length, ci⟩) (by kernel_rfl : atB _ _ _ false = some (Op.store 36 (Operand.tmp 29) (Operand.tmp 28), 0, none, Rg.dr [false, true, true, true, true, true, false, true, true, true, false] [true, true, true, true, true, true, true, true, true, true] 0 0)) (by kernel_rfl) rfl rfl rfl rfl rfl (by rw [List.length_map]; omega) (fun _ _ _ => rfl) ?_
      rw [← List.map_set]
      refine go mixed 2000 [0, 1, 11, 12, 13] 1 (St.mk Rg.no [KI.loop [false, true, true, true], KI.block 0, KI.code [true]] [(0, SV.one (SC.ptr 0 0)), (1, SV.one (SC.v (Value.func (Fn.func F) #[] #[cv]))), (11, SV.one (SC.v (Value.slice (some a1) ws.length c1))), (12, SV.one (SC.v (Value.int IntKind.i64 (↑ws.length : Int)))), (13, SV.one (SC.v (Value.int IntKind.i64 (IntKind.i64.wrap ((↑i : Int) + 1)))))] [LB.mk [SC.v (Value.slice (some (Addr.mk gx 0 none)) xs.length c), SC.v (Value.slice (some a1) ws.length c1), SC.v (Value.int IntKind.i64 f), SC.bo dn] 29]) (by kernel_rfl) (by kernel_rfl) (by kernel_rfl) ?_
      rw [wrap_succ (by omega)]
      exact ih (i + 1, hs1.set (ws[i]).1.toNat ⟨Ai, (ws[i]).2.length, ci⟩) ⟨hlt, by rw [List.length_set]; exact hi.2.1, fun k y hd hy hh h' ha1 ha2 => by
        simp only [stl_do h2 hlt] at hy
        rw [List.getElem?_set] at hy hh
        by_cases hk : (ws[i]).1.toNat = k
        · rw [if_pos hk] at hy hh
          split at hh
          · cases hh
            split at hy
            · cases hy
              exact hdR h' ha2
            · cases hy
          · cases hh
        · rw [if_neg hk] at hy hh
          exact hi.2.2 k y hd hy hh h' ha1 ha2⟩ (by simp only; omega)
    intro h2
    refine go mixed 2000 [0, 1, 11, 12, 13] 1 (St.mk Rg.no [KI.loop [false, true, true, true], KI.block 0, KI.code [true]] [(0, SV.one (SC.ptr 0 0)), (1, SV.one (SC.v (Value.func (Fn.func F) #[] #[cv]))), (11, SV.one (SC.v (Value.slice (some a1) ws.length c1))), (12, SV.one (SC.v (Value.int IntKind.i64 (↑ws.length : Int)))), (13, SV.one (SC.v (Value.int IntKind.i64 (IntKind.i64.wrap ((↑i : Int) + 1)))))] [LB.mk [SC.v (Value.slice (some (Addr.mk gx 0 none)) xs.length c), SC.v (Value.slice (some a1) ws.length c1), SC.v (Value.int IntKind.i64 f), SC.bo dn] 29]) (by kernel_rfl) (by kernel_rfl) (by kernel_rfl) ?_
    rw [wrap_succ (by omega)]
    exact ih (i + 1, hs1) ⟨hlt, hi.2.1, fun k y hd hy hh => hi.2.2 k y hd (by rw [stl_not h2] at hy; exact hy) hh⟩ (by simp only; omega)
  intro h1
  have hge : i = ws.length := by
    have : ¬ i < ws.length := by simpa using h1
    omega
  subst hge
  clear h1 ih
  obtain ⟨_, hlen, hrd⟩ := hi
  have hzl := stl_len is ws xs ws.length
  generalize hz : stl is ws xs ws.length = zs at hrd hzl
  have hzb : ∀ y ∈ zs, y.length ≤ 1048576 := hz ▸ stl_all hl2 hl4 ws.length
  refine go mixed 2000 [0, 37, 38, 39] 1 (St.mk Rg.no [KI.loop [true, true, true, true, true], KI.block 2] [(0, SV.one (SC.ptr 0 0)), (37, SV.one (SC.v (Value.slice (some (Addr.mk gx 0 none)) xs.length c))), (38, SV.one (SC.v (Value.int IntKind.i64 (↑xs.length : Int)))), (39, SV.one (SC.v (Value.int IntKind.i64 0)))] [LB.mk [SC.v (Value.slice (some (Addr.mk gx 0 none)) xs.length c), SC.v (Value.slice none 0 0), SC.v (Value.int IntKind.i64 f), SC.bo dn] 29]) (by kernel_rfl) (by kernel_rfl) (by kernel_rfl) ?_
  refine loop_at (ι := Nat) (fun j => [(39, .one (.v (.int .i64 j)))]) (fun j => []) (fun j => [rowA 36 kHB (((zs.take j).map .inr) ++ (hs1.drop j).map .inl) (.slice (some ⟨gx, 0, none⟩) xs.length c), frzA h0 T, frzA hW TW, oldX w S]) (fun j => j ≤ xs.length) (fun j => xs.length - j) 0 rfl rfl (by simp) (Nat.zero_le _) ?_
  intro j hj ih
  refine go mixed 2000 [0, 37, 38, 39, 40] 1 (St.mk Rg.no [KI.code [true, true, true, true, true, true, false], KI.code [true, true, true, true, true, true, true], KI.loop [true, true, true, true, true], KI.block 2] [(0, SV.one (SC.ptr 0 0)), (37, SV.one (SC.v (Value.slice (some (Addr.mk gx 0 none)) xs.length c))), (38, SV.one (SC.v (Value.int IntKind.i64 (↑xs.length : Int)))), (39, SV.one (SC.v (Value.int IntKind.i64 (↑j : Int)))), (40, SV.one (SC.bo (decide ((↑j : Int) < (↑xs.length : Int)))))] [LB.mk [SC.v (Value.slice (some (Addr.mk gx 0 none)) xs.length c), SC.v (Value.slice none 0 0), SC.v (Value.int IntKind.i64 f), SC.bo dn] 29]) (by kernel_rfl) (by kernel_rfl) (by kernel_rfl) ?_
  refine split_at 40 (b := decide ((↑j : Int) < (↑xs.length : Int))) (by kernel_rfl) (by kernel_rfl) ?_ ?_
  · intro h1
    have hlt : j < xs.length := by simpa using h1
    have hlz : j < zs.length := by omega
    clear h1
    refine go mixed 2000 [0, 37, 38, 39, 41] 1 (St.mk (Rg.sq [true, true, true, true, true, true, true, false, true, false] 1) [KI.code [true, true, true, true, true, true, true, false, true, true], KI.block 3, KI.code [true, true, true, true, true, true, true, true], KI.loop [true, true, true, true, true], KI.block 2] [(0, SV.one (SC.ptr 0 0)), (37, SV.one (SC.v (Value.slice (some (Addr.mk gx 0 none)) xs.length c))), (38, SV.one (SC.v (Value.int IntKind.i64 (↑xs.length : Int)))), (39, SV.one (SC.v (Value.int IntKind.i64 (↑j : Int)))), (41, SV.one (SC.v (Value.int IntKind.i64 (↑j : Int))))] [LB.mk [SC.v (Value.slice (some (Addr.mk gx 0 none)) xs.length c), SC.v (Value.slice none 0 0), SC.v (Value.int IntKind.i64 f), SC.bo dn] 29]) (by kernel_rfl) (by kernel_rfl) (by kernel_rfl) ?_
    refine index_at 1 (by kernel_rfl : atP _ _ _ 1 false = some (Op.indexAddr 22 (Operand.tmp 37) (Operand.tmp 39), 0, some 42, Rg.sq [true, true, true, true, true, true, true, false, true, false] 2)) (sz := 1) (by kernel_rfl) rfl rfl rfl hlt (fun L w1 hs => ⟨_, rfl⟩) ?_
    intro a1 ha1; cases ha1
    refine go mixed 2000 [0, 37, 38, 39, 41, 42] 1 (St.mk (Rg.sq [true, true, true, true, true, true, true, false, true, false] 2) [KI.code [true, true, true, true, true, true, true, false, true, true], KI.block 3, KI.code [true, true, true, true, true, true, true, true], KI.loop [true, true, true, true, true], KI.block 2] [(0, SV.one (SC.ptr 0 0)), (37, SV.one (SC.v (Value.slice (some (Addr.mk gx 0 none)) xs.length c))), (38, SV.one (SC.v (Value.int IntKind.i64 (↑xs.length : Int)))), (39, SV.one (SC.v (Value.int IntKind.i64 (↑j : Int)))), (41, SV.one (SC.v (Value.int IntKind.i64 (↑j : Int)))), (42, SV.one (SC.v (Value.pointer (some ((Addr.mk gx 0 none).add (j * 1))))))] [LB.mk [SC.v (Value.slice (some (Addr.mk gx 0 none)) xs.length c), SC.v (Value.slice none 0 0), SC.v (Value.int IntKind.i64 f), SC.bo dn] 29]) (by kernel_rfl) (by kernel_rfl) (by kernel_rfl) ?_
    obtain ⟨hd, hhd⟩ : ∃ hd, hs1[j]? = some hd := ⟨_, List.getElem?_eq_getElem (by omega)⟩
    have hrj := hrd j _ hd (List.getElem?_eq_getElem hlz) hhd
    have hdn : (∀ h', Agr h0 T h' → Agr hW TW h' → hd.n = (zs[j]).length) := fun h' b1 b2 => by
      obtain ⟨_, _, hv, _⟩ := hrj h' b1 b2
      cases hd
      cases hv
      rfl
    obtain ⟨Ai, n1, ci⟩ := hd
    refine load_one 2 (by kernel_rfl : atP _ _ _ 2 true = some (Op.load 36 (Operand.tmp 42), 36, some 43, Rg.sq [true, true, true, true, true, true, true, false, true, false] 3)) (n := 1) (by kernel_rfl) rfl ?_
    intro L w1 hs
    have hdn := hdn _ (hs.frz 1 rfl) (hs.frz 2 rfl)
    simp only at hdn
    subst hdn
    refine ⟨.v (.slice Ai (zs[j]).length ci), ?_, ?_⟩
    · obtain ⟨cs, hcs, hcell⟩ := rd_el (hs.rd 0 rfl) (mix_get zs hs1 hlz (by omega))
      rw [List.getElem?_eq_getElem (by omega)] at hhd
      rw [Option.some.inj hhd] at hcs
      have hcs : cs = [.slice Ai (zs[j]).length ci] := hcs
      subst hcs
      exact hcell 0 _ rfl
    clear hs
    refine go mixed 2000 [0, 37, 38, 39, 47, 48, 49] 1 (St.mk (Rg.dr [true, true, true, true, true, true, true, false, true, true] [true, true, true, true, true, true, false, false, false] 3 2) [KI.block 3, KI.code [true, true, true, true, true, true, true, true], KI.loop [true, true, true, true, true], KI.block 2] [(0, SV.one (SC.ptr 0 0)), (37, SV.one (SC.v (Value.slice (some (Addr.mk gx 0 none)) xs.length c))), (38, SV.one (SC.v (Value.int IntKind.i64 (↑xs.length : Int)))), (39, SV.one (SC.v (Value.int IntKind.i64 (↑j : Int)))), (47, SV.one (SC.v (Value.slice (some (Addr.mk gx 0 none)) xs.length c))), (48, SV.one (SC.v (Value.int IntKind.i64 (↑j : Int)))), (49, SV.one (SC.v (Value.slice Ai zs[j].length ci)))] [LB.mk [SC.v (Value.slice (some (Addr.mk gx 0 none)) xs.length c), SC.v (Value.slice none 0 0), SC.v (Value.int IntKind.i64 f), SC.bo dn] 29]) (by kernel_rfl) (by kernel_rfl) (by kernel_rfl) ?_
    refine call_fresh true (by kernel_rfl : atC _ _ _ true = some (69, [SV.one (SC.v (Value.slice Ai zs[j].length ci))], some 50, Rg.dr [true, true, true, true, true, true, true, false, true, true] [true, true, true, true, true, true, true, false, false] 2 1)) (by kernel_rfl) fun L w1 hs => (clone_ok (zs[j]) Ai ci w1 (hrj _ (hs.frz 1 rfl) (hs.frz 2 rfl)) (hzb _ (List.getElem_mem hlz))).mono ?_
    rintro e w2 ⟨Y, y, rfl, hf⟩
    refine ⟨.one (.v (.slice Y (zs[j]).length y)), [rowA 5 kU8 (zs[j]) (.slice Y (zs[j]).length y)], rfl, hf, ?_⟩
    clear hs hf
    refine go mixed 2000 [0, 37, 38, 39, 47, 48, 50] 1 (St.mk (Rg.dr [true, true, true, true, true, true, true, false, true, true] [true, true, true, true, true, true, true, false, false] 2 1) [KI.block 3, KI.code [true, true, true, true, true, true, true, true], KI.loop [true, true, true, true, true], KI.block 2] [(0, SV.one (SC.ptr 0 0)), (37, SV.one (SC.v (Value.slice (some (Addr.mk gx 0 none)) xs.length c))), (38, SV.one (SC.v (Value.int IntKind.i64 (↑xs.length : Int)))), (39, SV.one (SC.v (Value.int IntKind.i64 (↑j : Int)))), (47, SV.one (SC.v (Value.slice (some (Addr.mk gx 0 none)) xs.length c))), (48, SV.one (SC.v (Value.int IntKind.i64 (↑j : Int)))), (50, SV.one (SC.v (Value.slice Y zs[j].length y)))] [LB.mk [SC.v (Value.slice (some (Addr.mk gx 0 none)) xs.length c), SC.v (Value.slice none 0 0), SC.v (Value.int IntKind.i64 f), SC.bo dn] 29]) (by kernel_rfl) (by kernel_rfl) (by kernel_rfl) ?_
    refine index_at 7 (by kernel_rfl : atP _ _ _ 7 false = some (Op.indexAddr 22 (Operand.tmp 47) (Operand.tmp 48), 0, some 51, Rg.dr [true, true, true, true, true, true, true, false, true, true] [true, true, true, true, true, true, true, true, false] 1 1)) (sz := 1) (by kernel_rfl) rfl rfl rfl hlt (fun L w1 hs => ⟨_, rfl⟩) ?_
    intro a2 ha2; cases ha2
    refine go mixed 2000 [0, 37, 38, 39, 50, 51] 1 (St.mk (Rg.dr [true, true, true, true, true, true, true, false, true, true] [true, true, true, true, true, true, true, true, false] 1 1) [KI.block 3, KI.code [true, true, true, true, true, true, true, true], KI.loop [true, true, true, true, true], KI.block 2] [(0, SV.one (SC.ptr 0 0)), (37, SV.one (SC.v (Value.slice (some (Addr.mk gx 0 none)) xs.length c))), (38, SV.one (SC.v (Value.int IntKind.i64 (↑xs.length : Int)))), (39, SV.one (SC.v (Value.int IntKind.i64 (↑j : Int)))), (50, SV.one (SC.v (Value.slice Y zs[j].length y))), (51, SV.one (SC.v (Value.pointer (some ((Addr.mk gx 0 none).add (j * 1))))))] [LB.mk [SC.v (Value.slice (some (Addr.mk gx 0 none)) xs.length c), SC.v (Value.slice none 0 0), SC.v (Value.int IntKind.i64 f), SC.bo dn] 29]) (by kernel_rfl) (by kernel_rfl) (by kernel_rfl) ?_
    refine h_swap ?_
    refine store_el (A := [rowA 5 kU8 (zs[j]) (.slice Y (zs[j]).length y)]) (d := kHB) (y := .inr (zs[j])) (by kernel_rfl : atB _ _ _ false = some (Op.store 36 (Operand.tmp 51) (Operand.tmp 50), 0, none, Rg.dr [true, true, true, true, true, true, true, false, true, true] [true, true, true, true, true, true, true, true, true] 0 0)) (by kernel_rfl) rfl rfl rfl rfl rfl (by simp; omega) (fun _ _ hA => row_el hA) ?_
    refine go mixed 2000 [0, 37, 38, 39] 1 (St.mk Rg.no [KI.loop [true, true, true, true, true], KI.block 2] [(0, SV.one (SC.ptr 0 0)), (37, SV.one (SC.v (Value.slice (some (Addr.mk gx 0 none)) xs.length c))), (38, SV.one (SC.v (Value.int IntKind.i64 (↑xs.length : Int)))), (39, SV.one (SC.v (Value.int IntKind.i64 (IntKind.i64.wrap ((↑j : Int) + 1)))))] [LB.mk [SC.v (Value.slice (some (Addr.mk gx 0 none)) xs.length c), SC.v (Value.slice none 0 0), SC.v (Value.int IntKind.i64 f), SC.bo dn] 29]) (by kernel_rfl) (by kernel_rfl) (by kernel_rfl) ?_
    rw [wrap_succ (by omega), mix_step zs hs1 hlz (by omega)]
    exact ih (j + 1) hlt (by omega)
  intro h1
  have hge : j = xs.length := by
    have : ¬ j < xs.length := by simpa using h1
    omega
  subst hge
  rw [List.drop_of_length_le (by omega), List.take_of_length_le (by omega), List.map_nil, List.append_nil]
  refine h_allr ?_
  refine h_erase 1 _ rfl ?_
  refine h_erase 1 _ rfl ?_
  refine go mixed 2000 [] 1 (St.mk Rg.no [] [] [LB.mk [SC.v (Value.slice (some (Addr.mk gx 0 none)) xs.length c), SC.v (Value.slice none 0 0), SC.v (Value.int IntKind.i64 f), SC.bo dn] 29]) (by kernel_rfl) (by kernel_rfl) (by kernel_rfl) ?_
  refine ret_ok (vs := []) (by kernel_rfl) ?_
  intro L w1 hs
  exact ⟨_, _, rfl, hs.outp (As := [_]) rfl rfl hgS⟩
theorem settle0_ok (F : Nat) (hF : goesB Try.prog F = true)  (is : Nat → Bool) (xs : List (List Int)) (ws : List (Int × List Int)) (f : Int) (dn : Bool) (A : Option Addr) (c : Nat) (A1 : Option Addr) (c1 : Nat) (g : Nat) (S : Nat → Prop) (w : World)
    (h : sepL [blkA g [.slice A xs.length c, .slice A1 ws.length c1, .int .i64 f, .bool dn] 29, rowA 59 kW ws (.slice A1 ws.length c1), rowA 36 kB xs (.slice A xs.length c)] w.heap S) (hS : ∀ b, S b → b < w.heap.size)
    (hcl : ClPred F #[] w S ws.length is) (hl : xs.length ≤ 1048576) (hl2 : ∀ y ∈ xs, y.length ≤ 1048576) (hl3 : ws.length ≤ 1048576) (hl4 : ∀ y ∈ ws, y.2.length ≤ 1048576) (hne : 0 < xs.length) (hat : ∀ y ∈ ws, 0 ≤ y.1 ∧ y.1 < (xs.length : Int)) :
    Calls Try.prog 52 #[.pointer (some ⟨g, 0, none⟩), .func (.func F) #[] #[]] w fun e w' => ∃ A' c', e = .returned (.tuple #[]) ∧
      Mut w w' S [blkA g [.slice A' xs.length c', .slice none 0 0, .int .i64 f, .bool dn] 29, rowA 36 kB (stl is ws xs ws.length) (.slice A' xs.length c')] := by
  have hgS : S g := by obtain ⟨S1, _, h1, _, _, ⟨hg, _⟩, _⟩ := h; exact h1 g hg
  have hst := start_ptr (cells := [.v (.slice A xs.length c), .v (.slice A1 ws.length c1), .v (.int .i64 f), .bo dn]) h hS rfl
  refine enter (L0 := [g]) (args := [.one (.ptr 0 0), .one (.v (.func (.func F) #[] #[]))]) Try.func52 (c := bodyOf Try.f52) rfl rfl hst.1 hst.2 ?_
  clear hst
  refine h_frz fun hW TW hoW => ?_
  refine h_swap ?_
  refine h_own_g hne fun gx hgx => ?_
  subst hgx
  refine h_shell (e' := 5) (d := kU8) (dr := kB) (hsz := rfl) fun hds h0 T hdl hdr => ?_
  refine go mixed 2000 [0, 1, 11, 12, 13] 1 (St.mk Rg.no [KI.loop [false, true, true, true], KI.block 0, KI.code [true]] [(0, SV.one (SC.ptr 0 0)), (1, SV.one (SC.v (Value.func (Fn.func F) #[] #[]))), (11, SV.one (SC.v (Value.slice A1 ws.length c1))), (12, SV.one (SC.v (Value.int IntKind.i64 (↑ws.length : Int)))), (13, SV.one (SC.v (Value.int IntKind.i64 0)))] [LB.mk [SC.v (Value.slice (some (Addr.mk gx 0 none)) xs.length c), SC.v (Value.slice A1 ws.length c1), SC.v (Value.int IntKind.i64 f), SC.bo dn] 29]) (by kernel_rfl) (by kernel_rfl) (by kernel_rfl) ?_
  refine loop_at (ι := Nat × List Hd) (fun s => [(13, .one (.v (.int .i64 s.1)))]) (fun s => []) (fun s => [rowA 36 kHB (s.2.map .inl) (.slice (some ⟨gx, 0, none⟩) xs.length c), frzA h0 T, frzA hW TW, oldX w S]) (fun s => s.1 ≤ ws.length ∧ s.2.length = xs.length ∧ ∀ (k : Nat) (y : List Int) (hd : Hd), (stl is ws xs s.1)[k]? = some y → s.2[k]? = some hd → Rd2 h0 T hW TW y hd) (fun s => ws.length - s.1) (0, hds) rfl rfl rfl ⟨Nat.zero_le _, hdl, fun k y hd hy hh h' ha1 ha2 => hdr k y hd hy hh h' ha1⟩ ?_
  intro s hi ih
  refine go mixed 2000 [0, 1, 11, 12, 13, 14] 1 (St.mk Rg.no [KI.code [false, true, true, true, true, false], KI.code [false, true, true, true, true, true], KI.loop [false, true, true, true], KI.block 0, KI.code [true]] [(0, SV.one (SC.ptr 0 0)), (1, SV.one (SC.v (Value.func (Fn.func F) #[] #[]))), (11, SV.one (SC.v (Value.slice A1 ws.length c1))), (12, SV.one (SC.v (Value.int IntKind.i64 (↑ws.length : Int)))), (13, SV.one (SC.v (Value.int IntKind.i64 (↑s.fst : Int)))), (14, SV.one (SC.bo (decide ((↑s.fst : Int) < (↑ws.length : Int)))))] [LB.mk [SC.v (Value.slice (some (Addr.mk gx 0 none)) xs.length c), SC.v (Value.slice A1 ws.length c1), SC.v (Value.int IntKind.i64 f), SC.bo dn] 29]) (by kernel_rfl) (by kernel_rfl) (by kernel_rfl) ?_
  obtain ⟨i, hs1⟩ := s
  simp only at hi ih ⊢
  refine split_at 14 (b := decide ((↑i : Int) < (↑ws.length : Int))) (by kernel_rfl) (by kernel_rfl) ?_ ?_
  · intro h1
    have hlt : i < ws.length := by simpa using h1
    clear h1
    refine go mixed 2000 [0, 1, 11, 12, 13, 15] 1 (St.mk (Rg.sq [false, true, true, true, true, true, false, true, false] 1) [KI.code [false, true, true, true, true, true, false, true, true], KI.block 1, KI.code [false, true, true, true, true, true, true], KI.loop [false, true, true, true], KI.block 0, KI.code [true]] [(0, SV.one (SC.ptr 0 0)), (1, SV.one (SC.v (Value.func (Fn.func F) #[] #[]))), (11, SV.one (SC.v (Value.slice A1 ws.length c1))), (12, SV.one (SC.v (Value.int IntKind.i64 (↑ws.length : Int)))), (13, SV.one (SC.v (Value.int IntKind.i64 (↑i : Int)))), (15, SV.one (SC.v (Value.int IntKind.i64 (↑i : Int))))] [LB.mk [SC.v (Value.slice (some (Addr.mk gx 0 none)) xs.length c), SC.v (Value.slice A1 ws.length c1), SC.v (Value.int IntKind.i64 f), SC.bo dn] 29]) (by kernel_rfl) (by kernel_rfl) (by kernel_rfl) ?_
    refine index_at 1 (by kernel_rfl : atP _ _ _ 1 false = some (Op.indexAddr 27 (Operand.tmp 11) (Operand.tmp 13), 0, some 16, Rg.sq [false, true, true, true, true, true, false, true, false] 2)) (sz := 2) (by kernel_rfl) rfl rfl rfl hlt (fun L w1 hs => rd_some (hs.frzrd hoW 2 rfl) hlt) ?_
    intro a1 ha1; cases ha1
    refine go mixed 2000 [0, 1, 11, 12, 13, 15, 16] 1 (St.mk (Rg.sq [false, true, true, true, true, true, false, true, false] 2) [KI.code [false, true, true, true, true, true, false, true, true], KI.block 1, KI.code [false, true, true, true, true, true, true], KI.loop [false, true, true, true], KI.block 0, KI.code [true]] [(0, SV.one (SC.ptr 0 0)), (1, SV.one (SC.v (Value.func (Fn.func F) #[] #[]))), (11, SV.one (SC.v (Value.slice (some a1) ws.length c1))), (12, SV.one (SC.v (Value.int IntKind.i64 (↑ws.length : Int)))), (13, SV.one (SC.v (Value.int IntKind.i64 (↑i : Int)))), (15, SV.one (SC.v (Value.int IntKind.i64 (↑i : Int)))), (16, SV.one (SC.v (Value.pointer (some (a1.add (i * 2))))))] [LB.mk [SC.v (Value.slice (some (Addr.mk gx 0 none)) xs.length c), SC.v (Value.slice (some a1) ws.length c1), SC.v (Value.int IntKind.i64 f), SC.bo dn] 29]) (by kernel_rfl) (by kernel_rfl) (by kernel_rfl) ?_
    obtain ⟨hd, hdn, hdR, hdC⟩ := frz_w hoW hlt
    obtain ⟨Ai, n1, ci⟩ := hd
    simp only at hdn
    subst hdn
    refine load_agg 2 (by kernel_rfl : atP _ _ _ 2 true = some (Op.load 59 (Operand.tmp 16), 59, some 17, Rg.sq [false, true, true, true, true, true, false, true, false] 3)) (n := 2) (by kernel_rfl) rfl ?_
    intro L w1 hs
    refine ⟨[.v (.int .i64 (ws[i]).1), .v (.slice Ai (ws[i]).2.length ci)], rfl, fun j c hj => ?_, ?_⟩
    · match j, hj with
      | 0, hj => cases hj; exact (hdC _ (hs.frz 2 rfl)).1
      | 1, hj => cases hj; exact (hdC _ (hs.frz 2 rfl)).2
    clear hs
    refine go mixed 2000 [0, 1, 5, 11, 12, 13, 18, 19] 2 (St.mk (Rg.sq [false, true, true, true, true, true, false, true, true, false] 2) [KI.code [false, true, true, true, true, true, false, true, true, true], KI.block 1, KI.code [false, true, true, true, true, true, true], KI.loop [false, true, true, true], KI.block 0, KI.code [true]] [(0, SV.one (SC.ptr 0 0)), (1, SV.one (SC.v (Value.func (Fn.func F) #[] #[]))), (5, SV.one (SC.ptr 1 0)), (11, SV.one (SC.v (Value.slice (some a1) ws.length c1))), (12, SV.one (SC.v (Value.int IntKind.i64 (↑ws.length : Int)))), (13, SV.one (SC.v (Value.int IntKind.i64 (↑i : Int)))), (18, SV.one (SC.v (Value.func (Fn.func F) #[] #[]))), (19, SV.one (SC.v (Value.int IntKind.i64 (↑i : Int))))] [LB.mk [SC.v (Value.slice (some (Addr.mk gx 0 none)) xs.length c), SC.v (Value.slice (some a1) ws.length c1), SC.v (Value.int IntKind.i64 f), SC.bo dn] 29, LB.mk [SC.v (Value.int IntKind.i64 ws[i].fst), SC.v (Value.slice Ai ws[i].snd.length ci)] 59]) (by kernel_rfl) (by kernel_rfl) (by kernel_rfl) ?_
    refine call_pure true (by kernel_rfl : atC _ _ _ true = some (F, [SV.one (SC.v (Value.int IntKind.i64 (↑i : Int)))], some 20, Rg.sq [false, true, true, true, true, true, false, true, true, false] 3)) hF (.one (.bo (is i))) (fun L w1 hs => hcl w1 (hs.oldx 3 rfl) i hlt) ?_
    refine go mixed 2000 [0, 1, 5, 11, 12, 13, 20] 2 (St.mk Rg.no [KI.code [false, true, true, true, true, true, false, true, true, true], KI.block 1, KI.code [false, true, true, true, true, true, true], KI.loop [false, true, true, true], KI.block 0, KI.code [true]] [(0, SV.one (SC.ptr 0 0)), (1, SV.one (SC.v (Value.func (Fn.func F) #[] #[]))), (5, SV.one (SC.ptr 1 0)), (11, SV.one (SC.v (Value.slice (some a1) ws.length c1))), (12, SV.one (SC.v (Value.int IntKind.i64 (↑ws.length : Int)))), (13, SV.one (SC.v (Value.int IntKind.i64 (↑i : Int)))), (20, SV.one (SC.bo (is i)))] [LB.mk [SC.v (Value.slice (some (Addr.mk gx 0 none)) xs.length c), SC.v (Value.slice (some a1) ws.length c1), SC.v (Value.int IntKind.i64 f), SC.bo dn] 29, LB.mk [SC.v (Value.int IntKind.i64 ws[i].fst), SC.v (Value.slice Ai ws[i].snd.length ci)] 59]) (by kernel_rfl) (by kernel_rfl) (by kernel_rfl) ?_
    refine split_at 20 (b := is i) (by kernel_rfl) (by kernel_rfl) ?_ ?_
    · intro h2
      have hat1 := hat _ (List.getElem_mem hlt)
      refine go mixed 2000 [0, 1, 11, 12, 13, 24, 26, 28] 1 (St.mk (Rg.dr [false, true, true, true, true, true, false, true, true, true, false] [true, true, true, true, true, true, true, true, false, false] 2 2) [KI.block 1, KI.code [false, true, true, true, true, true, true], KI.loop [false, true, true, true], KI.block 0, KI.code [true]] [(0, SV.one (SC.ptr 0 0)), (1, SV.one (SC.v (Value.func (Fn.func F) #[] #[]))), (11, SV.one (SC.v (Value.slice (some a1) ws.length c1))), (12, SV.one (SC.v (Value.int IntKind.i64 (↑ws.length : Int)))), (13, SV.one (SC.v (Value.int IntKind.i64 (↑i : Int)))), (24, SV.one (SC.v (Value.slice (some (Addr.mk gx 0 none)) xs.length c))), (26, SV.one (SC.v (Value.int IntKind.i64 ws[i].fst))), (28, SV.one (SC.v (Value.slice Ai ws[i].snd.length ci)))] [LB.mk [SC.v (Value.slice (some (Addr.mk gx 0 none)) xs.length c), SC.v (Value.slice (some a1) ws.length c1), SC.v (Value.int IntKind.i64 f), SC.bo dn] 29]) (by kernel_rfl) (by kernel_rfl) (by kernel_rfl) ?_
      refine index_at 8 (by kernel_rfl : atP _ _ _ 8 false = some (Op.indexAddr 22 (Operand.tmp 24) (Operand.tmp 26), 0, some 29, Rg.dr [false, true, true, true, true, true, false, true, true, true, false] [true, true, true, true, true, true, true, true, true, false] 1 2)) (sz := 1) (ni := (ws[i]).1.toNat) (by kernel_rfl) rfl rfl (Int.toNat_of_nonneg hat1.1).symm (by omega) (fun L w1 hs => ⟨_, rfl⟩) ?_
      intro a2 ha2; cases ha2
      refine go mixed 2000 [0, 1, 11, 12, 13, 28, 29] 1 (St.mk (Rg.dr [false, true, true, true, true, true, false, true, true, true, false] [true, true, true, true, true, true, true, true, true, false] 1 2) [KI.block 1, KI.code [false, true, true, true, true, true, true], KI.loop [false, true, true, true], KI.block 0, KI.code [true]] [(0, SV.one (SC.ptr 0 0)), (1, SV.one (SC.v (Value.func (Fn.func F) #[] #[]))), (11, SV.one (SC.v (Value.slice (some a1) ws.length c1))), (12, SV.one (SC.v (Value.int IntKind.i64 (↑ws.length : Int)))), (13, SV.one (SC.v (Value.int IntKind.i64 (↑i : Int)))), (28, SV.one (SC.v (Value.slice Ai ws[i].snd.length ci))), (29, SV.one (SC.v (Value.pointer (some ((Addr.mk gx 0 none).add (ws[i].fst.toNat * 1))))))] [LB.mk [SC.v (Value.slice (some (Addr.mk gx 0 none)) xs.length c), SC.v (Value.slice (some a1) ws.length c1), SC.v (Value.int IntKind.i64 f), SC.bo dn] 29]) (by kernel_rfl) (by kernel_rfl) (by kernel_rfl) ?_
      refine store_el (A := []) (d := kHB) (y := .inl ⟨Ai, (ws[i]).2.length, ci⟩) (by kernel_rfl : atB _ _ _ false = some (Op.store 36 (Operand.tmp 29) (Operand.tmp 28), 0, none, Rg.dr [false, true, true, true, true, true, false, true, true, true, false] [true, true, true, true, true, true, true, true, true, true] 0 0)) (by kernel_rfl) rfl rfl rfl rfl rfl (by rw [List.length_map]; omega) (fun _ _ _ => rfl) ?_
      rw [← List.map_set]
      refine go mixed 2000 [0, 1, 11, 12, 13] 1 (St.mk Rg.no [KI.loop [false, true, true, true], KI.block 0, KI.code [true]] [(0, SV.one (SC.ptr 0 0)), (1, SV.one (SC.v (Value.func (Fn.func F) #[] #[]))), (11, SV.one (SC.v (Value.slice (some a1) ws.length c1))), (12, SV.one (SC.v (Value.int IntKind.i64 (↑ws.length : Int)))), (13, SV.one (SC.v (Value.int IntKind.i64 (IntKind.i64.wrap ((↑i : Int) + 1)))))] [LB.mk [SC.v (Value.slice (some (Addr.mk gx 0 none)) xs.length c), SC.v (Value.slice (some a1) ws.length c1), SC.v (Value.int IntKind.i64 f), SC.bo dn] 29]) (by kernel_rfl) (by kernel_rfl) (by kernel_rfl) ?_
      rw [wrap_succ (by omega)]
      exact ih (i + 1, hs1.set (ws[i]).1.toNat ⟨Ai, (ws[i]).2.length, ci⟩) ⟨hlt, by rw [List.length_set]; exact hi.2.1, fun k y hd hy hh h' ha1 ha2 => by
        simp only [stl_do h2 hlt] at hy
        rw [List.getElem?_set] at hy hh
        by_cases hk : (ws[i]).1.toNat = k
        · rw [if_pos hk] at hy hh
          split at hh
          · cases hh
            split at hy
            · cases hy
              exact hdR h' ha2
            · cases hy
          · cases hh
        · rw [if_neg hk] at hy hh
          exact hi.2.2 k y hd hy hh h' ha1 ha2⟩ (by simp only; omega)
    intro h2
    refine go mixed 2000 [0, 1, 11, 12, 13] 1 (St.mk Rg.no [KI.loop [false, true, true, true], KI.block 0, KI.code [true]] [(0, SV.one (SC.ptr 0 0)), (1, SV.one (SC.v (Value.func (Fn.func F) #[] #[]))), (11, SV.one (SC.v (Value.slice (some a1) ws.length c1))), (12, SV.one (SC.v (Value.int IntKind.i64 (↑ws.length : Int)))), (13, SV.one (SC.v (Value.int IntKind.i64 (IntKind.i64.wrap ((↑i : Int) + 1)))))] [LB.mk [SC.v (Value.slice (some (Addr.mk gx 0 none)) xs.length c), SC.v (Value.slice (some a1) ws.length c1), SC.v (Value.int IntKind.i64 f), SC.bo dn] 29]) (by kernel_rfl) (by kernel_rfl) (by kernel_rfl) ?_
    rw [wrap_succ (by omega)]
    exact ih (i + 1, hs1) ⟨hlt, hi.2.1, fun k y hd hy hh => hi.2.2 k y hd (by rw [stl_not h2] at hy; exact hy) hh⟩ (by simp only; omega)
  intro h1
  have hge : i = ws.length := by
    have : ¬ i < ws.length := by simpa using h1
    omega
  subst hge
  clear h1 ih
  obtain ⟨_, hlen, hrd⟩ := hi
  have hzl := stl_len is ws xs ws.length
  generalize hz : stl is ws xs ws.length = zs at hrd hzl
  have hzb : ∀ y ∈ zs, y.length ≤ 1048576 := hz ▸ stl_all hl2 hl4 ws.length
  refine go mixed 2000 [0, 37, 38, 39] 1 (St.mk Rg.no [KI.loop [true, true, true, true, true], KI.block 2] [(0, SV.one (SC.ptr 0 0)), (37, SV.one (SC.v (Value.slice (some (Addr.mk gx 0 none)) xs.length c))), (38, SV.one (SC.v (Value.int IntKind.i64 (↑xs.length : Int)))), (39, SV.one (SC.v (Value.int IntKind.i64 0)))] [LB.mk [SC.v (Value.slice (some (Addr.mk gx 0 none)) xs.length c), SC.v (Value.slice none 0 0), SC.v (Value.int IntKind.i64 f), SC.bo dn] 29]) (by kernel_rfl) (by kernel_rfl) (by kernel_rfl) ?_
  refine loop_at (ι := Nat) (fun j => [(39, .one (.v (.int .i64 j)))]) (fun j => []) (fun j => [rowA 36 kHB (((zs.take j).map .inr) ++ (hs1.drop j).map .inl) (.slice (some ⟨gx, 0, none⟩) xs.length c), frzA h0 T, frzA hW TW, oldX w S]) (fun j => j ≤ xs.length) (fun j => xs.length - j) 0 rfl rfl (by simp) (Nat.zero_le _) ?_
  intro j hj ih
  refine go mixed 2000 [0, 37, 38, 39, 40] 1 (St.mk Rg.no [KI.code [true, true, true, true, true, true, false], KI.code [true, true, true, true, true, true, true], KI.loop [true, true, true, true, true], KI.block 2] [(0, SV.one (SC.ptr 0 0)), (37, SV.one (SC.v (Value.slice (some (Addr.mk gx 0 none)) xs.length c))), (38, SV.one (SC.v (Value.int IntKind.i64 (↑xs.length : Int)))), (39, SV.one (SC.v (Value.int IntKind.i64 (↑j : Int)))), (40, SV.one (SC.bo (decide ((↑j : Int) < (↑xs.length : Int)))))] [LB.mk [SC.v (Value.slice (some (Addr.mk gx 0 none)) xs.length c), SC.v (Value.slice none 0 0), SC.v (Value.int IntKind.i64 f), SC.bo dn] 29]) (by kernel_rfl) (by kernel_rfl) (by kernel_rfl) ?_
  refine split_at 40 (b := decide ((↑j : Int) < (↑xs.length : Int))) (by kernel_rfl) (by kernel_rfl) ?_ ?_
  · intro h1
    have hlt : j < xs.length := by simpa using h1
    have hlz : j < zs.length := by omega
    clear h1
    refine go mixed 2000 [0, 37, 38, 39, 41] 1 (St.mk (Rg.sq [true, true, true, true, true, true, true, false, true, false] 1) [KI.code [true, true, true, true, true, true, true, false, true, true], KI.block 3, KI.code [true, true, true, true, true, true, true, true], KI.loop [true, true, true, true, true], KI.block 2] [(0, SV.one (SC.ptr 0 0)), (37, SV.one (SC.v (Value.slice (some (Addr.mk gx 0 none)) xs.length c))), (38, SV.one (SC.v (Value.int IntKind.i64 (↑xs.length : Int)))), (39, SV.one (SC.v (Value.int IntKind.i64 (↑j : Int)))), (41, SV.one (SC.v (Value.int IntKind.i64 (↑j : Int))))] [LB.mk [SC.v (Value.slice (some (Addr.mk gx 0 none)) xs.length c), SC.v (Value.slice none 0 0), SC.v (Value.int IntKind.i64 f), SC.bo dn] 29]) (by kernel_rfl) (by kernel_rfl) (by kernel_rfl) ?_
    refine index_at 1 (by kernel_rfl : atP _ _ _ 1 false = some (Op.indexAddr 22 (Operand.tmp 37) (Operand.tmp 39), 0, some 42, Rg.sq [true, true, true, true, true, true, true, false, true, false] 2)) (sz := 1) (by kernel_rfl) rfl rfl rfl hlt (fun L w1 hs => ⟨_, rfl⟩) ?_
    intro a1 ha1; cases ha1
    refine go mixed 2000 [0, 37, 38, 39, 41, 42] 1 (St.mk (Rg.sq [true, true, true, true, true, true, true, false, true, false] 2) [KI.code [true, true, true, true, true, true, true, false, true, true], KI.block 3, KI.code [true, true, true, true, true, true, true, true], KI.loop [true, true, true, true, true], KI.block 2] [(0, SV.one (SC.ptr 0 0)), (37, SV.one (SC.v (Value.slice (some (Addr.mk gx 0 none)) xs.length c))), (38, SV.one (SC.v (Value.int IntKind.i64 (↑xs.length : Int)))), (39, SV.one (SC.v (Value.int IntKind.i64 (↑j : Int)))), (41, SV.one (SC.v (Value.int IntKind.i64 (↑j : Int)))), (42, SV.one (SC.v (Value.pointer (some ((Addr.mk gx 0 none).add (j * 1))))))] [LB.mk [SC.v (Value.slice (some (Addr.mk gx 0 none)) xs.length c), SC.v (Value.slice none 0 0), SC.v (Value.int IntKind.i64 f), SC.bo dn] 29]) (by kernel_rfl) (by kernel_rfl) (by kernel_rfl) ?_
    obtain ⟨hd, hhd⟩ : ∃ hd, hs1[j]? = some hd := ⟨_, List.getElem?_eq_getElem (by omega)⟩
    have hrj := hrd j _ hd (List.getElem?_eq_getElem hlz) hhd
    have hdn : (∀ h', Agr h0 T h' → Agr hW TW h' → hd.n = (zs[j]).length) := fun h' b1 b2 => by
      obtain ⟨_, _, hv, _⟩ := hrj h' b1 b2
      cases hd
      cases hv
      rfl
    obtain ⟨Ai, n1, ci⟩ := hd
    refine load_one 2 (by kernel_rfl : atP _ _ _ 2 true = some (Op.load 36 (Operand.tmp 42), 36, some 43, Rg.sq [true, true, true, true, true, true, true, false, true, false] 3)) (n := 1) (by kernel_rfl) rfl ?_
    intro L w1 hs
    have hdn := hdn _ (hs.frz 1 rfl) (hs.frz 2 rfl)
    simp only at hdn
    subst hdn
    refine ⟨.v (.slice Ai (zs[j]).length ci), ?_, ?_⟩
    · obtain ⟨cs, hcs, hcell⟩ := rd_el (hs.rd 0 rfl) (mix_get zs hs1 hlz (by omega))
      rw [List.getElem?_eq_getElem (by omega)] at hhd
      rw [Option.some.inj hhd] at hcs
      have hcs : cs = [.slice Ai (zs[j]).length ci] := hcs
      subst hcs
      exact hcell 0 _ rfl
    clear hs
    refine go mixed 2000 [0, 37, 38, 39, 47, 48, 49] 1 (St.mk (Rg.dr [true, true, true, true, true, true, true, false, true, true] [true, true, true, true, true, true, false, false, false] 3 2) [KI.block 3, KI.code [true, true, true, true, true, true, true, true], KI.loop [true, true, true, true, true], KI.block 2] [(0, SV.one (SC.ptr 0 0)), (37, SV.one (SC.v (Value.slice (some (Addr.mk gx 0 none)) xs.length c))), (38, SV.one (SC.v (Value.int IntKind.i64 (↑xs.length : Int)))), (39, SV.one (SC.v (Value.int IntKind.i64 (↑j : Int)))), (47, SV.one (SC.v (Value.slice (some (Addr.mk gx 0 none)) xs.length c))), (48, SV.one (SC.v (Value.int IntKind.i64 (↑j : Int)))), (49, SV.one (SC.v (Value.slice Ai zs[j].length ci)))] [LB.mk [SC.v (Value.slice (some (Addr.mk gx 0 none)) xs.length c), SC.v (Value.slice none 0 0), SC.v (Value.int IntKind.i64 f), SC.bo dn] 29]) (by kernel_rfl) (by kernel_rfl) (by kernel_rfl) ?_
    refine call_fresh true (by kernel_rfl : atC _ _ _ true = some (69, [SV.one (SC.v (Value.slice Ai zs[j].length ci))], some 50, Rg.dr [true, true, true, true, true, true, true, false, true, true] [true, true, true, true, true, true, true, false, false] 2 1)) (by kernel_rfl) fun L w1 hs => (clone_ok (zs[j]) Ai ci w1 (hrj _ (hs.frz 1 rfl) (hs.frz 2 rfl)) (hzb _ (List.getElem_mem hlz))).mono ?_
    rintro e w2 ⟨Y, y, rfl, hf⟩
    refine ⟨.one (.v (.slice Y (zs[j]).length y)), [rowA 5 kU8 (zs[j]) (.slice Y (zs[j]).length y)], rfl, hf, ?_⟩
    clear hs hf
    refine go mixed 2000 [0, 37, 38, 39, 47, 48, 50] 1 (St.mk (Rg.dr [true, true, true, true, true, true, true, false, true, true] [true, true, true, true, true, true, true, false, false] 2 1) [KI.block 3, KI.code [true, true, true, true, true, true, true, true], KI.loop [true, true, true, true, true], KI.block 2] [(0, SV.one (SC.ptr 0 0)), (37, SV.one (SC.v (Value.slice (some (Addr.mk gx 0 none)) xs.length c))), (38, SV.one (SC.v (Value.int IntKind.i64 (↑xs.length : Int)))), (39, SV.one (SC.v (Value.int IntKind.i64 (↑j : Int)))), (47, SV.one (SC.v (Value.slice (some (Addr.mk gx 0 none)) xs.length c))), (48, SV.one (SC.v (Value.int IntKind.i64 (↑j : Int)))), (50, SV.one (SC.v (Value.slice Y zs[j].length y)))] [LB.mk [SC.v (Value.slice (some (Addr.mk gx 0 none)) xs.length c), SC.v (Value.slice none 0 0), SC.v (Value.int IntKind.i64 f), SC.bo dn] 29]) (by kernel_rfl) (by kernel_rfl) (by kernel_rfl) ?_
    refine index_at 7 (by kernel_rfl : atP _ _ _ 7 false = some (Op.indexAddr 22 (Operand.tmp 47) (Operand.tmp 48), 0, some 51, Rg.dr [true, true, true, true, true, true, true, false, true, true] [true, true, true, true, true, true, true, true, false] 1 1)) (sz := 1) (by kernel_rfl) rfl rfl rfl hlt (fun L w1 hs => ⟨_, rfl⟩) ?_
    intro a2 ha2; cases ha2
    refine go mixed 2000 [0, 37, 38, 39, 50, 51] 1 (St.mk (Rg.dr [true, true, true, true, true, true, true, false, true, true] [true, true, true, true, true, true, true, true, false] 1 1) [KI.block 3, KI.code [true, true, true, true, true, true, true, true], KI.loop [true, true, true, true, true], KI.block 2] [(0, SV.one (SC.ptr 0 0)), (37, SV.one (SC.v (Value.slice (some (Addr.mk gx 0 none)) xs.length c))), (38, SV.one (SC.v (Value.int IntKind.i64 (↑xs.length : Int)))), (39, SV.one (SC.v (Value.int IntKind.i64 (↑j : Int)))), (50, SV.one (SC.v (Value.slice Y zs[j].length y))), (51, SV.one (SC.v (Value.pointer (some ((Addr.mk gx 0 none).add (j * 1))))))] [LB.mk [SC.v (Value.slice (some (Addr.mk gx 0 none)) xs.length c), SC.v (Value.slice none 0 0), SC.v (Value.int IntKind.i64 f), SC.bo dn] 29]) (by kernel_rfl) (by kernel_rfl) (by kernel_rfl) ?_
    refine h_swap ?_
    refine store_el (A := [rowA 5 kU8 (zs[j]) (.slice Y (zs[j]).length y)]) (d := kHB) (y := .inr (zs[j])) (by kernel_rfl : atB _ _ _ false = some (Op.store 36 (Operand.tmp 51) (Operand.tmp 50), 0, none, Rg.dr [true, true, true, true, true, true, true, false, true, true] [true, true, true, true, true, true, true, true, true] 0 0)) (by kernel_rfl) rfl rfl rfl rfl rfl (by simp; omega) (fun _ _ hA => row_el hA) ?_
    refine go mixed 2000 [0, 37, 38, 39] 1 (St.mk Rg.no [KI.loop [true, true, true, true, true], KI.block 2] [(0, SV.one (SC.ptr 0 0)), (37, SV.one (SC.v (Value.slice (some (Addr.mk gx 0 none)) xs.length c))), (38, SV.one (SC.v (Value.int IntKind.i64 (↑xs.length : Int)))), (39, SV.one (SC.v (Value.int IntKind.i64 (IntKind.i64.wrap ((↑j : Int) + 1)))))] [LB.mk [SC.v (Value.slice (some (Addr.mk gx 0 none)) xs.length c), SC.v (Value.slice none 0 0), SC.v (Value.int IntKind.i64 f), SC.bo dn] 29]) (by kernel_rfl) (by kernel_rfl) (by kernel_rfl) ?_
    rw [wrap_succ (by omega), mix_step zs hs1 hlz (by omega)]
    exact ih (j + 1) hlt (by omega)
  intro h1
  have hge : j = xs.length := by
    have : ¬ j < xs.length := by simpa using h1
    omega
  subst hge
  rw [List.drop_of_length_le (by omega), List.take_of_length_le (by omega), List.map_nil, List.append_nil]
  refine h_allr ?_
  refine h_erase 1 _ rfl ?_
  refine h_erase 1 _ rfl ?_
  refine go mixed 2000 [] 1 (St.mk Rg.no [] [] [LB.mk [SC.v (Value.slice (some (Addr.mk gx 0 none)) xs.length c), SC.v (Value.slice none 0 0), SC.v (Value.int IntKind.i64 f), SC.bo dn] 29]) (by kernel_rfl) (by kernel_rfl) (by kernel_rfl) ?_
  refine ret_ok (vs := []) (by kernel_rfl) ?_
  intro L w1 hs
  exact ⟨_, _, rfl, hs.outp (As := [_]) rfl rfl hgS⟩
end Go.Proofs.Ytjbbakckckihnaa.Dk
