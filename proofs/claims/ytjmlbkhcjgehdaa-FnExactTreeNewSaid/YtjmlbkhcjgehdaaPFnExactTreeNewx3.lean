import Derived.Test.YtjmlbkhcjgehdaaPFnExactTreeNewx2
namespace Go.Proofs.Ytjmlbkhcjgehdaa.PFnExactTreeNew
open Go.RowKit Go.Proofs.YtjmlbkhcjgehdaaW.PrintWords Go.Proofs.YtjmlbkhcjgehdaaW.PrintLast Go.Proofs.YtjmlbkhcjgehdaaW.PrintMore Go.Proofs.Ytjmlbkhcjgehdaa.HFl Go.Proofs.Ytjmlbkhcjgehdaa.HMap Go.Proofs.Ytjmlbkhcjgehdaa.HMore Go.Proofs.Ytjmlbkhcjgehdaa
set_option linter.unusedVariables false
set_option linter.unusedSimpArgs false
set_option maxHeartbeats 4000000 in
set_option maxRecDepth 100000 in
theorem nil139 (A : Option Addr) (c : Nat) (a1 : Int) (w : World) : Calls Try.prog 139 #[.slice A 0 c, .int .i64 a1] w fun e w' => e = .returned (.int .i64 a1) ∧ Below w.heap.size w w' := by
  have HB := Aside0.mk (Below.refl w.heap.size w)
  go_enter Try.func139, Try.ntmps139
  go_wp2
  go_loopg [1, 5] 0 (fun kq v1 v5 w' => v1 = .int .i64 a1 ∧ v5 = .int .i64 0 ∧ Aside0 (Below w.heap.size w w'))
  case atStart => exact ⟨rfl, rfl, ⟨by repeat (first | (with_reducible first | exact HB.out | apply below_alloc | apply pw_below_drewN | apply below_drew1) | exact HB.out)⟩⟩
  case round =>
    try clear p2
    obtain ⟨rfl, rfl, HB⟩ := hrel
    have c3b0 : decide ((0 : Int) < ((0 : Nat) : Int)) = false := rfl
    go_wp2
    go_ret
    exact ⟨rfl, by repeat (first | (with_reducible first | exact HB.out | apply below_alloc | apply pw_below_drewN | apply below_drew1) | exact HB.out)⟩
set_option maxHeartbeats 4000000 in
set_option maxRecDepth 100000 in
theorem nil140 (A : Option Addr) (c : Nat) (a1 : Int) (w : World) : Calls Try.prog 140 #[.slice A 0 c, .int .i64 a1] w fun e w' => e = .returned (.int .i64 a1) ∧ Below w.heap.size w w' := by
  have HB := Aside0.mk (Below.refl w.heap.size w)
  go_enter Try.func140, Try.ntmps140
  go_wp2
  go_loopg [1, 5] 0 (fun kq v1 v5 w' => v1 = .int .i64 a1 ∧ v5 = .int .i64 0 ∧ Aside0 (Below w.heap.size w w'))
  case atStart => exact ⟨rfl, rfl, ⟨by repeat (first | (with_reducible first | exact HB.out | apply below_alloc | apply pw_below_drewN | apply below_drew1) | exact HB.out)⟩⟩
  case round =>
    try clear p2
    obtain ⟨rfl, rfl, HB⟩ := hrel
    have c3b0 : decide ((0 : Int) < ((0 : Nat) : Int)) = false := rfl
    go_wp2
    go_ret
    exact ⟨rfl, by repeat (first | (with_reducible first | exact HB.out | apply below_alloc | apply pw_below_drewN | apply below_drew1) | exact HB.out)⟩
set_option maxHeartbeats 4000000 in
set_option maxRecDepth 100000 in
theorem nil141 (A : Option Addr) (c : Nat) (a1 : Int) (w : World) : Calls Try.prog 141 #[.slice A 0 c, .int .i64 a1] w fun e w' => e = .returned (.int .i64 a1) ∧ Below w.heap.size w w' := by
  have HB := Aside0.mk (Below.refl w.heap.size w)
  go_enter Try.func141, Try.ntmps141
  go_wp2
  go_loopg [1, 5] 0 (fun kq v1 v5 w' => v1 = .int .i64 a1 ∧ v5 = .int .i64 0 ∧ Aside0 (Below w.heap.size w w'))
  case atStart => exact ⟨rfl, rfl, ⟨by repeat (first | (with_reducible first | exact HB.out | apply below_alloc | apply pw_below_drewN | apply below_drew1) | exact HB.out)⟩⟩
  case round =>
    try clear p2
    obtain ⟨rfl, rfl, HB⟩ := hrel
    have c3b0 : decide ((0 : Int) < ((0 : Nat) : Int)) = false := rfl
    go_wp2
    go_ret
    exact ⟨rfl, by repeat (first | (with_reducible first | exact HB.out | apply below_alloc | apply pw_below_drewN | apply below_drew1) | exact HB.out)⟩
set_option maxHeartbeats 4000000 in
set_option maxRecDepth 100000 in
theorem nil142 (A : Option Addr) (c : Nat) (a1 : Int) (w : World) : Calls Try.prog 142 #[.slice A 0 c, .int .i64 a1] w fun e w' => e = .returned (.int .i64 a1) ∧ Below w.heap.size w w' := by
  have HB := Aside0.mk (Below.refl w.heap.size w)
  go_enter Try.func142, Try.ntmps142
  go_wp2
  go_loopg [1, 5] 0 (fun kq v1 v5 w' => v1 = .int .i64 a1 ∧ v5 = .int .i64 0 ∧ Aside0 (Below w.heap.size w w'))
  case atStart => exact ⟨rfl, rfl, ⟨by repeat (first | (with_reducible first | exact HB.out | apply below_alloc | apply pw_below_drewN | apply below_drew1) | exact HB.out)⟩⟩
  case round =>
    try clear p2
    obtain ⟨rfl, rfl, HB⟩ := hrel
    have c3b0 : decide ((0 : Int) < ((0 : Nat) : Int)) = false := rfl
    go_wp2
    go_ret
    exact ⟨rfl, by repeat (first | (with_reducible first | exact HB.out | apply below_alloc | apply pw_below_drewN | apply below_drew1) | exact HB.out)⟩
def Nd (w : World) (g : Nat) (v : Value) (A1 : Option Addr) (c1 : Nat) (A2 : Option Addr) (c2 : Nat) : Prop := ∃ cells : Array Value, w.heap[g]? = some (.cells cells 132 (0, 0)) ∧ cells[0]? = some v ∧ cells[1]? = some (.slice A1 0 c1) ∧ cells[2]? = some (.slice A2 0 c2)
theorem Nd.below {w w1 : World} {g : Nat} {v : Value} {A1 : Option Addr} {c1 : Nat} {A2 : Option Addr} {c2 : Nat} (h : Nd w g v A1 c1 A2 c2) (hb : Below w.heap.size w w1) : Nd w1 g v A1 c1 A2 c2 := by
  obtain ⟨cells, h0, h1⟩ := h
  exact ⟨cells, blk_below h0 hb, h1⟩
theorem Nd.at0 {w : World} {g : Nat} {v : Value} {A1 : Option Addr} {c1 : Nat} {A2 : Option Addr} {c2 : Nat} (h : Nd w g v A1 c1 A2 c2) : w.cell? ⟨g, 0, none⟩ = some v ∧ w.cell? ⟨g, 1, none⟩ = some (.slice A1 0 c1) ∧ w.cell? ⟨g, 2, none⟩ = some (.slice A2 0 c2) ∧ w.frozen? ⟨g, 0, none⟩ = false ∧ w.frozen? ⟨g, 1, none⟩ = false ∧ w.frozen? ⟨g, 2, none⟩ = false := by
  obtain ⟨cells, h0, h1, h2, h3⟩ := h
  exact ⟨(blk_cell h0 0).trans h1, (blk_cell h0 1).trans h2, (blk_cell h0 2).trans h3, blk_frozen h0 _, blk_frozen h0 _, blk_frozen h0 _⟩
theorem Nd.lt {w : World} {g : Nat} {v : Value} {A1 : Option Addr} {c1 : Nat} {A2 : Option Addr} {c2 : Nat} (h : Nd w g v A1 c1 A2 c2) : g < w.heap.size := by
  obtain ⟨cells, h0, h1⟩ := h
  exact blk_lt h0
theorem Nd.put {w : World} {g : Nat} {v : Value} {A1 : Option Addr} {c1 : Nat} {A2 : Option Addr} {c2 : Nat} (h : Nd w g v A1 c1 A2 c2) (u : Value) : Nd (w.setCell ⟨g, 0, none⟩ u) g u A1 c1 A2 c2 := by
  obtain ⟨cells, h0, h1, h2, h3⟩ := h
  have hl : 0 < cells.size := (Array.getElem?_eq_some_iff.1 h1).1
  refine ⟨_, blk_set h0 0 u, ?_, ?_, ?_⟩
  · simp [Array.getElem?_setIfInBounds, hl]
  · simpa [Array.getElem?_setIfInBounds] using h2
  · simpa [Array.getElem?_setIfInBounds] using h3
theorem keep_set {w w1 : World} {g j : Nat} (h : KeepBut w w1 g none) (u : Value) : KeepBut w (w1.setCell ⟨g, j, none⟩ u) g none :=
  ⟨Nat.le_trans h.1 (Nat.le_of_eq (setCells_same g [u] j w1).2.2.2.symm), fun i hi hne hn => (Below.heap_setCell w1 ⟨g, j, none⟩ u i hne).trans (h.2 i hi hne hn)⟩
theorem keep_below {w w1 w2 : World} {g : Nat} (h : KeepBut w w1 g none) (hb : Below w1.heap.size w1 w2) : KeepBut w w2 g none :=
  ⟨Nat.le_trans h.1 hb.size, fun i hi hne hn => (hb.block i (Nat.lt_of_lt_of_le hi h.1)).trans (h.2 i hi hne hn)⟩
set_option maxHeartbeats 4000000 in
set_option maxRecDepth 100000 in
theorem mark103 (g c : Nat) (A1 : Option Addr) (c1 : Nat) (A2 : Option Addr) (c2 : Nat) (w0 w : World) (hB : Below w0.heap.size w0 w) (hg : w0.heap.size ≤ g) (hn : Nd w g (.bool true) A1 c1 A2 c2) : Calls Try.prog 103 #[.slice (some ⟨g, 0, none⟩) 1 c, .int .i64 1] w fun e w' => e = .returned (.int .i64 2) ∧ Below w0.heap.size w0 w' ∧ KeepBut w w' g none ∧ Nd w' g (.bool false) A1 c1 A2 c2 := by
  have HB := Aside0.mk hB
  have HK := Aside0.mk (show KeepBut w w g none from ⟨Nat.le_refl _, fun _ _ _ _ => rfl⟩)
  have HN := Aside0.mk hn
  clear hB hn
  go_enter Try.func103, Try.ntmps103
  go_wp2
  go_loopg [1, 5] 1 (fun kq v1 v5 w' => ∃ b : Bool, Aside0 ((kq = 1 ∧ v1 = .int .i64 1 ∧ v5 = .int .i64 0 ∧ b = true) ∨ (kq = 0 ∧ v1 = .int .i64 2 ∧ v5 = .int .i64 1 ∧ b = false)) ∧ Aside0 (Nd w' g (.bool b) A1 c1 A2 c2) ∧ Aside0 (KeepBut w w' g none) ∧ Aside0 (Below w0.heap.size w0 w'))
  case atStart => exact ⟨true, ⟨.inl ⟨rfl, rfl, rfl, rfl⟩⟩, ⟨HN.out⟩, ⟨HK.out⟩, ⟨HB.out⟩⟩
  case round =>
    try clear p2
    obtain ⟨b, HC, HN, HK, HB⟩ := hrel
    rcases HC.out with ⟨hk, rfl, rfl, rfl⟩ | ⟨hk, rfl, rfl, rfl⟩
    · clear HC
      have c3b0 : decide ((0 : Int) < ((1 : Nat) : Int)) = true := rfl
      obtain ⟨hx0, hx1, hx2, hf0, hf1, hf2⟩ := Nd.at0 HN.out
      go_wp2_with (first | ((with_reducible refine gate_store (t := 4) (p := 18) rfl ?_); refine store_event (t := 4) (p := 18) (v := Operand.tmp 16) (w1 := (wr.setCell ⟨g, 0, none⟩ (.bool false))) rfl rfl rfl ?hr ?_; (case hr => first | (go_simp; done) | (go_simp; rfl)); intro w8 hw; have m0_ := Aside0.mk (show Nd w8 g (.bool false) A1 c1 A2 c2 by rw [hw]; exact Nd.put HN.out _); have m1_ := Aside0.mk (show KeepBut w w8 g none by rw [hw]; exact keep_set HK.out _); have m2_ := Aside0.mk (show Below w0.heap.size w0 w8 by rw [hw]; exact below_set HB.out hg); clear HN HK HB hw hx0 hx1 hx2 hf0 hf1 hf2; have HN := m0_; have HK := m1_; have HB := m2_; clear m0_ m1_ m2_; obtain ⟨hx0, hx1, hx2, hf0, hf1, hf2⟩ := Nd.at0 HN.out) | (go_at_call 139; refine (nil139 A1 c1 2 w8).mono ?_; rintro e w9 ⟨rfl, hb⟩; have m0_ := Aside0.mk (Nd.below HN.out hb); have m1_ := Aside0.mk (keep_below HK.out hb); have m2_ := Aside0.mk (below_step HB.out hb); clear HN HK HB hb hx0 hx1 hx2 hf0 hf1 hf2; have HN := m0_; have HK := m1_; have HB := m2_; clear m0_ m1_ m2_; obtain ⟨hx0, hx1, hx2, hf0, hf1, hf2⟩ := Nd.at0 HN.out) | (go_at_call 140; refine (nil140 A2 c2 2 w9).mono ?_; rintro e w10 ⟨rfl, hb⟩; have m0_ := Aside0.mk (Nd.below HN.out hb); have m1_ := Aside0.mk (keep_below HK.out hb); have m2_ := Aside0.mk (below_step HB.out hb); clear HN HK HB hb hx0 hx1 hx2 hf0 hf1 hf2; have HN := m0_; have HK := m1_; have HB := m2_; clear m0_ m1_ m2_; obtain ⟨hx0, hx1, hx2, hf0, hf1, hf2⟩ := Nd.at0 HN.out))
      go_roundg 0
      case measure => omega
      case rel => exact ⟨false, ⟨.inr ⟨rfl, rfl, rfl, rfl⟩⟩, ⟨HN.out⟩, ⟨HK.out⟩, ⟨HB.out⟩⟩
    · clear HC
      have c3b0 : decide ((1 : Int) < ((1 : Nat) : Int)) = false := rfl
      go_wp2
      go_ret
      exact ⟨rfl, HB.out, HK.out, HN.out⟩
set_option maxHeartbeats 4000000 in
set_option maxRecDepth 100000 in
theorem held104 (g c : Nat) (A1 : Option Addr) (c1 : Nat) (A2 : Option Addr) (c2 : Nat) (w : World) (hn : Nd w g (.bool false) A1 c1 A2 c2) : Calls Try.prog 104 #[.slice (some ⟨g, 0, none⟩) 1 c, .int .i64 1] w fun e w' => e = .returned (.int .i64 2) ∧ Below w.heap.size w w' := by
  have HB := Aside0.mk (Below.refl w.heap.size w)
  have HN := Aside0.mk hn
  clear hn
  go_enter Try.func104, Try.ntmps104
  go_wp2
  go_loopg [1, 5] 1 (fun kq v1 v5 w' => Aside0 ((kq = 1 ∧ v1 = .int .i64 1 ∧ v5 = .int .i64 0) ∨ (kq = 0 ∧ v1 = .int .i64 2 ∧ v5 = .int .i64 1)) ∧ Aside0 (Nd w' g (.bool false) A1 c1 A2 c2) ∧ Aside0 (Below w.heap.size w w'))
  case atStart => exact ⟨⟨.inl ⟨rfl, rfl, rfl⟩⟩, ⟨HN.out⟩, ⟨HB.out⟩⟩
  case round =>
    try clear p2
    obtain ⟨HC, HN, HB⟩ := hrel
    rcases HC.out with ⟨hk, rfl, rfl⟩ | ⟨hk, rfl, rfl⟩
    · clear HC
      have c3b0 : decide ((0 : Int) < ((1 : Nat) : Int)) = true := rfl
      obtain ⟨hx0, hx1, hx2, hf0, hf1, hf2⟩ := Nd.at0 HN.out
      go_wp2_with (first | (go_at_call 141; refine (nil141 A1 c1 2 wr).mono ?_; rintro e w9 ⟨rfl, hb⟩; have m0_ := Aside0.mk (Nd.below HN.out hb); have m2_ := Aside0.mk (below_step HB.out hb); clear HN HB hb hx0 hx1 hx2 hf0 hf1 hf2; have HN := m0_; have HB := m2_; clear m0_ m2_; obtain ⟨hx0, hx1, hx2, hf0, hf1, hf2⟩ := Nd.at0 HN.out) | (go_at_call 142; refine (nil142 A2 c2 2 w9).mono ?_; rintro e w10 ⟨rfl, hb⟩; have m0_ := Aside0.mk (Nd.below HN.out hb); have m2_ := Aside0.mk (below_step HB.out hb); clear HN HB hb hx0 hx1 hx2 hf0 hf1 hf2; have HN := m0_; have HB := m2_; clear m0_ m2_; obtain ⟨hx0, hx1, hx2, hf0, hf1, hf2⟩ := Nd.at0 HN.out))
      go_roundg 0
      case measure => omega
      case rel => exact ⟨⟨.inr ⟨rfl, rfl, rfl⟩⟩, ⟨HN.out⟩, ⟨HB.out⟩⟩
    · clear HC
      have c3b0 : decide ((1 : Int) < ((1 : Nat) : Int)) = false := rfl
      go_wp2
      go_ret
      exact ⟨rfl, HB.out⟩
theorem keep_trans {w w1 w2 : World} {g : Nat} (h : KeepBut w w1 g none) (h2 : KeepBut w1 w2 g none) : KeepBut w w2 g none :=
  ⟨Nat.le_trans h.1 h2.1, fun i hi hne hn => (h2.2 i (Nat.lt_of_lt_of_le hi h.1) hne hn).trans (h.2 i hi hne hn)⟩
theorem keep_blk {w w1 : World} {g b : Nat} {o : Obj} (h : w.heap[b]? = some o) (hk : KeepBut w w1 g none) (hne : b ≠ g) : w1.heap[b]? = some o := (hk.2 b (blk_lt h) hne (by simp)).trans h
theorem Nd.ne {w : World} {g b : Nat} {v : Value} {A1 : Option Addr} {c1 : Nat} {A2 : Option Addr} {c2 : Nat} {cs : Array Value} (h : Nd w g v A1 c1 A2 c2) (hb : w.heap[b]? = some (.cells cs 81 (0, 0))) : b ≠ g := by
  obtain ⟨cells, h0, h1⟩ := h
  exact blk_ne hb h0 (by decide)
theorem Nd.far {w : World} {g b j : Nat} {v : Value} {A1 : Option Addr} {c1 : Nat} {A2 : Option Addr} {c2 : Nat} (h : Nd w g v A1 c1 A2 c2) (hb : b ≠ g) (u : Value) : Nd (w.setCell ⟨b, j, none⟩ u) g v A1 c1 A2 c2 := by
  obtain ⟨cells, h0, h1⟩ := h
  exact ⟨cells, blk_far (p := ⟨b, j, none⟩) h0 (fun e => hb e.symm) u, h1⟩
set_option maxHeartbeats 4000000 in
set_option maxRecDepth 100000 in
theorem mark48 (g c : Nat) (A1 : Option Addr) (c1 : Nat) (A2 : Option Addr) (c2 : Nat) (w0 w : World) (hB : Below w0.heap.size w0 w) (hg : w0.heap.size ≤ g) (hn : Nd w g (.bool true) A1 c1 A2 c2) : Calls Try.prog 48 #[.agg #[.slice (some ⟨g, 0, none⟩) 1 c, .int .i64 0], .int .i64 1] w fun e w' => e = .returned (.int .i64 2) ∧ Below w0.heap.size w0 w' ∧ KeepBut w w' g none ∧ Nd w' g (.bool false) A1 c1 A2 c2 := by
  have hu81 := Try.underlying81
  have HB := Aside0.mk hB
  have HN := Aside0.mk hn
  clear hB hn
  go_enter Try.func48, Try.ntmps48
  go_wp2_with (first | ((with_reducible refine gate_dst (N := 2) rfl ?_); refine box_event ?hg (N := 2) ?hd (cs := #[.slice (some ⟨g, 0, none⟩) 1 c, .int .i64 0]) (t := 81) ?hr ?_; (case hd => rfl); (case hg => rfl); (case hr => first | (go_simp; done) | (go_simp; rfl)); intro gb hg1 w5 hbox hb; have m0_ := Aside0.mk (Nd.below HN.out hb); have m1_ := Aside0.mk (show KeepBut w w5 g none from ⟨hb.size, fun i hi _ _ => hb.block i hi⟩); have m2_ := Aside0.mk (below_step HB.out hb); clear HN HB hb; have HN := m0_; have HK := m1_; have HB := m2_; have BK := Aside0.mk hbox; clear m0_ m1_ m2_ hbox hg1; have hx0 : w5.cell? ⟨gb, 0, none⟩ = some (.slice (some ⟨g, 0, none⟩) 1 c) := (blk_cell BK.out 0).trans rfl; have hf0 := blk_frozen BK.out 0) | (go_at_call 103; refine (mark103 g c A1 c1 A2 c2 w0 w5 HB.out hg HN.out).mono ?_; rintro e w6 ⟨rfl, hb, hk, hn⟩; have m1_ := Aside0.mk (keep_trans HK.out hk); clear HK HB HN; have HK := m1_; have HB := Aside0.mk hb; have HN := Aside0.mk hn; clear m1_ hb hk hn))
  go_ret
  exact ⟨rfl, HB.out, HK.out, HN.out⟩
set_option maxHeartbeats 4000000 in
set_option maxRecDepth 100000 in
theorem held49 (g c : Nat) (A1 : Option Addr) (c1 : Nat) (A2 : Option Addr) (c2 : Nat) (w : World) (hn : Nd w g (.bool false) A1 c1 A2 c2) : Calls Try.prog 49 #[.agg #[.slice (some ⟨g, 0, none⟩) 1 c, .int .i64 0], .int .i64 1] w fun e w' => e = .returned (.int .i64 2) ∧ Below w.heap.size w w' := by
  have hu81 := Try.underlying81
  have HB := Aside0.mk (Below.refl w.heap.size w)
  have HN := Aside0.mk hn
  clear hn
  go_enter Try.func49, Try.ntmps49
  go_wp2_with (first | ((with_reducible refine gate_dst (N := 2) rfl ?_); refine box_event ?hg (N := 2) ?hd (cs := #[.slice (some ⟨g, 0, none⟩) 1 c, .int .i64 0]) (t := 81) ?hr ?_; (case hd => rfl); (case hg => rfl); (case hr => first | (go_simp; done) | (go_simp; rfl)); intro gb hg1 w5 hbox hb; have m0_ := Aside0.mk (Nd.below HN.out hb); have m1_ := Aside0.mk (show KeepBut w w5 g none from ⟨hb.size, fun i hi _ _ => hb.block i hi⟩); have m2_ := Aside0.mk (below_step HB.out hb); clear HN HB hb; have HN := m0_; have HK := m1_; have HB := m2_; have BK := Aside0.mk hbox; clear m0_ m1_ m2_ hbox hg1; have hx0 : w5.cell? ⟨gb, 0, none⟩ = some (.slice (some ⟨g, 0, none⟩) 1 c) := (blk_cell BK.out 0).trans rfl; have hf0 := blk_frozen BK.out 0) | (go_at_call 104; refine (held104 g c A1 c1 A2 c2 w5 HN.out).mono ?_; rintro e w6 ⟨rfl, hb⟩; have m2_ := Aside0.mk (below_step HB.out hb); clear HB HN hb; have HB := m2_; clear m2_))
  go_ret
  exact ⟨rfl, HB.out⟩
theorem new45 (w : World) : Calls Try.prog 45 #[] w fun e w' => ∃ (g c : Nat) (A1 : Option Addr) (c1 : Nat) (A2 : Option Addr) (c2 : Nat), e = .returned (.agg #[.slice (some ⟨g, 0, none⟩) 1 c, .int .i64 0]) ∧ w.heap.size ≤ g ∧ Nd w' g (.bool true) A1 c1 A2 c2 ∧ (1 ≤ c ∧ Kd.C k132 w' (some ⟨g, 0, none⟩) 1 [(⟨true, ([] : List (S164)), ([] : List Int)⟩ : S132)]) ∧ Below w.heap.size w w' := by
  refine (spec_TreeNew.calls [(⟨true, ([] : List (S164)), ([] : List Int)⟩ : S132)] 0 w rfl).mono ?_
  rintro e w' ⟨v, rfl, hR, hb⟩
  obtain ⟨g, cap, rfl, hg, hlt, cells, hcells⟩ := Kd.R_form hR (by simp)
  obtain ⟨A, c, he, hc, hC⟩ := Kd.R_reads hR
  obtain ⟨rfl, _, rfl⟩ : some ⟨g, 0, none⟩ = A ∧ True ∧ cap = c := by simpa using he
  obtain ⟨cs, hl, hM, hat, hfr⟩ := Kd.R_elem hR z132 0 (by omega) (by simp)
  obtain ⟨v1, v2, rfl, h1, h2⟩ := k132_openM hM
  obtain ⟨A1, c1, rfl⟩ := Kd.R_slice h1
  obtain ⟨A2, c2, rfl⟩ := Kd.R_slice h2
  refine ⟨g, cap, A1, c1, A2, c2, rfl, hg, ⟨cells, hcells, ?_, ?_, ?_⟩, ⟨hc, hC⟩, hb⟩
  · exact (blk_cell hcells 0).symm.trans (by simpa using hat 0 _ rfl)
  · exact (blk_cell hcells 1).symm.trans (by simpa using hat 1 _ rfl)
  · exact (blk_cell hcells 2).symm.trans (by simpa using hat 2 _ rfl)
theorem new46 (w : World) : Calls Try.prog 46 #[] w fun e w' => ∃ (g c : Nat) (A1 : Option Addr) (c1 : Nat) (A2 : Option Addr) (c2 : Nat), e = .returned (.agg #[.slice (some ⟨g, 0, none⟩) 1 c, .int .i64 0]) ∧ w.heap.size ≤ g ∧ Nd w' g (.bool true) A1 c1 A2 c2 ∧ (1 ≤ c ∧ Kd.C k132 w' (some ⟨g, 0, none⟩) 1 [(⟨true, ([] : List (S164)), ([] : List Int)⟩ : S132)]) ∧ Below w.heap.size w w' := by
  refine (impl_TreeNew.calls [(⟨true, ([] : List (S164)), ([] : List Int)⟩ : S132)] 0 w rfl).mono ?_
  rintro e w' ⟨v, rfl, hR, hb⟩
  obtain ⟨g, cap, rfl, hg, hlt, cells, hcells⟩ := Kd.R_form hR (by simp)
  obtain ⟨A, c, he, hc, hC⟩ := Kd.R_reads hR
  obtain ⟨rfl, _, rfl⟩ : some ⟨g, 0, none⟩ = A ∧ True ∧ cap = c := by simpa using he
  obtain ⟨cs, hl, hM, hat, hfr⟩ := Kd.R_elem hR z132 0 (by omega) (by simp)
  obtain ⟨v1, v2, rfl, h1, h2⟩ := k132_openM hM
  obtain ⟨A1, c1, rfl⟩ := Kd.R_slice h1
  obtain ⟨A2, c2, rfl⟩ := Kd.R_slice h2
  refine ⟨g, cap, A1, c1, A2, c2, rfl, hg, ⟨cells, hcells, ?_, ?_, ?_⟩, ⟨hc, hC⟩, hb⟩
  · exact (blk_cell hcells 0).symm.trans (by simpa using hat 0 _ rfl)
  · exact (blk_cell hcells 1).symm.trans (by simpa using hat 1 _ rfl)
  · exact (blk_cell hcells 2).symm.trans (by simpa using hat 2 _ rfl)
theorem put2 {w : World} {g : Nat} {a b x0 x1 : Value} (hb : w.heap[g]? = some (.cells #[x0, x1] 81 (0, 0))) : (((w.setCell ⟨g, 0, none⟩ (a)).setCell ⟨g, 1, none⟩ (b))).heap[g]? = some (.cells #[a, b] 81 (0, 0)) := by
  refine blk_put (cs := #[a, x1]) ?_ 1 _ rfl
  exact blk_put (cs := #[x0, x1]) hb 0 _ rfl
theorem far2 {w : World} {g g2 : Nat} {a b : Value} {cs : Array Value} (hb : w.heap[g2]? = some (.cells cs 81 (0, 0))) (hn : g2 ≠ g) : (((w.setCell ⟨g, 0, none⟩ (a)).setCell ⟨g, 1, none⟩ (b))).heap[g2]? = some (.cells cs 81 (0, 0)) :=
  blk_far (p := ⟨g, 1, none⟩) (blk_far (p := ⟨g, 0, none⟩) hb hn a) hn b
theorem low2 {w0 w : World} {g : Nat} {a b : Value} (h : Below w0.heap.size w0 w) (hg : w0.heap.size ≤ g) : Below w0.heap.size w0 (((w.setCell ⟨g, 0, none⟩ (a)).setCell ⟨g, 1, none⟩ (b))) := below_set (below_set h hg) hg
theorem low4 {w1 w w' : World} {g : Nat} (h : Below w1.heap.size w1 w) (hg : w1.heap.size ≤ g) (hk : KeepBut w w' g none) (h1 : w'.os = w.os) (h2 : w'.tape = w.tape) (h3 : w'.output = w.output) : Below w1.heap.size w1 w' :=
  ⟨h1.trans h.os, h2.trans h.tape, h3.trans h.output, Nat.le_trans h.size hk.1, fun k hk2 => (hk.2 k (Nat.lt_of_lt_of_le hk2 h.size) (by omega) (by simp)).trans (h.block k hk2)⟩
theorem eqT : laws_eqTree.f 9 [(⟨true, ([] : List (S164)), ([] : List Int)⟩ : S132)] 0 [(⟨true, ([] : List (S164)), ([] : List Int)⟩ : S132)] 0 = some true := by decide +kernel
set_option maxHeartbeats 8000000 in
set_option maxRecDepth 100000 in
theorem laws_FnExactTreeNew.calls (w : World) : Calls Try.prog 9 #[] w fun e w' => e = .returned (.bool true) ∧ Below w.heap.size w w' := by
  have hu81 := Try.underlying81
  go_enter Try.func9, Try.ntmps9
  go_wp2_with (first | (go_at_call 45; refine (new45 w).mono ?_; rintro e w1 ⟨r1, k1, A1, c1, E1, d1, rfl, hr1, hn_, hc_, hb⟩; have HB := Aside0.mk hb; have HC1 := Aside0.mk hc_; have H1 := Aside0.mk (Below.refl w1.heap.size w1); clear hn_ hc_ hb) | ((with_reducible refine gate_dst (N := 1) rfl ?_); refine box_event ?hg (N := 1) ?hd (cs := #[.slice none 0 0, .int .i64 0]) (t := 81) ?hr ?_; (case hd => rfl); (case hg => rfl); (case hr => first | (go_simp; done) | (go_simp; rfl)); intro b1 hg w2 hbox hb; have GB1 := Aside0.mk (show w.heap.size ≤ b1 by rw [hg]; exact HB.out.size); have IB1 := Aside0.mk (show w1.heap.size ≤ b1 by rw [hg]; exact H1.out.size); have B1 := Aside0.mk hbox; have mHB_ := Aside0.mk (below_step HB.out hb); have mH1_ := Aside0.mk (below_step H1.out hb); clear HB; have HB := mHB_; clear mHB_; clear H1; have H1 := mH1_; clear mH1_; clear hb hbox hg; have hB1_0 : w2.cell? ⟨b1, 0, none⟩ = some (.slice none 0 0) := (blk_cell B1.out 0).trans rfl; have hfB1_0 := blk_frozen B1.out 0; have hB1_1 : w2.cell? ⟨b1, 1, none⟩ = some (.int .i64 0) := (blk_cell B1.out 1).trans rfl; have hfB1_1 := blk_frozen B1.out 1; skip) | ((with_reducible refine gate_store (t := 81) (p := 1) rfl ?_); refine store_event (t := 81) (p := 1) (v := Operand.tmp 6) (w1 := ((w2.setCell ⟨b1, 0, none⟩ (.slice (some ⟨r1, 0, none⟩) 1 k1)).setCell ⟨b1, 1, none⟩ (.int .i64 0))) rfl rfl rfl ?hr ?_; (case hr => first | (go_simp; done) | (go_simp; rfl)); intro w3 hw; have mB1_ := Aside0.mk (show w3.heap[b1]? = some (.cells #[.slice (some ⟨r1, 0, none⟩) 1 k1, .int .i64 0] 81 (0, 0)) by rw [hw]; exact put2 B1.out); have mHB_ := Aside0.mk (show Below w.heap.size w w3 by rw [hw]; exact low2 HB.out GB1.out); have mH1_ := Aside0.mk (show Below w1.heap.size w1 w3 by rw [hw]; exact low2 H1.out IB1.out); clear HB; have HB := mHB_; clear mHB_; clear H1; have H1 := mH1_; clear mH1_; clear B1; have B1 := mB1_; clear mB1_; clear hw; have hB1_0 : w3.cell? ⟨b1, 0, none⟩ = some (.slice (some ⟨r1, 0, none⟩) 1 k1) := (blk_cell B1.out 0).trans rfl; have hfB1_0 := blk_frozen B1.out 0; have hB1_1 : w3.cell? ⟨b1, 1, none⟩ = some (.int .i64 0) := (blk_cell B1.out 1).trans rfl; have hfB1_1 := blk_frozen B1.out 1; skip) | (go_at_call 46; refine (new46 w3).mono ?_; rintro e w4 ⟨r2, k2, A2, c2, E2, d2, rfl, hr2, hn_, hc_, hb⟩; have R2 := Aside0.mk (show w1.heap.size ≤ r2 from Nat.le_trans H1.out.size hr2); have S2 := Aside0.mk (show w.heap.size ≤ r2 from Nat.le_trans HB.out.size hr2); have mB1_ := Aside0.mk (blk_below (g := b1) (o := .cells #[.slice (some ⟨r1, 0, none⟩) 1 k1, .int .i64 0] 81 (0, 0)) B1.out hb); have mHB_ := Aside0.mk (below_step HB.out hb); have mH1_ := Aside0.mk (below_step H1.out hb); clear B1; have B1 := mB1_; clear mB1_; clear HB; have HB := mHB_; clear mHB_; clear H1; have H1 := mH1_; clear mH1_; have HN := Aside0.mk hn_; have HC2 := Aside0.mk hc_; have H4 := Aside0.mk (Below.refl w4.heap.size w4); clear hn_ hc_ hb hr2; have hB1_0 : w4.cell? ⟨b1, 0, none⟩ = some (.slice (some ⟨r1, 0, none⟩) 1 k1) := (blk_cell B1.out 0).trans rfl; have hfB1_0 := blk_frozen B1.out 0; have hB1_1 : w4.cell? ⟨b1, 1, none⟩ = some (.int .i64 0) := (blk_cell B1.out 1).trans rfl; have hfB1_1 := blk_frozen B1.out 1; skip) | ((with_reducible refine gate_dst (N := 2) rfl ?_); refine box_event ?hg (N := 2) ?hd (cs := #[.slice none 0 0, .int .i64 0]) (t := 81) ?hr ?_; (case hd => rfl); (case hg => rfl); (case hr => first | (go_simp; done) | (go_simp; rfl)); intro b2 hg w5 hbox hb; have NB2_B1 := Aside0.mk (show b2 ≠ b1 by rw [hg]; exact Nat.ne_of_gt (blk_lt (g := b1) B1.out)); have GB2 := Aside0.mk (show w.heap.size ≤ b2 by rw [hg]; exact HB.out.size); have IB2 := Aside0.mk (show w1.heap.size ≤ b2 by rw [hg]; exact H1.out.size); have B2 := Aside0.mk hbox; have J2 := Aside0.mk (show w4.heap.size ≤ b2 by rw [hg]; exact H4.out.size); have mB1_ := Aside0.mk (blk_below (g := b1) (o := .cells #[.slice (some ⟨r1, 0, none⟩) 1 k1, .int .i64 0] 81 (0, 0)) B1.out hb); have mHB_ := Aside0.mk (below_step HB.out hb); have mH1_ := Aside0.mk (below_step H1.out hb); have mHN_ := Aside0.mk (Nd.below HN.out hb); have mH4_ := Aside0.mk (below_step H4.out hb); clear B1; have B1 := mB1_; clear mB1_; clear HB; have HB := mHB_; clear mHB_; clear H1; have H1 := mH1_; clear mH1_; clear HN; have HN := mHN_; clear mHN_; clear H4; have H4 := mH4_; clear mH4_; clear hb hbox hg; have hB1_0 : w5.cell? ⟨b1, 0, none⟩ = some (.slice (some ⟨r1, 0, none⟩) 1 k1) := (blk_cell B1.out 0).trans rfl; have hfB1_0 := blk_frozen B1.out 0; have hB1_1 : w5.cell? ⟨b1, 1, none⟩ = some (.int .i64 0) := (blk_cell B1.out 1).trans rfl; have hfB1_1 := blk_frozen B1.out 1; have hB2_0 : w5.cell? ⟨b2, 0, none⟩ = some (.slice none 0 0) := (blk_cell B2.out 0).trans rfl; have hfB2_0 := blk_frozen B2.out 0; have hB2_1 : w5.cell? ⟨b2, 1, none⟩ = some (.int .i64 0) := (blk_cell B2.out 1).trans rfl; have hfB2_1 := blk_frozen B2.out 1; skip) | ((with_reducible refine gate_store (t := 81) (p := 2) rfl ?_); refine store_event (t := 81) (p := 2) (v := Operand.tmp 7) (w1 := ((w5.setCell ⟨b2, 0, none⟩ (.slice (some ⟨r2, 0, none⟩) 1 k2)).setCell ⟨b2, 1, none⟩ (.int .i64 0))) rfl rfl rfl ?hr ?_; (case hr => first | (go_simp; done) | (go_simp; rfl)); intro w6 hw; have mB2_ := Aside0.mk (show w6.heap[b2]? = some (.cells #[.slice (some ⟨r2, 0, none⟩) 1 k2, .int .i64 0] 81 (0, 0)) by rw [hw]; exact put2 B2.out); have mB1_ := Aside0.mk (show w6.heap[b1]? = some (.cells #[.slice (some ⟨r1, 0, none⟩) 1 k1, .int .i64 0] 81 (0, 0)) by rw [hw]; exact far2 B1.out (by first | exact NB2_B1.out.symm | exact NB1_B2.out)); have mHB_ := Aside0.mk (show Below w.heap.size w w6 by rw [hw]; exact low2 HB.out GB2.out); have mH4_ := Aside0.mk (show Below w4.heap.size w4 w6 by rw [hw]; exact low2 H4.out J2.out); have mH1_ := Aside0.mk (show Below w1.heap.size w1 w6 by rw [hw]; exact low2 H1.out IB2.out); have mHN_ := Aside0.mk (show Nd w6 r2 (.bool true) A2 c2 E2 d2 by rw [hw]; exact Nd.far (Nd.far HN.out (Nd.ne HN.out B2.out) _) (Nd.ne HN.out B2.out) _); clear HB; have HB := mHB_; clear mHB_; clear H4; have H4 := mH4_; clear mH4_; clear H1; have H1 := mH1_; clear mH1_; clear HN; have HN := mHN_; clear mHN_; clear B1; have B1 := mB1_; clear mB1_; clear B2; have B2 := mB2_; clear mB2_; clear hw; have hB1_0 : w6.cell? ⟨b1, 0, none⟩ = some (.slice (some ⟨r1, 0, none⟩) 1 k1) := (blk_cell B1.out 0).trans rfl; have hfB1_0 := blk_frozen B1.out 0; have hB1_1 : w6.cell? ⟨b1, 1, none⟩ = some (.int .i64 0) := (blk_cell B1.out 1).trans rfl; have hfB1_1 := blk_frozen B1.out 1; have hB2_0 : w6.cell? ⟨b2, 0, none⟩ = some (.slice (some ⟨r2, 0, none⟩) 1 k2) := (blk_cell B2.out 0).trans rfl; have hfB2_0 := blk_frozen B2.out 0; have hB2_1 : w6.cell? ⟨b2, 1, none⟩ = some (.int .i64 0) := (blk_cell B2.out 1).trans rfl; have hfB2_1 := blk_frozen B2.out 1; skip) | (go_at_call 47; refine (laws_eqTree.calls 9 (some ⟨r2, 0, none⟩) k2 [(⟨true, ([] : List (S164)), ([] : List Int)⟩ : S132)] 0 (some ⟨r1, 0, none⟩) k1 [(⟨true, ([] : List (S164)), ([] : List Int)⟩ : S132)] 0 true w6 (Kd.C_below HC2.out.2 H4.out) HC2.out.1 (Kd.C_below HC1.out.2 H1.out) HC1.out.1 eqT rfl).mono ?_; rintro e w7 ⟨rfl, hb⟩; have mB1_ := Aside0.mk (blk_below (g := b1) (o := .cells #[.slice (some ⟨r1, 0, none⟩) 1 k1, .int .i64 0] 81 (0, 0)) B1.out hb); have mB2_ := Aside0.mk (blk_below (g := b2) (o := .cells #[.slice (some ⟨r2, 0, none⟩) 1 k2, .int .i64 0] 81 (0, 0)) B2.out hb); have mHB_ := Aside0.mk (below_step HB.out hb); have mH1_ := Aside0.mk (below_step H1.out hb); have mHN_ := Aside0.mk (Nd.below HN.out hb); have mH4_ := Aside0.mk (below_step H4.out hb); clear B1; have B1 := mB1_; clear mB1_; clear B2; have B2 := mB2_; clear mB2_; clear HB; have HB := mHB_; clear mHB_; clear H1; have H1 := mH1_; clear mH1_; clear HN; have HN := mHN_; clear mHN_; clear H4; have H4 := mH4_; clear mH4_; clear hb HC2 H4 J2; have hB1_0 : w7.cell? ⟨b1, 0, none⟩ = some (.slice (some ⟨r1, 0, none⟩) 1 k1) := (blk_cell B1.out 0).trans rfl; have hfB1_0 := blk_frozen B1.out 0; have hB1_1 : w7.cell? ⟨b1, 1, none⟩ = some (.int .i64 0) := (blk_cell B1.out 1).trans rfl; have hfB1_1 := blk_frozen B1.out 1; have hB2_0 : w7.cell? ⟨b2, 0, none⟩ = some (.slice (some ⟨r2, 0, none⟩) 1 k2) := (blk_cell B2.out 0).trans rfl; have hfB2_0 := blk_frozen B2.out 0; have hB2_1 : w7.cell? ⟨b2, 1, none⟩ = some (.int .i64 0) := (blk_cell B2.out 1).trans rfl; have hfB2_1 := blk_frozen B2.out 1; skip) | (go_at_call 48; have hne1 := Nd.ne HN.out B1.out; have hne2 := Nd.ne HN.out B2.out; refine (mark48 r2 k2 A2 c2 E2 d2 w w7 HB.out S2.out HN.out).mono ?_; rintro e w8 ⟨rfl, hb, hk, hn_⟩; have mB1_ := Aside0.mk (keep_blk B1.out hk hne1); have mB2_ := Aside0.mk (keep_blk B2.out hk hne2); have mH1_ := Aside0.mk (low4 H1.out R2.out hk (hb.os.trans HB.out.os.symm) (hb.tape.trans HB.out.tape.symm) (hb.output.trans HB.out.output.symm)); clear B1 B2 H1 HB HN hk hne1 hne2; have B1 := mB1_; have B2 := mB2_; have H1 := mH1_; have HB := Aside0.mk hb; have HN := Aside0.mk hn_; clear mB1_ mB2_ mH1_ hb hn_; have hB1_0 : w8.cell? ⟨b1, 0, none⟩ = some (.slice (some ⟨r1, 0, none⟩) 1 k1) := (blk_cell B1.out 0).trans rfl; have hfB1_0 := blk_frozen B1.out 0; have hB1_1 : w8.cell? ⟨b1, 1, none⟩ = some (.int .i64 0) := (blk_cell B1.out 1).trans rfl; have hfB1_1 := blk_frozen B1.out 1; have hB2_0 : w8.cell? ⟨b2, 0, none⟩ = some (.slice (some ⟨r2, 0, none⟩) 1 k2) := (blk_cell B2.out 0).trans rfl; have hfB2_0 := blk_frozen B2.out 0; have hB2_1 : w8.cell? ⟨b2, 1, none⟩ = some (.int .i64 0) := (blk_cell B2.out 1).trans rfl; have hfB2_1 := blk_frozen B2.out 1; skip) | (go_at_call 49; refine (held49 r2 k2 A2 c2 E2 d2 w8 HN.out).mono ?_; rintro e w9 ⟨rfl, hb⟩; have mB1_ := Aside0.mk (blk_below (g := b1) (o := .cells #[.slice (some ⟨r1, 0, none⟩) 1 k1, .int .i64 0] 81 (0, 0)) B1.out hb); have mB2_ := Aside0.mk (blk_below (g := b2) (o := .cells #[.slice (some ⟨r2, 0, none⟩) 1 k2, .int .i64 0] 81 (0, 0)) B2.out hb); have mHB_ := Aside0.mk (below_step HB.out hb); have mH1_ := Aside0.mk (below_step H1.out hb); have mHN_ := Aside0.mk (Nd.below HN.out hb); clear B1; have B1 := mB1_; clear mB1_; clear B2; have B2 := mB2_; clear mB2_; clear HB; have HB := mHB_; clear mHB_; clear H1; have H1 := mH1_; clear mH1_; clear HN; have HN := mHN_; clear mHN_; clear hb; have hB1_0 : w9.cell? ⟨b1, 0, none⟩ = some (.slice (some ⟨r1, 0, none⟩) 1 k1) := (blk_cell B1.out 0).trans rfl; have hfB1_0 := blk_frozen B1.out 0; have hB1_1 : w9.cell? ⟨b1, 1, none⟩ = some (.int .i64 0) := (blk_cell B1.out 1).trans rfl; have hfB1_1 := blk_frozen B1.out 1; have hB2_0 : w9.cell? ⟨b2, 0, none⟩ = some (.slice (some ⟨r2, 0, none⟩) 1 k2) := (blk_cell B2.out 0).trans rfl; have hfB2_0 := blk_frozen B2.out 0; have hB2_1 : w9.cell? ⟨b2, 1, none⟩ = some (.int .i64 0) := (blk_cell B2.out 1).trans rfl; have hfB2_1 := blk_frozen B2.out 1; skip) | (go_at_call 46; refine (new46 w9).mono ?_; rintro e w10 ⟨r3, k3, A3, c3, E3, d3, rfl, hr3, hn_, hc_, hb⟩; have mB1_ := Aside0.mk (blk_below (g := b1) (o := .cells #[.slice (some ⟨r1, 0, none⟩) 1 k1, .int .i64 0] 81 (0, 0)) B1.out hb); have mB2_ := Aside0.mk (blk_below (g := b2) (o := .cells #[.slice (some ⟨r2, 0, none⟩) 1 k2, .int .i64 0] 81 (0, 0)) B2.out hb); have mHB_ := Aside0.mk (below_step HB.out hb); have mH1_ := Aside0.mk (below_step H1.out hb); have mHN_ := Aside0.mk (Nd.below HN.out hb); clear B1; have B1 := mB1_; clear mB1_; clear B2; have B2 := mB2_; clear mB2_; clear HB; have HB := mHB_; clear mHB_; clear H1; have H1 := mH1_; clear mH1_; clear HN; have HN := mHN_; clear mHN_; have HC3 := Aside0.mk hc_; have H10 := Aside0.mk (Below.refl w10.heap.size w10); clear hn_ hc_ hb hr3; have hB1_0 : w10.cell? ⟨b1, 0, none⟩ = some (.slice (some ⟨r1, 0, none⟩) 1 k1) := (blk_cell B1.out 0).trans rfl; have hfB1_0 := blk_frozen B1.out 0; have hB1_1 : w10.cell? ⟨b1, 1, none⟩ = some (.int .i64 0) := (blk_cell B1.out 1).trans rfl; have hfB1_1 := blk_frozen B1.out 1; have hB2_0 : w10.cell? ⟨b2, 0, none⟩ = some (.slice (some ⟨r2, 0, none⟩) 1 k2) := (blk_cell B2.out 0).trans rfl; have hfB2_0 := blk_frozen B2.out 0; have hB2_1 : w10.cell? ⟨b2, 1, none⟩ = some (.int .i64 0) := (blk_cell B2.out 1).trans rfl; have hfB2_1 := blk_frozen B2.out 1; skip) | ((with_reducible refine gate_dst (N := 5) rfl ?_); refine box_event ?hg (N := 5) ?hd (cs := #[.slice none 0 0, .int .i64 0]) (t := 81) ?hr ?_; (case hd => rfl); (case hg => rfl); (case hr => first | (go_simp; done) | (go_simp; rfl)); intro b5 hg w11 hbox hb; have NB5_B1 := Aside0.mk (show b5 ≠ b1 by rw [hg]; exact Nat.ne_of_gt (blk_lt (g := b1) B1.out)); have NB5_B2 := Aside0.mk (show b5 ≠ b2 by rw [hg]; exact Nat.ne_of_gt (blk_lt (g := b2) B2.out)); have GB5 := Aside0.mk (show w.heap.size ≤ b5 by rw [hg]; exact HB.out.size); have IB5 := Aside0.mk (show w1.heap.size ≤ b5 by rw [hg]; exact H1.out.size); have B5 := Aside0.mk hbox; have J5 := Aside0.mk (show w10.heap.size ≤ b5 by rw [hg]; exact H10.out.size); have mB1_ := Aside0.mk (blk_below (g := b1) (o := .cells #[.slice (some ⟨r1, 0, none⟩) 1 k1, .int .i64 0] 81 (0, 0)) B1.out hb); have mB2_ := Aside0.mk (blk_below (g := b2) (o := .cells #[.slice (some ⟨r2, 0, none⟩) 1 k2, .int .i64 0] 81 (0, 0)) B2.out hb); have mHB_ := Aside0.mk (below_step HB.out hb); have mH1_ := Aside0.mk (below_step H1.out hb); have mHN_ := Aside0.mk (Nd.below HN.out hb); have mH10_ := Aside0.mk (below_step H10.out hb); clear B1; have B1 := mB1_; clear mB1_; clear B2; have B2 := mB2_; clear mB2_; clear HB; have HB := mHB_; clear mHB_; clear H1; have H1 := mH1_; clear mH1_; clear HN; have HN := mHN_; clear mHN_; clear H10; have H10 := mH10_; clear mH10_; clear hb hbox hg; have hB1_0 : w11.cell? ⟨b1, 0, none⟩ = some (.slice (some ⟨r1, 0, none⟩) 1 k1) := (blk_cell B1.out 0).trans rfl; have hfB1_0 := blk_frozen B1.out 0; have hB1_1 : w11.cell? ⟨b1, 1, none⟩ = some (.int .i64 0) := (blk_cell B1.out 1).trans rfl; have hfB1_1 := blk_frozen B1.out 1; have hB2_0 : w11.cell? ⟨b2, 0, none⟩ = some (.slice (some ⟨r2, 0, none⟩) 1 k2) := (blk_cell B2.out 0).trans rfl; have hfB2_0 := blk_frozen B2.out 0; have hB2_1 : w11.cell? ⟨b2, 1, none⟩ = some (.int .i64 0) := (blk_cell B2.out 1).trans rfl; have hfB2_1 := blk_frozen B2.out 1; have hB5_0 : w11.cell? ⟨b5, 0, none⟩ = some (.slice none 0 0) := (blk_cell B5.out 0).trans rfl; have hfB5_0 := blk_frozen B5.out 0; have hB5_1 : w11.cell? ⟨b5, 1, none⟩ = some (.int .i64 0) := (blk_cell B5.out 1).trans rfl; have hfB5_1 := blk_frozen B5.out 1; skip) | ((with_reducible refine gate_store (t := 81) (p := 5) rfl ?_); refine store_event (t := 81) (p := 5) (v := Operand.tmp 23) (w1 := ((w11.setCell ⟨b5, 0, none⟩ (.slice (some ⟨r3, 0, none⟩) 1 k3)).setCell ⟨b5, 1, none⟩ (.int .i64 0))) rfl rfl rfl ?hr ?_; (case hr => first | (go_simp; done) | (go_simp; rfl)); intro w12 hw; have mB5_ := Aside0.mk (show w12.heap[b5]? = some (.cells #[.slice (some ⟨r3, 0, none⟩) 1 k3, .int .i64 0] 81 (0, 0)) by rw [hw]; exact put2 B5.out); have mB1_ := Aside0.mk (show w12.heap[b1]? = some (.cells #[.slice (some ⟨r1, 0, none⟩) 1 k1, .int .i64 0] 81 (0, 0)) by rw [hw]; exact far2 B1.out (by first | exact NB5_B1.out.symm | exact NB1_B5.out)); have mB2_ := Aside0.mk (show w12.heap[b2]? = some (.cells #[.slice (some ⟨r2, 0, none⟩) 1 k2, .int .i64 0] 81 (0, 0)) by rw [hw]; exact far2 B2.out (by first | exact NB5_B2.out.symm | exact NB2_B5.out)); have mHB_ := Aside0.mk (show Below w.heap.size w w12 by rw [hw]; exact low2 HB.out GB5.out); have mH10_ := Aside0.mk (show Below w10.heap.size w10 w12 by rw [hw]; exact low2 H10.out J5.out); have mH1_ := Aside0.mk (show Below w1.heap.size w1 w12 by rw [hw]; exact low2 H1.out IB5.out); have mHN_ := Aside0.mk (show Nd w12 r2 (.bool false) A2 c2 E2 d2 by rw [hw]; exact Nd.far (Nd.far HN.out (Nd.ne HN.out B5.out) _) (Nd.ne HN.out B5.out) _); clear HB; have HB := mHB_; clear mHB_; clear H10; have H10 := mH10_; clear mH10_; clear H1; have H1 := mH1_; clear mH1_; clear HN; have HN := mHN_; clear mHN_; clear B1; have B1 := mB1_; clear mB1_; clear B2; have B2 := mB2_; clear mB2_; clear B5; have B5 := mB5_; clear mB5_; clear hw; have hB1_0 : w12.cell? ⟨b1, 0, none⟩ = some (.slice (some ⟨r1, 0, none⟩) 1 k1) := (blk_cell B1.out 0).trans rfl; have hfB1_0 := blk_frozen B1.out 0; have hB1_1 : w12.cell? ⟨b1, 1, none⟩ = some (.int .i64 0) := (blk_cell B1.out 1).trans rfl; have hfB1_1 := blk_frozen B1.out 1; have hB2_0 : w12.cell? ⟨b2, 0, none⟩ = some (.slice (some ⟨r2, 0, none⟩) 1 k2) := (blk_cell B2.out 0).trans rfl; have hfB2_0 := blk_frozen B2.out 0; have hB2_1 : w12.cell? ⟨b2, 1, none⟩ = some (.int .i64 0) := (blk_cell B2.out 1).trans rfl; have hfB2_1 := blk_frozen B2.out 1; have hB5_0 : w12.cell? ⟨b5, 0, none⟩ = some (.slice (some ⟨r3, 0, none⟩) 1 k3) := (blk_cell B5.out 0).trans rfl; have hfB5_0 := blk_frozen B5.out 0; have hB5_1 : w12.cell? ⟨b5, 1, none⟩ = some (.int .i64 0) := (blk_cell B5.out 1).trans rfl; have hfB5_1 := blk_frozen B5.out 1; skip) | (go_at_call 47; refine (laws_eqTree.calls 9 (some ⟨r3, 0, none⟩) k3 [(⟨true, ([] : List (S164)), ([] : List Int)⟩ : S132)] 0 (some ⟨r1, 0, none⟩) k1 [(⟨true, ([] : List (S164)), ([] : List Int)⟩ : S132)] 0 true w12 (Kd.C_below HC3.out.2 H10.out) HC3.out.1 (Kd.C_below HC1.out.2 H1.out) HC1.out.1 eqT rfl).mono ?_; rintro e w13 ⟨rfl, hb⟩; have mB1_ := Aside0.mk (blk_below (g := b1) (o := .cells #[.slice (some ⟨r1, 0, none⟩) 1 k1, .int .i64 0] 81 (0, 0)) B1.out hb); have mB2_ := Aside0.mk (blk_below (g := b2) (o := .cells #[.slice (some ⟨r2, 0, none⟩) 1 k2, .int .i64 0] 81 (0, 0)) B2.out hb); have mB5_ := Aside0.mk (blk_below (g := b5) (o := .cells #[.slice (some ⟨r3, 0, none⟩) 1 k3, .int .i64 0] 81 (0, 0)) B5.out hb); have mHB_ := Aside0.mk (below_step HB.out hb); have mH1_ := Aside0.mk (below_step H1.out hb); have mHN_ := Aside0.mk (Nd.below HN.out hb); have mH10_ := Aside0.mk (below_step H10.out hb); clear B1; have B1 := mB1_; clear mB1_; clear B2; have B2 := mB2_; clear mB2_; clear B5; have B5 := mB5_; clear mB5_; clear HB; have HB := mHB_; clear mHB_; clear H1; have H1 := mH1_; clear mH1_; clear HN; have HN := mHN_; clear mHN_; clear H10; have H10 := mH10_; clear mH10_; clear hb; have hB1_0 : w13.cell? ⟨b1, 0, none⟩ = some (.slice (some ⟨r1, 0, none⟩) 1 k1) := (blk_cell B1.out 0).trans rfl; have hfB1_0 := blk_frozen B1.out 0; have hB1_1 : w13.cell? ⟨b1, 1, none⟩ = some (.int .i64 0) := (blk_cell B1.out 1).trans rfl; have hfB1_1 := blk_frozen B1.out 1; have hB2_0 : w13.cell? ⟨b2, 0, none⟩ = some (.slice (some ⟨r2, 0, none⟩) 1 k2) := (blk_cell B2.out 0).trans rfl; have hfB2_0 := blk_frozen B2.out 0; have hB2_1 : w13.cell? ⟨b2, 1, none⟩ = some (.int .i64 0) := (blk_cell B2.out 1).trans rfl; have hfB2_1 := blk_frozen B2.out 1; have hB5_0 : w13.cell? ⟨b5, 0, none⟩ = some (.slice (some ⟨r3, 0, none⟩) 1 k3) := (blk_cell B5.out 0).trans rfl; have hfB5_0 := blk_frozen B5.out 0; have hB5_1 : w13.cell? ⟨b5, 1, none⟩ = some (.int .i64 0) := (blk_cell B5.out 1).trans rfl; have hfB5_1 := blk_frozen B5.out 1; skip) | (go_at_call 49; refine (held49 r2 k2 A2 c2 E2 d2 w13 HN.out).mono ?_; rintro e w14 ⟨rfl, hb⟩; have mB1_ := Aside0.mk (blk_below (g := b1) (o := .cells #[.slice (some ⟨r1, 0, none⟩) 1 k1, .int .i64 0] 81 (0, 0)) B1.out hb); have mB2_ := Aside0.mk (blk_below (g := b2) (o := .cells #[.slice (some ⟨r2, 0, none⟩) 1 k2, .int .i64 0] 81 (0, 0)) B2.out hb); have mB5_ := Aside0.mk (blk_below (g := b5) (o := .cells #[.slice (some ⟨r3, 0, none⟩) 1 k3, .int .i64 0] 81 (0, 0)) B5.out hb); have mHB_ := Aside0.mk (below_step HB.out hb); have mH1_ := Aside0.mk (below_step H1.out hb); have mHN_ := Aside0.mk (Nd.below HN.out hb); have mH10_ := Aside0.mk (below_step H10.out hb); clear B1; have B1 := mB1_; clear mB1_; clear B2; have B2 := mB2_; clear mB2_; clear B5; have B5 := mB5_; clear mB5_; clear HB; have HB := mHB_; clear mHB_; clear H1; have H1 := mH1_; clear mH1_; clear HN; have HN := mHN_; clear mHN_; clear H10; have H10 := mH10_; clear mH10_; clear hb; skip))
  go_ret
  exact ⟨rfl, HB.out⟩
end Go.Proofs.Ytjmlbkhcjgehdaa.PFnExactTreeNew
