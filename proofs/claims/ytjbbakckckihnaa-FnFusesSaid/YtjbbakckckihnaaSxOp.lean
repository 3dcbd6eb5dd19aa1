/- Library: a checked symbolic machine over the model's code (part SxOp). No conditions: each theorem says its own. -/
import Derived.Test.YtjbbakckckihnaaSxVal
import Derived.Laws.AppendOwn
/-! Operations over the call's own blocks. -/
namespace Go.Proofs.Ytjbbakckckihnaa.Sx
set_option linter.unusedVariables false
set_option linter.unusedSimpArgs false
open Go.RowKit
abbrev Hp := Array Obj
/-- The blocks of the list hold what the list tells. -/
def LOK (L : List Nat) (lb : List LB) (h : Hp) : Prop :=
  lb.length = L.length ∧ L.Nodup ∧ ∀ i b, lb[i]? = some b → h[L.getD i 0]? = some (.cells (b.cells.map (SC.val L)).toArray b.ty (0, 0))
def fieldOff (P : Program) (s f : Nat) : Option Nat :=
  match P.underlying s with
  | some (.struct fs) => match fs[f]? with
    | some fd => match P.info? fd.type with
      | some i => bif Nat.beq i.size 0 then none else some fd.offset
      | none => none
    | none => none
  | _ => none
def aggSz (P : Program) (t : Nat) : Option (Bool × Nat) :=
  match P.underlying t, P.info? t with
  | some (.struct _), some i => some (true, i.size)
  | some (.array _ _), some i => some (true, i.size)
  | some _, some i => some (false, i.size)
  | _, _ => none
def partS (P : Program) (t : Nat) (cs : List SC) (off : Nat) : Option SV :=
  match aggSz P t with
  | some (true, n) => some (.agg ((cs.drop off).take n))
  | some (false, _) => match cs[off]? with
    | some c => some (.one c)
    | none => none
  | none => none
theorem aggSz_run {P : Program} {t : Nat} {g : Bool} {n : Nat} (h : aggSz P t = some (g, n)) (w : World) :
    (isAgg t).run P w = .ok g w ∧ (sizeOf t).run P w = .ok n w := by
  unfold aggSz at h
  cases hu : P.underlying t with
  | none => simp [hu] at h
  | some d =>
    cases hi : P.info? t with
    | none => simp [hu, hi] at h; 
    | some i =>
      have hs : (sizeOf t).run P w = .ok i.size w := by simp [sizeOf, typeInfo, hi]
      have ha : (isAgg t).run P w = .ok (match d with | .struct _ => true | .array _ _ => true | _ => false) w := by
        simp only [isAgg, Sem.run_bind, run_underlying hu, Result.andThen_ok]
        cases d <;> rfl
      rw [hs, ha]
      cases d <;> simp [hu, hi] at h <;> obtain ⟨rfl, rfl⟩ := h <;> exact ⟨rfl, rfl⟩
theorem partS_run {P : Program} {t : Nat} {cs : List SC} {off : Nat} {v : SV} (h : partS P t cs off = some v) (L : List Nat) (w : World) :
    (part t (cs.map (SC.val L)).toArray off).run P w = .ok (v.val L) w := by
  unfold partS at h
  cases hg : aggSz P t with
  | none => simp [hg] at h
  | some gn =>
    obtain ⟨g, n⟩ := gn
    obtain ⟨h1, h2⟩ := aggSz_run hg w
    cases g with
    | true =>
      simp only [hg, Option.some.injEq] at h
      subst h
      simp only [part, Sem.run_bind, h1, Result.andThen_ok, if_true, h2, Sem.run_pure, SV.val]
      simp [List.extract_toArray, List.extract_eq_take_drop]
    | false =>
      simp only [hg] at h
      cases hc : cs[off]? with
      | none => simp [hc] at h
      | some c =>
        simp only [hc, Option.some.injEq] at h
        subst h
        simp only [part, Sem.run_bind, h1, Result.andThen_ok, Bool.false_eq_true, if_false]
        simp [hc, SV.val]
theorem fieldOff_spec {P : Program} {s f k : Nat} (h : fieldOff P s f = some k) : ∃ fs fd i, P.underlying s = some (.struct fs) ∧ fs[f]? = some fd ∧ P.info? fd.type = some i ∧ i.size ≠ 0 ∧ k = fd.offset := by
  unfold fieldOff at h
  split at h
  · rename_i fs hu
    split at h
    · rename_i fd hf
      split at h
      · rename_i i hi
        cases hz : Nat.beq i.size 0 with
        | true => rw [hz] at h; cases h
        | false =>
          rw [hz] at h
          refine ⟨fs, fd, i, hu, hf, hi, fun e => ?_, (Option.some.inj h).symm⟩
          rw [e] at hz
          cases hz
      · cases h
    · cases h
  · cases h
def capS : SV → Option Cap
  | .one (.v x) => some (.v x)
  | .one (.bo b) => some (.v (.bool b))
  | .one (.ptr h off) => some (.p h off)
  | _ => none
def capsS (tm : List (Nat × SV)) : List Operand → Option (List Cap)
  | [] => some []
  | x :: r => match opv tm x with
    | some v => match capS v, capsS tm r with
      | some c, some l => some (c :: l)
      | _, _ => none
    | none => none
theorem capsS_val {N : Nat} {L : List Nat} {tm : List (Nat × SV)} {a : Act} (h : TOK N L tm a) : ∀ {xs : List Operand} {l : List Cap}, capsS tm xs = some l → xs.map a.eval = l.map (Cap.val L)
  | [], l, hl => by simp [capsS] at hl; subst hl; rfl
  | x :: r, l, hl => by
    simp only [capsS] at hl
    cases ho : opv tm x with
    | none => simp [ho] at hl
    | some v =>
      cases hc : capS v with
      | none => simp [ho, hc] at hl
      | some c =>
        cases hr : capsS tm r with
        | none => simp [ho, hc, hr] at hl
        | some m =>
          simp only [ho, hc, hr, Option.some.injEq] at hl
          subst hl
          rw [List.map_cons, List.map_cons, capsS_val h hr, opv_eval h ho]
          congr 1
          cases v with
          | agg cs => cases hc
          | one c' => cases c' <;> simp [capS] at hc <;> subst hc <;> rfl
def kindOf (tm : List (Nat × SV)) (x : Operand) : Nat :=
  match opv tm x with
  | some (.one (.v (.int _ _))) => 1
  | some (.one (.v (.bool _))) => 2
  | some (.one (.bo _)) => 2
  | some (.one (.v (.float _ _))) => 3
  | some (.one (.v (.pointer none))) => 4
  | some (.one (.v (.pointer (some _)))) => 5
  | some (.one (.v (.slice none _ _))) => 6
  | some (.one (.v (.slice (some _) _ _))) => 7
  | _ => 0
def isK : Operand → Bool
  | .const _ => true
  | _ => false
/-- Operations that no test of an open number holds up. -/
def okGen (tm : List (Nat × SV)) : Op → Bool
  | .nilCheck _ => true
  | .unOp _ _ _ => true
  | .extract _ _ => true
  | .field _ _ _ => true
  | .fieldAddr _ _ _ => true
  | .build _ _ => true
  | .makeInterface _ _ => true
  | .convert _ _ x => Nat.beq (kindOf tm x) 1
  | .binOp op _ x y _ => match op with
    | .add | .sub | .mul | .and | .or | .xor | .andNot => Nat.beq (kindOf tm x) 1 && Nat.beq (kindOf tm y) 1
    | .quo | .rem | .shl | .shr => Nat.beq (kindOf tm x) 1 && isK y
    | .eql | .neq | .lss | .leq | .gtr | .geq => match kindOf tm x, kindOf tm y with
      | 1, 1 => true
      | 2, 2 => true
      | 3, 3 => true
      | 4, 4 => true
      | 4, 5 => true
      | 5, 4 => true
      | 6, 6 => true
      | 6, 7 => true
      | 7, 6 => true
      | _, _ => false
  | .call c => match c.callee with
    | .value (.func _) => true
    | .builtin .len => true
    | .builtin .cap => true
    | _ => false
  | _ => false
/-- A comparison that is decided by what stands there. -/
def litCmp (tm : List (Nat × SV)) : Op → Bool
  | .binOp _ _ x _ _ => Nat.ble 4 (kindOf tm x)
  | _ => false
def genV (P : Program) (tm : List (Nat × SV)) (o : Oper) : Option SV :=
  bif okGen tm o.op then
    match gen P tm o with
    | some (.value v) => some (bif litCmp tm o.op then .one (.v v) else wrapV v)
    | _ => none
  else none
/-- An operation that yields its value in whatever world. -/
def evalP (P : Program) (tm : List (Nat × SV)) (o : Oper) : Option SV :=
  match o.op with
  | .move x => opv tm x
  | .assign x => opv tm x
  | .pick c a b => match opv tm c with
    | some (.one (.v (.bool true))) => opv tm a
    | some (.one (.v (.bool false))) => opv tm b
    | _ => none
  | .makeFunc (.func f) first caps => bif Nat.beq first.size 0 then
      match capsS tm caps.toList with
      | some l => some (.one (.fn f l))
      | none => none
    else none
  | .nilCheck x => match opv tm x with
    | some (.one (.ptr h off)) => some (.one (.ptr h off))
    | some (.one (.fn f l)) => some (.one (.fn f l))
    | _ => genV P tm o
  | .fieldAddr s x f => match opv tm x with
    | some (.one (.ptr h off)) => match fieldOff P s f with
      | some k => some (.one (.ptr h (bif Nat.beq k 0 then off else off + k)))
      | none => none
    | _ => genV P tm o
  | .field t x f => match opv tm x with
    | some (.agg cs) => match P.underlying t with
      | some (.struct fs) => match fs[f]? with
        | some fd => partS P fd.type cs fd.offset
        | none => none
      | _ => none
    | _ => genV P tm o
  | .unOp .not _ x => match opv tm x with
    | some (.one (.v (.bool true))) => some (.one (.v (.bool false)))
    | some (.one (.v (.bool false))) => some (.one (.v (.bool true)))
    | _ => genV P tm o
  | .alloc _ => none
  | .box _ _ => none
  | .buildSlice _ _ _ => none
  | .load _ _ => none
  | .store _ _ _ => none
  | _ => genV P tm o
theorem genV_run {P : Program} {N : Nat} {L : List Nat} {tm : List (Nat × SV)} {a : Act} (h : TOK N L tm a) {o : Oper} {v : SV} (hg : genV P tm o = some v) (w : World) :
    (execOp a.eval o).run P w = .ok (.value (v.val L)) w := by
  unfold genV at hg
  cases hk : okGen tm o.op with
  | false => rw [hk] at hg; cases hg
  | true =>
    rw [hk] at hg
    simp only [cond_true] at hg
    cases hq : gen P tm o with
    | none => simp [hq] at hg
    | some n =>
      cases n <;> simp only [hq, Option.some.injEq] at hg <;> try (cases hg; done)
      rename_i u
      have hu : v.val L = u := by
        rw [← hg]
        cases litCmp tm o.op with
        | true => rfl
        | false => exact wrapV_val u L
      rw [hu]
      exact gen_run h hq w
theorem evalP_run {P : Program} {N : Nat} {L : List Nat} {tm : List (Nat × SV)} {a : Act} (h : TOK N L tm a) {o : Oper} {v : SV} (hv : evalP P tm o = some v) (w : World) :
    (execOp a.eval o).run P w = .ok (.value (v.val L)) w := by
  obtain ⟨dst, op, ty, pos, after, guard⟩ := o
  have hg := fun v => genV_run (P := P) h (o := ⟨dst, op, ty, pos, after, guard⟩) (v := v) (w := w)
  cases op <;> simp only [evalP] at hv <;> try first | exact hg _ hv | (cases hv; done)
  case move x => simp only [execOp, Sem.run_pure, opv_eval h hv]
  case assign x => simp only [execOp, Sem.run_pure, opv_eval h hv]
  case pick c x y =>
    split at hv
    · rename_i hc; simp only [execOp, opv_eval h hc, SV.val, SC.val, asBool, Sem.run_bind, Sem.run_pure, Result.andThen_ok, if_true, opv_eval h hv]
    · rename_i hc; simp only [execOp, opv_eval h hc, SV.val, SC.val, asBool, Sem.run_bind, Sem.run_pure, Result.andThen_ok, Bool.false_eq_true, if_false, opv_eval h hv]
    · cases hv
  case makeFunc fn first caps =>
    cases fn <;> first | exact hg _ hv | skip
    rename_i f
    simp only at hv
    cases hs : Nat.beq first.size 0 with
    | false => rw [hs] at hv; cases hv
    | true =>
      rw [hs] at hv
      simp only [cond_true] at hv
      have hs0 : first = #[] := Array.eq_empty_of_size_eq_zero (Nat.eq_of_beq_eq_true hs)
      subst hs0
      cases hc : capsS tm caps.toList with
      | none => simp [hc] at hv
      | some l =>
        simp only [hc, Option.some.injEq] at hv
        subst hv
        have := capsS_val h hc
        simp only [execOp, Instr.makeFunc, Sem.run_bind, Sem.run_pure, Result.andThen_ok, SV.val, SC.val, ← this]
        have e : caps.map a.eval = (caps.toList.map a.eval).toArray := by apply Array.ext'; simp
        rw [e]
        simp
  case nilCheck x =>
    split at hv
    · rename_i hc; cases hv; simp [execOp, opv_eval h hc, SV.val, SC.val]
    · rename_i hc; cases hv; simp [execOp, opv_eval h hc, SV.val, SC.val]
    · exact hg _ hv
  case unOp u t x =>
    cases u <;> first | exact hg _ hv | skip
    simp only at hv
    split at hv
    · rename_i hc; cases hv; simp [execOp, opv_eval h hc, SV.val, SC.val, Op.unary]
    · rename_i hc; cases hv; simp [execOp, opv_eval h hc, SV.val, SC.val, Op.unary]
    · exact hg _ hv
  case fieldAddr s x f =>
    split at hv
    · rename_i k off hc
      cases hk : fieldOff P s f with
      | none => rw [hk] at hv; cases hv
      | some o =>
        rw [hk] at hv
        obtain ⟨fs, fd, i, hu, hf, hi, hne, rfl⟩ := fieldOff_spec hk
        obtain rfl := (Option.some.inj hv).symm
        have hsz : (sizeOf fd.type).run P w = .ok i.size w := by simp [sizeOf, typeInfo, hi]
        simp only [execOp, Instr.fieldAt, Sem.run_bind, run_underlying hu, Result.andThen_ok, hf, opv_eval h hc, SV.val, SC.val, Instr.sureAddr, Sem.run_pure, fieldPlace, hsz, hne, if_false]
        cases hk : Nat.beq fd.offset 0 with
        | true =>
          have : fd.offset = 0 := Nat.eq_of_beq_eq_true hk
          simp [Addr.add, this]
        | false =>
          have : fd.offset ≠ 0 := fun e => by rw [e] at hk; cases hk
          simp [Addr.add, this]
    · exact hg _ hv
  case field t x f =>
    split at hv
    · rename_i cs hc
      split at hv
      · rename_i fs hu
        split at hv
        · rename_i fd hf
          simp only [execOp, Instr.field, Sem.run_bind, run_underlying hu, Result.andThen_ok, hf, opv_eval h hc, SV.val, asAgg, Sem.run_pure, partS_run hv L w]
        · cases hv
      · cases hv
    · exact hg _ hv
end Go.Proofs.Ytjbbakckckihnaa.Sx
