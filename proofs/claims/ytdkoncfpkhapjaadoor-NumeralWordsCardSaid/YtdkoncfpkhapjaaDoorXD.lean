/- Part 4 of the texts of this claim: the evaluator, and what it says of the program's functions. -/
import Derived.Test.YtdkoncfpkhapjaaDoorXC
import Derived.ChangeArms
import Derived.SizedLaws
import Derived.Carry
import Derived.Handed
import Derived.ChangeSame
import Derived.ChangeVars
import Derived.JoinedOf
import Derived.RowKit
import Derived.WideShapes
import Derived.Test.YtdkoncfpkhapjaaDoorTie
import Derived.Test.YtdkoncfpkhapjaaDoorCards
import Derived.Lib.LaidU8T
import Derived.Lib.LaidIn
import Derived.Lay
import Derived.SevenTiedAt
set_option linter.unusedSectionVars false
set_option linter.unusedVariables false
set_option linter.unusedSimpArgs false
set_option linter.constructorNameAsVariable false
/- Numeral: the specifications joined, one function after the other. -/
section
open Go Go.Vm Go.Proofs
namespace Go.Vm
section
variable [Fixed]
variable {P : Program}
def addS (T : Vm.Spec) (f : FuncId) (s : List AV → Option AV) : Vm.Spec := fun g vs => if g = f then s vs else T g vs
theorem addS_at {T : Vm.Spec} {f : FuncId} {s : List AV → Option AV} {vs : List AV} : addS T f s f vs = s vs := if_pos rfl
theorem addS_ne {T : Vm.Spec} {f g : FuncId} {s : List AV → Option AV} {vs : List AV} (h : g ≠ f) : addS T f s g vs = T g vs := if_neg h
theorem SpecOk.none : SpecOk P fun _ _ => none := fun _ _ _ h => by cases h
theorem SpecOk.add {T : Vm.Spec} (hT : SpecOk P T) {f : FuncId} {s : List AV → Option AV} (h : ∀ vs r, s vs = some r → CallAt P f vs [] 0 r []) : SpecOk P (addS T f s) := by
  intro g vs r hr
  unfold addS at hr
  split at hr
  · rename_i e
    subst e
    exact h vs r hr
  · exact hT g vs r hr
theorem SpecOk.addRo {T : Vm.Spec} (hT : SpecOk P T) {f : FuncId} {s : List AV → Option AV} (h : ∀ vs r, s vs = some r → CallAt P f vs [] 0 r []) : SpecOk P (addS T f fun vs => s (roAll vs)) :=
  hT.add fun vs r hr => (h (roAll vs) r hr).ro
theorem run_at {X : Ext} (hX : ExtOk P X) {T : Vm.Spec} (hT : SpecOk P T) {f : FuncId} {fn : Func} {lf : Nat} {fg : Nat → List Nat} {vs : List AV} {r : AV} {σ' : List Ob}
    (hd : X.dom f = true) (hf : P.funcs[f]? = some fn) (hb : fn.body = some (codeOf fn)) (hp : r.pure = true) (hv : vbody P X (callerOf T) lf fg fn (codeOf fn) vs [] 0 = some (r, σ')) : CallAt P f vs [] 0 r [] :=
  (body_at hX (callerOf_ok hT) hd hf hb hv).clean hp
end
theorem roAll_strs : ∀ (l : List ByteArray), roAll (l.map .str) = l.map .str
  | [] => rfl
  | s :: l => by simp [roAll, roA, roAll_strs l]
end Go.Vm
namespace Go.Proofs.Num
theorem roAll_sysC (s : NSys) : roAll (sysC s) = sysC s := by
  simp [sysC, roAll, roA, roAll_strs]
theorem roAll_sys (s : NSys) : roAll [AV.agg (sysC s)] = [AV.agg (sysC s)] := by
  simp [roAll, roA, roAll_sysC]
theorem lt_sysC (m : Nat) (s : NSys) : AV.ltAll m (sysC s) = true := by
  simp [sysC, AV.ltAll, AV.lt, lt_strs]
theorem lt_sys (s : NSys) : AV.ltAll 0 [AV.agg (sysC s)] = true := by
  simp [AV.ltAll, AV.lt, lt_sysC]
def szB (w : ByteArray) : Bool := Nat.ble w.size 140737488355328
theorem szB_le {w : ByteArray} (h : szB w = true) : w.size ≤ 140737488355328 := Nat.le_of_ble_eq_true h
/-- Sizes that any machine bears. -/
def okS (s : NSys) : Bool := s.digits.all szB && (s.powers.all szB && (szB s.jo && (szB s.le && Nat.ble (s.digits.length + s.powers.length) 140737488355328)))
theorem okS_iff {s : NSys} (h : okS s = true) : (∀ w, w ∈ s.digits ∨ w ∈ s.powers ∨ w = s.jo ∨ w = s.le → w.size ≤ 140737488355328) ∧ s.digits.length + s.powers.length ≤ 140737488355328 := by
  simp only [okS, Bool.and_eq_true, List.all_eq_true] at h
  obtain ⟨h1, h2, h3, h4, h5⟩ := h
  refine ⟨?_, Nat.le_of_ble_eq_true h5⟩
  rintro w (h | h | rfl | rfl)
  · exact szB_le (h1 w h)
  · exact szB_le (h2 w h)
  · exact szB_le h3
  · exact szB_le h4
/-! ### the specifications -/
def tokS : List AV → Option AV
  | [.str s] => if szB s then some (.bool (tokB s)) else none
  | _ => none
def growS : List AV → Option AV
  | [.list .nil 0 0 [], .int .i64 (.ofNat n)] => if 0 < n ∧ n * 17 ≤ 140737488355328 then some (.list .fresh 0 1 []) else none
  | _ => none
def strsX : AV → Option (List ByteArray)
  | .list .ro n 1 cs => match strsO cs with
    | some l => if n = l.length then some l else none
    | none => none
  | _ => none
theorem strsX_eq {v : AV} {l : List ByteArray} (h : strsX v = some l) : v = strs l := by
  unfold strsX at h
  split at h
  · split at h
    · rename_i l' hl
      split at h
      · rename_i e
        simp only [Option.some.injEq] at h
        subst h; subst e
        rw [strsO_eq hl]
        rfl
      · cases h
    · cases h
  · cases h
theorem strsX_of (l : List ByteArray) : strsX (strs l) = some l := by
  simp only [strsX, strs, strsO_map, if_true]
def catS : List AV → Option AV
  | [.list .clip 2 1 [a, b]] => match strsX a, strsX b with
    | some l, some m => if 0 < l.length + m.length ∧ (l.length + m.length) * 17 ≤ 140737488355328 then some (.list .fresh (l ++ m).length 1 ((l ++ m).map .str)) else none
    | _, _ => none
  | _ => none
def validS : List AV → Option AV
  | [.agg cs] => match sysO cs with
    | some s => if okS s then some (.bool (validL s)) else none
    | none => none
  | _ => none
def smallS : List AV → Option AV
  | [.agg cs] => match sysO cs with
    | some s => some (.bool (smallL s))
    | none => none
  | _ => none
def greatS : List AV → Option AV
  | [.agg cs] => match sysO cs with
    | some s => if okS s then some (i6 (if validL s then 9999 else -1)) else none
    | none => none
  | _ => none
def powS : List AV → Option AV
  | [.agg cs, .int .i64 n] => match sysO cs with
    | some s => if s.base = 10 ∨ s.base = 20 then some (.tup [i6 (s.base ^ (powK s n + 1)), i6 (powK s n)]) else none
    | none => none
  | _ => none
def lessS : List AV → Option AV
  | [.agg cs, .int .i64 q, .int .i64 p, .int .i64 r] => match sysO cs with
    | some s => some (.bool (lessL s q p r))
    | none => none
  | _ => none
def headNe : List (List ByteArray) → Bool
  | (_ :: _) :: _ => true
  | _ => false
theorem headNe_pos {ls : List (List ByteArray)} (h : headNe ls = true) : 0 < ls.length ∧ ∀ l, ls[0]? = some l → l ≠ [] := by
  match ls with
  | (x :: l) :: ls => exact ⟨by simp, fun m hm => by simp at hm; subst hm; simp⟩
  | [] :: _ => simp [headNe] at h
  | [] => simp [headNe] at h
theorem headNe_of {ls : List (List ByteArray)} (h0 : 0 < ls.length) (h : ∀ l, ls[0]? = some l → l ≠ []) : headNe ls = true := by
  match ls with
  | (x :: l) :: ls => rfl
  | [] :: _ => exact absurd rfl (h [] rfl)
  | [] => simp at h0
def collS' : List AV → Option AV
  | [.list .clip k 1 ps] => match isSOs ps with
    | some ls => if k = ls.length ∧ lensum ls * 17 ≤ 140737488355328 ∧ ls.length ≤ 140737488355328 ∧ headNe ls = true then some (.list .fresh (joinL ls).length 1 ((joinL ls).map .str)) else none
    | none => none
  | _ => none
def joiS : List AV → Option AV
  | [.agg cs] => match sysO cs with
    | some s => some (joinV s)
    | none => none
  | _ => none
def textsS : List AV → Option AV
  | [a, b] => match isSO a, isSO b with
    | some l, some m => if l.length ≤ 140737488355328 then some (.bool (textsL l m)) else none
    | _, _ => none
  | _ => none
def rjoinS : List AV → Option AV
  | [a, b] => match isSO a, isSO b with
    | some l, some m => if (l.length + m.length) * 17 ≤ 140737488355328 then some (lst (l ++ m)) else none
    | _, _ => none
  | _ => none
/-- A list of strings that comes back, told by value. -/
theorem isS_call [Fixed] {f : FuncId} {vs : List AV} {σ : List Ob} {ro : Nat} {r : AV} {l : List ByteArray} {σ' : List Ob} (hr : IsS r l) (h : CallAt Tryd.prog f vs σ ro r σ') : CallAt Tryd.prog f vs σ ro (lst l) σ' := by
  refine ⟨h.1, fun C w us hσ hs hro hrep => Calls.mono (h.2 C w us hσ hs hro hrep) ?_⟩
  rintro e w' ⟨u, C', h1, h2, h3, h4, h5, h6⟩
  refine ⟨u, C', h1, h2, h3, h4, ?_, by simp [Fresh]⟩
  have := roA_rep C' w' _ _ h5
  rcases hr with ⟨k, rfl⟩ | ⟨rfl, k, sz, cs, rfl⟩
  · simp only [roA, roAll_strs] at this
    have e : (if l.length = 0 then 1 else 1) = 1 := by split <;> rfl
    rw [e] at this
    exact this
  · simp only [roA, Rep] at this
    simp only [lst, Rep]
    obtain ⟨h0, h1, a, cap, h2, h3, h4, h5, h6, h7⟩ := this
    exact ⟨by simp, trivial, a, cap, h2, h3, h4, by simp, by simp, fun h => absurd h (by simp)⟩
def T0 : Vm.Spec := fun _ _ => none
def T1 : Vm.Spec := addS (addS T0 43 tokS) 31 tokS
def T2 : Vm.Spec := addS T1 52 growS
def T3 : Vm.Spec := addS T2 42 catS
def T4 : Vm.Spec := addS T3 22 fun vs => validS (roAll vs)
def T5 : Vm.Spec := addS T4 14 fun vs => validS (roAll vs)
def T6 : Vm.Spec := addS (addS T5 13 fun vs => smallS (roAll vs)) 30 fun vs => greatS (roAll vs)
def T7 : Vm.Spec := addS (addS T6 34 fun vs => powS (roAll vs)) 35 fun vs => lessS (roAll vs)
def T8 : Vm.Spec := addS (addS T7 36 collS') 37 fun vs => joiS (roAll vs)
def T9 : Vm.Spec := addS (addS T8 17 textsS) 38 rjoinS
section
variable [Fixed]
variable (hX : ∀ l, ExtOk Tryd.prog (X15 l))
include hX
theorem valid_call {l : List Nat} {call : Caller} {s : ByteArray} (h : szB s = true) {dr : Bool} : callv (X15 l) call dr 47 [AV.str s] [] 0 = some (AV.bool (Lib.validD (bytes s)), []) := by
  have h1 : (X15 l).pureFn 47 = some validFn := rfl
  have h2 : validFn [.str s] = some (.bool (Lib.validD (bytes s))) := by
    have := szB_le h
    simp only [validFn]
    rw [if_pos (by omega)]
  unfold callv
  rw [h1]
  cases dr <;> simp [AV.ltAll, AV.lt, AV.thawAll, AV.thaw, AV.ownsAll, AV.owns, freezeIds, h2]
theorem T1_ok : SpecOk Tryd.prog T1 := by
  refine (SpecOk.none.add ?_).add ?_
  · intro vs r h
    unfold tokS at h
    split at h
    · split at h
      · rename_i s hs
        simp only [Option.some.injEq] at h
        subst h
        obtain ⟨σ', hv⟩ := tok_spec (X15 []) (callerOf T0) (szB_le hs) (valid_call hX hs)
        exact run_at (hX []) SpecOk.none rfl Tryd.func43 rfl rfl hv
      · cases h
    · cases h
  · intro vs r h
    unfold tokS at h
    split at h
    · split at h
      · rename_i s hs
        simp only [Option.some.injEq] at h
        subst h
        exact run_at (hX []) SpecOk.none rfl Tryd.func31 rfl rfl (rtok_spec (X15 []) (callerOf T0) (szB_le hs) (valid_call hX hs))
      · cases h
    · cases h
theorem T2_ok : SpecOk Tryd.prog T2 := by
  refine (T1_ok hX).add ?_
  intro vs r h
  unfold growS at h
  split at h
  · split at h
    · rename_i n hn
      simp only [Option.some.injEq] at h
      subst h
      exact run_at (hX []) (T1_ok hX) rfl Tryd.func52 rfl rfl (grow_spec (X15 []) (callerOf T1) 1 n hn.1 hn.2)
    · cases h
  · cases h
theorem T3_ok : SpecOk Tryd.prog T3 := by
  refine (T2_ok hX).add ?_
  intro vs r h
  unfold catS at h
  split at h
  · rename_i a b
    split at h
    · rename_i l m ha hb
      split at h
      · rename_i hn
        simp only [Option.some.injEq] at h
        subst h
        have e1 := strsX_eq ha
        have e2 := strsX_eq hb
        subst e1; subst e2
        have hs : lensum [l, m] = l.length + m.length := by simp [lensum]
        have hg : T2 52 [AV.list LK.nil 0 0 [], AV.int IntKind.i64 (↑(lensum [l, m]) : Int)] = some (.list .fresh 0 1 []) := by
          unfold T2
          rw [addS_at, hs]
          show growS [.list .nil 0 0 [], .int .i64 (.ofNat (l.length + m.length))] = _
          simp only [growS]
          rw [if_pos hn]
        have hc := call_spec (X := X15 [52]) (dr := false) (σ := []) (ro := 0) rfl rfl (by simp [AV.ltAll, AV.lt]) hg rfl
        have hj : joinL [l, m] = l ++ m := by simp [joinL]
        have := cat_spec (X15 [52]) (callerOf T2) [l, m] (by rw [hs]; exact hn.2) (by simp) hc
        rw [hj] at this
        exact run_at (hX [52]) (T2_ok hX) rfl Tryd.func42 rfl (by simp only [AV.pure, AV.lt]; exact lt_strs 0 _) this
      · cases h
    · cases h
  · cases h
theorem T3_tok {dr : Bool} {σ : List Ob} {ro : Nat} {w : ByteArray} (h : szB w = true) : callv (X15 []) (callerOf T3) dr 43 [st w] σ ro = some (bo (tokB w), σ) := by
  have ht : T3 43 [.str w] = some (.bool (tokB w)) := by
    have e : T3 43 [.str w] = tokS [.str w] := rfl
    rw [e]
    simp only [tokS, h, if_true]
  have := call_spec (X := X15 []) (dr := dr) (σ := σ) (ro := ro) rfl rfl (by simp [AV.ltAll, AV.lt]) ht rfl
  rw [this]
  cases dr <;> rfl
theorem T4_rtok {dr : Bool} {σ : List Ob} {ro : Nat} {w : ByteArray} (h : szB w = true) : callv (X15 []) (callerOf T4) dr 31 [st w] σ ro = some (bo (tokB w), σ) := by
  have ht : T4 31 [.str w] = some (.bool (tokB w)) := by
    have e : T4 31 [.str w] = tokS [.str w] := rfl
    rw [e]
    simp only [tokS, h, if_true]
  have := call_spec (X := X15 []) (dr := dr) (σ := σ) (ro := ro) rfl rfl (by simp [AV.ltAll, AV.lt]) ht rfl
  rw [this]
  cases dr <;> rfl
theorem bad1_len {s : NSys} (h : bad1 s = false) : 0 < s.digits.length + s.powers.length ∧ (s.digits.length + s.powers.length) * 17 ≤ 140737488355328 := by
  simp only [bad1, Bool.or_eq_false_iff, Bool.and_eq_false_imp, bne_iff_ne, ne_eq, bne_eq_false_iff_eq] at h
  obtain ⟨h1, h2, h3⟩ := h
  have : s.base = 10 ∨ s.base = 20 := by
    by_cases e : s.base = 10
    · exact .inl e
    · exact .inr (h1 e)
  omega
theorem T4_ok : SpecOk Tryd.prog T4 := by
  refine (T3_ok hX).addRo ?_
  intro vs r h
  unfold validS at h
  split at h
  · split at h
    · rename_i cs s hs
      have e := sysO_eq hs
      subst e
      split at h
      · rename_i hk
        simp only [Option.some.injEq] at h
        subst h
        obtain ⟨k1, k2⟩ := okS_iff hk
        have hszB : ∀ {w : ByteArray}, w.size ≤ 140737488355328 → szB w = true := fun h => Nat.ble_eq_true_of_le h
        refine run_at (hX []) (T3_ok hX) rfl Tryd.func22 rfl rfl (valid_spec s (X15 []) (callerOf T3) (by simp [vWords]; exact k2) (fun w hw => T3_tok hX (hszB (k1 w ?_))) ?_)
        · rcases hw with hw | hw | hw
          · simp only [vWords, List.mem_append] at hw
            rcases hw with hw | hw
            · exact .inl hw
            · exact .inr (.inl hw)
          · exact .inr (.inr (.inl hw))
          · exact .inr (.inr (.inr hw))
        · intro hb
          have hn := bad1_len hX hb
          have ht : T3 42 [AV.list LK.clip 2 1 [strs s.digits, strs s.powers]] = some (.list .fresh (s.digits ++ s.powers).length 1 ((s.digits ++ s.powers).map .str)) := by
            have e : T3 42 [AV.list LK.clip 2 1 [strs s.digits, strs s.powers]] = catS [AV.list LK.clip 2 1 [strs s.digits, strs s.powers]] := rfl
            rw [e]
            simp only [catS, strsX_of]
            rw [if_pos hn]
          exact call_spec (X := X15 []) (dr := false) (σ := [Ob.cells (sysC s)]) (ro := 0) rfl rfl (by simp [AV.ltAll, AV.lt, strs, lt_strs]) ht (by simp only [AV.pure, AV.lt]; exact lt_strs 0 _)
      · cases h
    · cases h
  · cases h
theorem T5_ok : SpecOk Tryd.prog T5 := by
  refine (T4_ok hX).addRo ?_
  intro vs r h
  unfold validS at h
  split at h
  · split at h
    · rename_i cs s hs
      have e := sysO_eq hs
      subst e
      split at h
      · rename_i hk
        simp only [Option.some.injEq] at h
        subst h
        obtain ⟨k1, k2⟩ := okS_iff hk
        have hszB : ∀ {w : ByteArray}, w.size ≤ 140737488355328 → szB w = true := fun h => Nat.ble_eq_true_of_le h
        rw [valid_eq]
        exact run_at (hX []) (T4_ok hX) rfl Tryd.func14 rfl rfl (rval_spec s (X15 []) (callerOf T4) (s.digits.length + s.powers.length + 1) (by omega) (by omega) (by omega) (by omega) (fun w hw => T4_rtok hX (hszB (k1 w hw))))
      · cases h
    · cases h
  · cases h
theorem validS_sys {s : NSys} (h : okS s = true) : validS (roAll [AV.agg (sysC s)]) = some (.bool (validL s)) := by
  rw [roAll_sys]
  simp only [validS, sysO_sysC, h, if_true]
/-- Valid, called. -/
theorem call_valid {T : Vm.Spec} (hT : ∀ vs, T 22 vs = validS (roAll vs)) {l : List Nat} (hl : memN 22 l = false) {s : NSys} (h : okS s = true) {dr : Bool} {σ : List Ob} {ro : Nat} : callv (X15 l) (callerOf T) dr 22 [AV.agg (sysC s)] σ ro = some (bo (validL s), σ) := by
  have := call_spec (X := X15 l) (T := T) (f := 22) (dr := dr) (σ := σ) (ro := ro) rfl rfl (lt_sys s) ((hT _).trans (validS_sys hX h)) rfl
  rw [this]
  have e : (X15 l).adopt 22 = false := hl
  rw [e]
  cases dr <;> rfl
theorem T6_ok : SpecOk Tryd.prog T6 := by
  refine (SpecOk.addRo (T5_ok hX) ?_).addRo ?_
  · intro vs r h
    unfold smallS at h
    split at h
    · split at h
      · rename_i cs s hs
        have e := sysO_eq hs
        subst e
        simp only [Option.some.injEq] at h
        subst h
        exact run_at (hX []) (T5_ok hX) rfl Tryd.func13 rfl rfl (small_spec s (X15 []) (callerOf T5) 1)
      · cases h
    · cases h
  · intro vs r h
    unfold greatS at h
    split at h
    · split at h
      · rename_i cs s hs
        have e := sysO_eq hs
        subst e
        split at h
        · rename_i hk
          simp only [Option.some.injEq] at h
          subst h
          exact run_at (hX []) (T5_ok hX) rfl Tryd.func30 rfl rfl (great_spec s (X15 []) (callerOf T5) 1 (validL s) (call_valid hX (fun _ => rfl) rfl hk))
        · cases h
      · cases h
    · cases h
theorem T7_ok : SpecOk Tryd.prog T7 := by
  refine (SpecOk.addRo (T6_ok hX) ?_).addRo ?_
  · intro vs r h
    unfold powS at h
    split at h
    · split at h
      · rename_i cs n x s hs
        have e := sysO_eq hs
        subst e
        split at h
        · rename_i hk
          simp only [Option.some.injEq] at h
          subst h
          exact run_at (hX []) (T6_ok hX) rfl Tryd.func34 rfl rfl (power_spec s n (X15 []) (callerOf T6) 3 (by omega) hk)
        · cases h
      · cases h
    · cases h
  · intro vs r h
    unfold lessS at h
    split at h
    · split at h
      · rename_i cs q p r x s hs
        have e := sysO_eq hs
        subst e
        simp only [Option.some.injEq] at h
        subst h
        exact run_at (hX []) (T6_ok hX) rfl Tryd.func35 rfl rfl (less_spec s q p r (X15 []) (callerOf T6) 1)
      · cases h
    · cases h
theorem T8_ok : SpecOk Tryd.prog T8 := by
  refine (SpecOk.add (T7_ok hX) ?_).addRo ?_
  · intro vs r h
    unfold collS' at h
    split at h
    · split at h
      · rename_i k ps ls hs
        split at h
        · rename_i hk
          obtain ⟨rfl, k1, k2, k3⟩ := hk
          simp only [Option.some.injEq] at h
          subst h
          exact run_at (hX []) (T7_ok hX) rfl Tryd.func36 rfl (by simp only [AV.pure, AV.lt]; exact lt_strs 0 _) (coll_spec (X15 []) (callerOf T7) (ls.length + 1) k1 k2 (by omega) (headNe_pos k3).1 (headNe_pos k3).2 (isSOs_at hs).2)
        · cases h
      · cases h
    · cases h
  · intro vs r h
    unfold joiS at h
    split at h
    · split at h
      · rename_i cs s hs
        have e := sysO_eq hs
        subst e
        simp only [Option.some.injEq] at h
        subst h
        unfold joinV
        cases hj : empB s.jo with
        | true => exact run_at (hX []) (T7_ok hX) rfl Tryd.func37 rfl rfl (joiner_pt s (X15 []) (callerOf T7) 1 hj)
        | false => exact run_at (hX []) (T7_ok hX) rfl Tryd.func37 rfl rfl (joiner_pf s (X15 []) (callerOf T7) 1 hj)
      · cases h
    · cases h
theorem isS_shape {v : AV} {l : List ByteArray} (h : IsS v l) : ∃ k sz cs, v = .list k l.length sz cs ∧ (0 < l.length → sz = 1 ∧ cs = l.map st) := by
  rcases h with ⟨k, rfl⟩ | ⟨rfl, k, sz, cs, rfl⟩
  · exact ⟨k, 1, _, rfl, fun _ => ⟨rfl, rfl⟩⟩
  · exact ⟨k, sz, cs, rfl, fun h => by simp at h⟩
theorem T9_ok : SpecOk Tryd.prog T9 := by
  refine (SpecOk.add (T8_ok hX) ?_).add ?_
  · intro vs r h
    unfold textsS at h
    split at h
    · split at h
      · rename_i a b l m ha hb
        split at h
        · rename_i hk
          simp only [Option.some.injEq] at h
          subst h
          obtain ⟨ka, sa, ca, rfl, h1⟩ := isS_shape hX (isSO_is ha)
          obtain ⟨kb, sb, cb, rfl, h2⟩ := isS_shape hX (isSO_is hb)
          exact run_at (hX []) (T8_ok hX) rfl Tryd.func17 rfl rfl (texts_spec (X15 []) (callerOf T8) (l.length + 1) ka kb sa sb hk (by omega) h1 h2)
        · cases h
      · cases h
    · cases h
  · intro vs r h
    unfold rjoinS at h
    split at h
    · split at h
      · rename_i a b l m ha hb
        split at h
        · rename_i hk
          simp only [Option.some.injEq] at h
          subst h
          obtain ⟨r, σ', hv, hr, hp⟩ := rjoin_spec (X15 []) (callerOf T8) 1 (isSO_is ha) (isSO_is hb) hk
          have hc := run_at (hX []) (T8_ok hX) rfl Tryd.func38 rfl hp hv
          exact isS_call hr hc
        · cases h
      · cases h
    · cases h
end
end Go.Proofs.Num
end
/- Numeral: the words of a number, as the reference has them. -/
section
open Go Go.Vm Go.Proofs
namespace Go.Proofs.Num
def fg18 : Nat → List Nat
  | 4 => [23, 24, 25, 26, 27, 28, 29, 30, 31]
  | 7 => [45, 46, 47, 48, 49, 50, 51, 52, 53, 54, 55, 56, 57, 58, 59, 60, 61]
  | 10 => [85, 86, 87, 88, 89, 90]
  | _ => []

def rwS0 (s : NSys) (n : Int) (P : Nat → Int) (i0 : Nat) : St :=
  stOf 123 [23, 24, 25, 26, 27, 28, 29, 30, 31, 32, 33, 34, 35, 36, 37, 38] [(0, AV.agg (sysC s)), (1, i6 n), (2, AV.ref 0 0), (4, AV.list LK.nil 0 0 []), (5, i6 (P i0)), (6, i6 (↑i0 : Int)), (11, i6 n), (12, AV.ref 0 0), (13, i6 (NSys.base s)), (14, bo false), (21, AV.ref 0 0), (22, i6 (NSys.base s))] [Ob.cells (sysC s)]
def rwS1 (s : NSys) (n : Int) (P : Nat → Int) (i0 : Nat) : St :=
  stOf 123 [23, 24, 25, 26, 27, 28, 29, 30, 31, 33, 34, 35, 36, 37, 38] [(0, AV.agg (sysC s)), (1, i6 n), (2, AV.ref 0 0), (4, AV.list LK.nil 0 0 []), (5, i6 (P i0)), (6, i6 (↑i0 : Int)), (11, i6 n), (12, AV.ref 0 0), (13, i6 (NSys.base s)), (14, bo false), (21, AV.ref 0 0), (22, i6 (NSys.base s)), (32, bo true)] [Ob.cells (sysC s)]
def rwS2 (s : NSys) (n : Int) (P : Nat → Int) (i0 : Nat) : St :=
  stOf 123 [23, 24, 25, 26, 27, 28, 29, 30, 31, 33, 34, 35, 36, 37, 38] [(0, AV.agg (sysC s)), (1, i6 n), (2, AV.ref 0 0), (4, AV.list LK.nil 0 0 []), (5, i6 (P i0)), (6, i6 (↑i0 : Int)), (11, i6 n), (12, AV.ref 0 0), (13, i6 (NSys.base s)), (14, bo false), (21, AV.ref 0 0), (22, i6 (NSys.base s)), (32, bo false)] [Ob.cells (sysC s)]
def rwS3 (s : NSys) (n : Int) (P : Nat → Int) (b4 : Bool) (i0 : Nat) : St :=
  stOf 123 [23, 24, 25, 26, 27, 28, 29, 30, 31, 33, 34, 35, 36, 37, 38] [(0, AV.agg (sysC s)), (1, i6 n), (2, AV.ref 0 0), (4, AV.list LK.nil 0 0 []), (5, i6 (P i0)), (6, i6 (↑i0 : Int)), (11, i6 n), (12, AV.ref 0 0), (13, i6 (NSys.base s)), (14, bo false), (21, AV.ref 0 0), (22, i6 (NSys.base s)), (32, bo b4)] [Ob.cells (sysC s)]
def rwS4 (s : NSys) (n : Int) (P : Nat → Int) (b4 : Bool) (i0 : Nat) : St :=
  stOf 123 [23, 24, 25, 26, 27, 28, 29, 30, 31] [(0, AV.agg (sysC s)), (1, i6 n), (2, AV.ref 0 0), (4, AV.list LK.nil 0 0 []), (5, i6 (w6 (P i0 * NSys.base s))), (6, i6 (w6 ((↑i0 : Int) + 1))), (11, i6 n), (12, AV.ref 0 0), (13, i6 (NSys.base s)), (14, bo false), (21, AV.ref 0 0), (22, i6 (NSys.base s)), (32, bo b4), (33, i6 (P i0)), (34, AV.ref 0 0), (35, i6 (NSys.base s)), (36, i6 (w6 (P i0 * NSys.base s))), (37, i6 (↑i0 : Int)), (38, i6 (w6 ((↑i0 : Int) + 1)))] [Ob.cells (sysC s)]
def rwS5 (s : NSys) (n : Int) (q : Int) (r : Int) (P : Nat → Int) (b4 : Bool) (i0 : Nat) : St :=
  stOf 123 [23, 24, 25, 26, 27, 28, 29, 30, 31, 33, 34, 35, 36, 37, 38] [(0, AV.agg (sysC s)), (1, i6 n), (2, AV.ref 0 0), (4, AV.list LK.nil 0 0 []), (5, i6 (P i0)), (6, i6 (↑i0 : Int)), (7, i6 q), (8, i6 r), (11, i6 n), (12, AV.ref 0 0), (13, i6 (NSys.base s)), (14, bo false), (21, AV.ref 0 0), (22, i6 (NSys.base s)), (32, bo b4), (39, i6 n), (40, i6 (P i0)), (41, i6 q), (42, i6 n), (43, i6 (P i0)), (44, i6 r)] [Ob.cells (sysC s)]
def rwS6 (s : NSys) (n : Int) (q : Int) (r : Int) (P : Nat → Int) (b4 : Bool) (i0 : Nat) : St :=
  stOf 123 [23, 24, 25, 26, 27, 28, 29, 30, 31, 33, 34, 35, 36, 37, 38, 45, 46, 47, 48, 49, 50, 51, 52, 53, 54, 55, 56, 57, 58, 59, 60, 61] [(0, AV.agg (sysC s)), (1, i6 n), (2, AV.ref 0 0), (4, AV.list LK.nil 0 0 []), (5, i6 (P i0)), (6, i6 (↑i0 : Int)), (7, i6 q), (8, i6 r), (11, i6 n), (12, AV.ref 0 0), (13, i6 (NSys.base s)), (14, bo false), (21, AV.ref 0 0), (22, i6 (NSys.base s)), (32, bo b4), (39, i6 n), (40, i6 (P i0)), (41, i6 q), (42, i6 n), (43, i6 (P i0)), (44, i6 r), (62, bo true)] [Ob.cells (sysC s)]
def rwS7 (s : NSys) (n : Int) (q : Int) (r : Int) (P : Nat → Int) (b4 : Bool) (i0 : Nat) : St :=
  stOf 123 [23, 24, 25, 26, 27, 28, 29, 30, 31, 33, 34, 35, 36, 37, 38, 45, 46, 47, 48, 49, 50, 51, 52, 53, 54, 55, 56, 57, 58, 59, 60, 61] [(0, AV.agg (sysC s)), (1, i6 n), (2, AV.ref 0 0), (4, AV.list LK.nil 0 0 []), (5, i6 (P i0)), (6, i6 (↑i0 : Int)), (7, i6 q), (8, i6 r), (11, i6 n), (12, AV.ref 0 0), (13, i6 (NSys.base s)), (14, bo false), (21, AV.ref 0 0), (22, i6 (NSys.base s)), (32, bo b4), (39, i6 n), (40, i6 (P i0)), (41, i6 q), (42, i6 n), (43, i6 (P i0)), (44, i6 r), (62, bo false)] [Ob.cells (sysC s)]
def rwS8 (s : NSys) (n : Int) : St :=
  stOf 123 [] [(0, AV.agg (sysC s)), (1, i6 n), (2, AV.ref 0 0), (4, AV.list LK.nil 0 0 []), (5, i6 (NSys.base s)), (6, i6 0), (11, i6 n), (12, AV.ref 0 0), (13, i6 (NSys.base s)), (14, bo false), (21, AV.ref 0 0), (22, i6 (NSys.base s))] [Ob.cells (sysC s)]
def rwS9 (s : NSys) (n : Int) (q : Int) (r : Int) (P : Nat → Int) (b4 : Bool) (b7 : Bool) (i0 : Nat) : St :=
  stOf 123 [23, 24, 25, 26, 27, 28, 29, 30, 31, 33, 34, 35, 36, 37, 38, 45, 46, 47, 48, 49, 50, 51, 52, 53, 54, 55, 56, 57, 58, 59, 60, 61] [(0, AV.agg (sysC s)), (1, i6 n), (2, AV.ref 0 0), (4, AV.list LK.nil 0 0 []), (5, i6 (P i0)), (6, i6 (↑i0 : Int)), (7, i6 q), (8, i6 r), (11, i6 n), (12, AV.ref 0 0), (13, i6 (NSys.base s)), (14, bo false), (21, AV.ref 0 0), (22, i6 (NSys.base s)), (32, bo b4), (39, i6 n), (40, i6 (P i0)), (41, i6 q), (42, i6 n), (43, i6 (P i0)), (44, i6 r), (62, bo b7)] [Ob.cells (sysC s)]
def rwS10 (s : NSys) (n : Int) (q : Int) (r : Int) (P : Nat → Int) (rest2 : List AV) (w2 : ByteArray) (b4 : Bool) (b7 : Bool) (i0 : Nat) : St :=
  stOf 123 [23, 24, 25, 26, 27, 28, 29, 30, 31, 33, 34, 35, 36, 37, 38, 45, 46, 47, 48, 49, 50, 51, 52, 53, 54, 55, 56, 57, 58, 59, 60, 61] [(0, AV.agg (sysC s)), (1, i6 n), (2, AV.ref 0 0), (4, AV.list LK.nil 0 0 []), (5, i6 (P i0)), (6, i6 (↑i0 : Int)), (7, i6 q), (8, i6 r), (9, AV.list LK.clip 1 1 [st w2]), (11, i6 n), (12, AV.ref 0 0), (13, i6 (NSys.base s)), (14, bo false), (21, AV.ref 0 0), (22, i6 (NSys.base s)), (32, bo b4), (39, i6 n), (40, i6 (P i0)), (41, i6 q), (42, i6 n), (43, i6 (P i0)), (44, i6 r), (62, bo b7), (79, AV.ref 0 2), (80, lro (List.length (NSys.powers s)) 1 (List.map st (NSys.powers s))), (81, i6 (↑i0 : Int)), (82, AV.eaddr rest2), (83, st w2), (84, AV.list LK.clip 1 1 [st w2])] [Ob.cells (sysC s)]
def rwS11 (s : NSys) (n : Int) (q : Int) (r : Int) (P : Nat → Int) (rest2 : List AV) (w2 : ByteArray) (b4 : Bool) (b7 : Bool) (i0 : Nat) : St :=
  stOf 123 [23, 24, 25, 26, 27, 28, 29, 30, 31, 33, 34, 35, 36, 37, 38, 45, 46, 47, 48, 49, 50, 51, 52, 53, 54, 55, 56, 57, 58, 59, 60, 61, 85, 86, 87, 88, 89, 90] [(0, AV.agg (sysC s)), (1, i6 n), (2, AV.ref 0 0), (4, AV.list LK.nil 0 0 []), (5, i6 (P i0)), (6, i6 (↑i0 : Int)), (7, i6 q), (8, i6 r), (9, AV.list LK.clip 1 1 [st w2]), (11, i6 n), (12, AV.ref 0 0), (13, i6 (NSys.base s)), (14, bo false), (21, AV.ref 0 0), (22, i6 (NSys.base s)), (32, bo b4), (39, i6 n), (40, i6 (P i0)), (41, i6 q), (42, i6 n), (43, i6 (P i0)), (44, i6 r), (62, bo b7), (79, AV.ref 0 2), (80, lro (List.length (NSys.powers s)) 1 (List.map st (NSys.powers s))), (81, i6 (↑i0 : Int)), (82, AV.eaddr rest2), (83, st w2), (84, AV.list LK.clip 1 1 [st w2]), (91, bo true)] [Ob.cells (sysC s)]
def rwS12 (s : NSys) (n : Int) (q : Int) (r : Int) (P : Nat → Int) (rest2 : List AV) (w2 : ByteArray) (b4 : Bool) (b7 : Bool) (i0 : Nat) : St :=
  stOf 123 [23, 24, 25, 26, 27, 28, 29, 30, 31, 33, 34, 35, 36, 37, 38, 45, 46, 47, 48, 49, 50, 51, 52, 53, 54, 55, 56, 57, 58, 59, 60, 61, 85, 86, 87, 88, 89, 90] [(0, AV.agg (sysC s)), (1, i6 n), (2, AV.ref 0 0), (4, AV.list LK.nil 0 0 []), (5, i6 (P i0)), (6, i6 (↑i0 : Int)), (7, i6 q), (8, i6 r), (9, AV.list LK.clip 1 1 [st w2]), (11, i6 n), (12, AV.ref 0 0), (13, i6 (NSys.base s)), (14, bo false), (21, AV.ref 0 0), (22, i6 (NSys.base s)), (32, bo b4), (39, i6 n), (40, i6 (P i0)), (41, i6 q), (42, i6 n), (43, i6 (P i0)), (44, i6 r), (62, bo b7), (79, AV.ref 0 2), (80, lro (List.length (NSys.powers s)) 1 (List.map st (NSys.powers s))), (81, i6 (↑i0 : Int)), (82, AV.eaddr rest2), (83, st w2), (84, AV.list LK.clip 1 1 [st w2]), (91, bo false)] [Ob.cells (sysC s)]
def rwS13 (s : NSys) (n : Int) (q : Int) (r : Int) (P : Nat → Int) (rest2 : List AV) (w2 : ByteArray) (b4 : Bool) (b7 : Bool) (b10 : Bool) (i0 : Nat) : St :=
  stOf 123 [23, 24, 25, 26, 27, 28, 29, 30, 31, 33, 34, 35, 36, 37, 38, 45, 46, 47, 48, 49, 50, 51, 52, 53, 54, 55, 56, 57, 58, 59, 60, 61, 85, 86, 87, 88, 89, 90] [(0, AV.agg (sysC s)), (1, i6 n), (2, AV.ref 0 0), (4, AV.list LK.nil 0 0 []), (5, i6 (P i0)), (6, i6 (↑i0 : Int)), (7, i6 q), (8, i6 r), (9, AV.list LK.clip 1 1 [st w2]), (11, i6 n), (12, AV.ref 0 0), (13, i6 (NSys.base s)), (14, bo false), (21, AV.ref 0 0), (22, i6 (NSys.base s)), (32, bo b4), (39, i6 n), (40, i6 (P i0)), (41, i6 q), (42, i6 n), (43, i6 (P i0)), (44, i6 r), (62, bo b7), (79, AV.ref 0 2), (80, lro (List.length (NSys.powers s)) 1 (List.map st (NSys.powers s))), (81, i6 (↑i0 : Int)), (82, AV.eaddr rest2), (83, st w2), (84, AV.list LK.clip 1 1 [st w2]), (91, bo b10)] [Ob.cells (sysC s)]
theorem rw_pt (s : NSys) (n : Int) (rest : List AV) (w : ByteArray) (X : Ext) (call : Caller) (lf : Nat)
  (h0 : decide (n < NSys.base s) = true)
  (h1 : keep [Ob.cells (sysC s)] (indexAddrv Tryd.prog 22 [Ob.cells (sysC s)] (lro (List.length (NSys.digits s)) 1 (List.map st (NSys.digits s))) (i6 n)) = some (AV.eaddr rest, [Ob.cells (sysC s)]))
  (h2 : keep [Ob.cells (sysC s)] (loadv Tryd.prog 9 [Ob.cells (sysC s)] (AV.eaddr rest)) = some (st w, [Ob.cells (sysC s)])) : vbody Tryd.prog X call lf fg18 Tryd.f18 (codeOf Tryd.f18) [AV.agg (sysC s), i6 n] [] 0 = some (AV.list LK.clip 1 1 [st w], [Ob.cells (sysC s)]) :=
  along_sound (ans := [(7, Ans.b true), (13, Ans.v (AV.eaddr rest)), (14, Ans.v (st w))]) (by kernel_rfl) (And.intro h0 (And.intro h1 (And.intro h2 trivial)))
theorem rw_g4_tt (s : NSys) (n : Int) (P : Nat → Int) (X : Ext) (call : Caller) (lf : Nat) (i0 : Nat)
  (h0 : decide ((↑i0 : Int) < 2) = true)
  (h1 : decide (n ≥ w6 (P i0 * NSys.base s)) = true) : vexec Tryd.prog X call lf 0 fg18 (regN Tryd.f18 4) (rwS0 s n P i0) = some (Ex.normal, (rwS1 s n P i0)) :=
  around_sound (ans := [(2, Ans.b true), (15, Ans.b true)]) (by kernel_rfl) (And.intro h0 (And.intro h1 trivial))
theorem rw_g4_tf (s : NSys) (n : Int) (P : Nat → Int) (X : Ext) (call : Caller) (lf : Nat) (i0 : Nat)
  (h0 : decide ((↑i0 : Int) < 2) = true)
  (h1 : decide (n ≥ w6 (P i0 * NSys.base s)) = false) : vexec Tryd.prog X call lf 0 fg18 (regN Tryd.f18 4) (rwS0 s n P i0) = some (Ex.normal, (rwS2 s n P i0)) :=
  around_sound (ans := [(2, Ans.b true), (15, Ans.b false)]) (by kernel_rfl) (And.intro h0 (And.intro h1 trivial))
theorem rw_g4_f (s : NSys) (n : Int) (P : Nat → Int) (X : Ext) (call : Caller) (lf : Nat) (i0 : Nat)
  (h0 : decide ((↑i0 : Int) < 2) = false) : vexec Tryd.prog X call lf 0 fg18 (regN Tryd.f18 4) (rwS0 s n P i0) = some (Ex.normal, (rwS2 s n P i0)) :=
  around_sound (ans := [(2, Ans.b false)]) (by kernel_rfl) (And.intro h0 trivial)
theorem rw_r0_t (s : NSys) (n : Int) (P : Nat → Int) (b4 : Bool) (X : Ext) (call : Caller) (lf : Nat) (i0 : Nat)
  (h0 : vexec Tryd.prog X call lf 0 fg18 (regN Tryd.f18 4) (rwS0 s n P i0) = some (Ex.normal, (rwS3 s n P b4 i0)))
  (h1 : b4 = true) : vexec Tryd.prog X call lf 0 fg18 (loopN Tryd.f18 0) (rwS0 s n P i0) = some (Ex.normal, (rwS4 s n P b4 i0)) :=
  around_sound (ans := [(0, Ans.l Ex.normal (rwS3 s n P b4 i0)), (1, Ans.b true)]) (by kernel_rfl) (And.intro h0 (And.intro h1 trivial))
theorem rw_r0_f (s : NSys) (n : Int) (P : Nat → Int) (b4 : Bool) (X : Ext) (call : Caller) (lf : Nat) (i0 : Nat)
  (h0 : vexec Tryd.prog X call lf 0 fg18 (regN Tryd.f18 4) (rwS0 s n P i0) = some (Ex.normal, (rwS3 s n P b4 i0)))
  (h1 : b4 = false) : vexec Tryd.prog X call lf 0 fg18 (loopN Tryd.f18 0) (rwS0 s n P i0) = some (Ex.exit 0, (rwS3 s n P b4 i0)) :=
  around_sound (ans := [(0, Ans.l Ex.normal (rwS3 s n P b4 i0)), (1, Ans.b false)]) (by kernel_rfl) (And.intro h0 (And.intro h1 trivial))
theorem rw_g7_ttt (s : NSys) (n : Int) (q : Int) (r : Int) (P : Nat → Int) (b4 : Bool) (X : Ext) (call : Caller) (lf : Nat) (i0 : Nat)
  (h0 : decide (NSys.sub s > 0) = true)
  (h1 : decide (r ≥ w6 (P i0 - NSys.sub s)) = true)
  (h2 : decide (w6 (q + 1) < NSys.base s) = true) : vexec Tryd.prog X call lf 0 fg18 (regN Tryd.f18 7) (rwS5 s n q r P b4 i0) = some (Ex.normal, (rwS6 s n q r P b4 i0)) :=
  around_sound (ans := [(3, Ans.b true), (16, Ans.b true), (28, Ans.b true)]) (by kernel_rfl) (And.intro h0 (And.intro h1 (And.intro h2 trivial)))
theorem rw_g7_ttf (s : NSys) (n : Int) (q : Int) (r : Int) (P : Nat → Int) (b4 : Bool) (X : Ext) (call : Caller) (lf : Nat) (i0 : Nat)
  (h0 : decide (NSys.sub s > 0) = true)
  (h1 : decide (r ≥ w6 (P i0 - NSys.sub s)) = true)
  (h2 : decide (w6 (q + 1) < NSys.base s) = false) : vexec Tryd.prog X call lf 0 fg18 (regN Tryd.f18 7) (rwS5 s n q r P b4 i0) = some (Ex.normal, (rwS7 s n q r P b4 i0)) :=
  around_sound (ans := [(3, Ans.b true), (16, Ans.b true), (28, Ans.b false)]) (by kernel_rfl) (And.intro h0 (And.intro h1 (And.intro h2 trivial)))
theorem rw_g7_tf (s : NSys) (n : Int) (q : Int) (r : Int) (P : Nat → Int) (b4 : Bool) (X : Ext) (call : Caller) (lf : Nat) (i0 : Nat)
  (h0 : decide (NSys.sub s > 0) = true)
  (h1 : decide (r ≥ w6 (P i0 - NSys.sub s)) = false) : vexec Tryd.prog X call lf 0 fg18 (regN Tryd.f18 7) (rwS5 s n q r P b4 i0) = some (Ex.normal, (rwS7 s n q r P b4 i0)) :=
  around_sound (ans := [(3, Ans.b true), (16, Ans.b false)]) (by kernel_rfl) (And.intro h0 (And.intro h1 trivial))
theorem rw_g7_f (s : NSys) (n : Int) (q : Int) (r : Int) (P : Nat → Int) (b4 : Bool) (X : Ext) (call : Caller) (lf : Nat) (i0 : Nat)
  (h0 : decide (NSys.sub s > 0) = false) : vexec Tryd.prog X call lf 0 fg18 (regN Tryd.f18 7) (rwS5 s n q r P b4 i0) = some (Ex.normal, (rwS7 s n q r P b4 i0)) :=
  around_sound (ans := [(3, Ans.b false)]) (by kernel_rfl) (And.intro h0 trivial)
theorem rw_pflft (s : NSys) (n : Int) (q : Int) (r : Int) (P : Nat → Int) (a : AV) (b : AV) (ab : AV) (c : AV) (b4 : Bool) (b7 : Bool) (X : Ext) (call : Caller) (lf : Nat) (i0 : Nat)
  (h0 : decide (n < NSys.base s) = false)
  (h1 : vexec Tryd.prog X call lf 0 fg18 (Code.loop (loopN Tryd.f18 0)) (rwS8 s n) = some (Ex.exit 0, (rwS3 s n P b4 i0)))
  (h2 : keep [Ob.cells (sysC s)] (binv Tryd.prog BinOp.quo 3 (i6 n) (i6 (P i0))) = some (i6 q, [Ob.cells (sysC s)]))
  (h3 : keep [Ob.cells (sysC s)] (binv Tryd.prog BinOp.rem 3 (i6 n) (i6 (P i0))) = some (i6 r, [Ob.cells (sysC s)]))
  (h4 : vexec Tryd.prog X call lf 0 fg18 (regN Tryd.f18 7) (rwS5 s n q r P b4 i0) = some (Ex.normal, (rwS9 s n q r P b4 b7 i0)))
  (h5 : b7 = true)
  (h6 : callv X call true 18 [AV.agg (sysC s), i6 (w6 (P i0 - r))] [Ob.cells (sysC s)] 0 = some (a, [Ob.cells (sysC s)]))
  (h7 : callv X call true 38 [a, AV.list LK.clip 1 1 [st (NSys.le s)]] [Ob.cells (sysC s)] 0 = some (ab, [Ob.cells (sysC s)]))
  (h8 : callv X call true 18 [AV.agg (sysC s), i6 (w6 (w6 (q + 1) * P i0))] [Ob.cells (sysC s)] 0 = some (b, [Ob.cells (sysC s)]))
  (h9 : callv X call true 38 [ab, b] [Ob.cells (sysC s)] 0 = some (c, [Ob.cells (sysC s)]))
  (h10 : vend1 [] 0 [Ob.cells (sysC s)] [c] = some (unfr (oneOf [c]), [Ob.cells (sysC s)])) : vbody Tryd.prog X call lf fg18 Tryd.f18 (codeOf Tryd.f18) [AV.agg (sysC s), i6 n] [] 0 = some (unfr (oneOf [c]), [Ob.cells (sysC s)]) :=
  along_sound (ans := [(7, Ans.b false), (14, Ans.l (Ex.exit 0) (rwS3 s n P b4 i0)), (18, Ans.v (i6 q)), (21, Ans.v (i6 r)), (24, Ans.l Ex.normal (rwS9 s n q r P b4 b7 i0)), (25, Ans.b true), (31, Ans.v a), (35, Ans.v ab), (41, Ans.v b), (42, Ans.v c), (44, Ans.c (unfr (oneOf [c])) [Ob.cells (sysC s)])]) (by kernel_rfl) (And.intro h0 (And.intro h1 (And.intro h2 (And.intro h3 (And.intro h4 (And.intro h5 (And.intro h6 (And.intro h7 (And.intro h8 (And.intro h9 (And.intro h10 trivial)))))))))))
theorem rw_g10_t (s : NSys) (n : Int) (q : Int) (r : Int) (P : Nat → Int) (rest2 : List AV) (w2 : ByteArray) (b4 : Bool) (b7 : Bool) (X : Ext) (call : Caller) (lf : Nat) (i0 : Nat)
  (h0 : (q != 1) = true) : vexec Tryd.prog X call lf 0 fg18 (regN Tryd.f18 10) (rwS10 s n q r P rest2 w2 b4 b7 i0) = some (Ex.normal, (rwS11 s n q r P rest2 w2 b4 b7 i0)) :=
  around_sound (ans := [(2, Ans.b true)]) (by kernel_rfl) (And.intro h0 trivial)
theorem rw_g10_ft (s : NSys) (n : Int) (q : Int) (r : Int) (P : Nat → Int) (rest2 : List AV) (w2 : ByteArray) (b4 : Bool) (b7 : Bool) (X : Ext) (call : Caller) (lf : Nat) (i0 : Nat)
  (h0 : (q != 1) = false)
  (h1 : NSys.om s = true) : vexec Tryd.prog X call lf 0 fg18 (regN Tryd.f18 10) (rwS10 s n q r P rest2 w2 b4 b7 i0) = some (Ex.normal, (rwS12 s n q r P rest2 w2 b4 b7 i0)) :=
  around_sound (ans := [(2, Ans.b false), (7, Ans.b true)]) (by kernel_rfl) (And.intro h0 (And.intro h1 trivial))
theorem rw_g10_ff (s : NSys) (n : Int) (q : Int) (r : Int) (P : Nat → Int) (rest2 : List AV) (w2 : ByteArray) (b4 : Bool) (b7 : Bool) (X : Ext) (call : Caller) (lf : Nat) (i0 : Nat)
  (h0 : (q != 1) = false)
  (h1 : NSys.om s = false) : vexec Tryd.prog X call lf 0 fg18 (regN Tryd.f18 10) (rwS10 s n q r P rest2 w2 b4 b7 i0) = some (Ex.normal, (rwS11 s n q r P rest2 w2 b4 b7 i0)) :=
  around_sound (ans := [(2, Ans.b false), (7, Ans.b false)]) (by kernel_rfl) (And.intro h0 (And.intro h1 trivial))
theorem rw_pflfftt (s : NSys) (n : Int) (q : Int) (r : Int) (P : Nat → Int) (rest2 : List AV) (a : AV) (ab : AV) (w2 : ByteArray) (b4 : Bool) (b7 : Bool) (b10 : Bool) (X : Ext) (call : Caller) (lf : Nat) (i0 : Nat)
  (h0 : decide (n < NSys.base s) = false)
  (h1 : vexec Tryd.prog X call lf 0 fg18 (Code.loop (loopN Tryd.f18 0)) (rwS8 s n) = some (Ex.exit 0, (rwS3 s n P b4 i0)))
  (h2 : keep [Ob.cells (sysC s)] (binv Tryd.prog BinOp.quo 3 (i6 n) (i6 (P i0))) = some (i6 q, [Ob.cells (sysC s)]))
  (h3 : keep [Ob.cells (sysC s)] (binv Tryd.prog BinOp.rem 3 (i6 n) (i6 (P i0))) = some (i6 r, [Ob.cells (sysC s)]))
  (h4 : vexec Tryd.prog X call lf 0 fg18 (regN Tryd.f18 7) (rwS5 s n q r P b4 i0) = some (Ex.normal, (rwS9 s n q r P b4 b7 i0)))
  (h5 : b7 = false)
  (h6 : keep [Ob.cells (sysC s)] (indexAddrv Tryd.prog 22 [Ob.cells (sysC s)] (lro (List.length (NSys.powers s)) 1 (List.map st (NSys.powers s))) (i6 (↑i0 : Int))) = some (AV.eaddr rest2, [Ob.cells (sysC s)]))
  (h7 : keep [Ob.cells (sysC s)] (loadv Tryd.prog 9 [Ob.cells (sysC s)] (AV.eaddr rest2)) = some (st w2, [Ob.cells (sysC s)]))
  (h8 : vexec Tryd.prog X call lf 0 fg18 (regN Tryd.f18 10) (rwS10 s n q r P rest2 w2 b4 b7 i0) = some (Ex.normal, (rwS13 s n q r P rest2 w2 b4 b7 b10 i0)))
  (h9 : b10 = true)
  (h10 : callv X call false 18 [AV.agg (sysC s), i6 q] [Ob.cells (sysC s)] 0 = some (a, [Ob.cells (sysC s)]))
  (h11 : callv X call false 38 [a, AV.list LK.clip 1 1 [st w2]] [Ob.cells (sysC s)] 0 = some (ab, [Ob.cells (sysC s)]))
  (h12 : (r == 0) = true)
  (h13 : vend1 [] 0 [Ob.cells (sysC s)] [ab] = some (unfr (oneOf [ab]), [Ob.cells (sysC s)])) : vbody Tryd.prog X call lf fg18 Tryd.f18 (codeOf Tryd.f18) [AV.agg (sysC s), i6 n] [] 0 = some (unfr (oneOf [ab]), [Ob.cells (sysC s)]) :=
  along_sound (ans := [(7, Ans.b false), (14, Ans.l (Ex.exit 0) (rwS3 s n P b4 i0)), (18, Ans.v (i6 q)), (21, Ans.v (i6 r)), (24, Ans.l Ex.normal (rwS9 s n q r P b4 b7 i0)), (25, Ans.b false), (30, Ans.v (AV.eaddr rest2)), (31, Ans.v (st w2)), (34, Ans.l Ex.normal (rwS13 s n q r P rest2 w2 b4 b7 b10 i0)), (35, Ans.b true), (39, Ans.v a), (41, Ans.v ab), (45, Ans.b true), (50, Ans.c (unfr (oneOf [ab])) [Ob.cells (sysC s)])]) (by kernel_rfl) (And.intro h0 (And.intro h1 (And.intro h2 (And.intro h3 (And.intro h4 (And.intro h5 (And.intro h6 (And.intro h7 (And.intro h8 (And.intro h9 (And.intro h10 (And.intro h11 (And.intro h12 (And.intro h13 trivial))))))))))))))
theorem rw_pflfftftt (s : NSys) (n : Int) (q : Int) (r : Int) (P : Nat → Int) (rest2 : List AV) (a : AV) (b : AV) (ab : AV) (ac : AV) (ac2 : AV) (w2 : ByteArray) (b4 : Bool) (b7 : Bool) (b10 : Bool) (X : Ext) (call : Caller) (lf : Nat) (i0 : Nat)
  (h0 : decide (n < NSys.base s) = false)
  (h1 : vexec Tryd.prog X call lf 0 fg18 (Code.loop (loopN Tryd.f18 0)) (rwS8 s n) = some (Ex.exit 0, (rwS3 s n P b4 i0)))
  (h2 : keep [Ob.cells (sysC s)] (binv Tryd.prog BinOp.quo 3 (i6 n) (i6 (P i0))) = some (i6 q, [Ob.cells (sysC s)]))
  (h3 : keep [Ob.cells (sysC s)] (binv Tryd.prog BinOp.rem 3 (i6 n) (i6 (P i0))) = some (i6 r, [Ob.cells (sysC s)]))
  (h4 : vexec Tryd.prog X call lf 0 fg18 (regN Tryd.f18 7) (rwS5 s n q r P b4 i0) = some (Ex.normal, (rwS9 s n q r P b4 b7 i0)))
  (h5 : b7 = false)
  (h6 : keep [Ob.cells (sysC s)] (indexAddrv Tryd.prog 22 [Ob.cells (sysC s)] (lro (List.length (NSys.powers s)) 1 (List.map st (NSys.powers s))) (i6 (↑i0 : Int))) = some (AV.eaddr rest2, [Ob.cells (sysC s)]))
  (h7 : keep [Ob.cells (sysC s)] (loadv Tryd.prog 9 [Ob.cells (sysC s)] (AV.eaddr rest2)) = some (st w2, [Ob.cells (sysC s)]))
  (h8 : vexec Tryd.prog X call lf 0 fg18 (regN Tryd.f18 10) (rwS10 s n q r P rest2 w2 b4 b7 i0) = some (Ex.normal, (rwS13 s n q r P rest2 w2 b4 b7 b10 i0)))
  (h9 : b10 = true)
  (h10 : callv X call false 18 [AV.agg (sysC s), i6 q] [Ob.cells (sysC s)] 0 = some (a, [Ob.cells (sysC s)]))
  (h11 : callv X call false 38 [a, AV.list LK.clip 1 1 [st w2]] [Ob.cells (sysC s)] 0 = some (ab, [Ob.cells (sysC s)]))
  (h12 : (r == 0) = false)
  (h13 : (!empB (NSys.jo s)) = true)
  (h14 : NSys.sf s = true)
  (h15 : callv X call false 18 [AV.agg (sysC s), i6 r] [Ob.cells (sysC s)] 0 = some (b, [Ob.cells (sysC s)]))
  (h16 : callv X call false 38 [b, AV.list LK.clip 1 1 [st (NSys.jo s)]] [Ob.cells (sysC s)] 0 = some (ac, [Ob.cells (sysC s)]))
  (h17 : callv X call false 38 [ac, ab] [Ob.cells (sysC s)] 0 = some (ac2, [Ob.cells (sysC s)]))
  (h18 : vend1 [] 0 [Ob.cells (sysC s)] [ac2] = some (unfr (oneOf [ac2]), [Ob.cells (sysC s)])) : vbody Tryd.prog X call lf fg18 Tryd.f18 (codeOf Tryd.f18) [AV.agg (sysC s), i6 n] [] 0 = some (unfr (oneOf [ac2]), [Ob.cells (sysC s)]) :=
  along_sound (ans := [(7, Ans.b false), (14, Ans.l (Ex.exit 0) (rwS3 s n P b4 i0)), (18, Ans.v (i6 q)), (21, Ans.v (i6 r)), (24, Ans.l Ex.normal (rwS9 s n q r P b4 b7 i0)), (25, Ans.b false), (30, Ans.v (AV.eaddr rest2)), (31, Ans.v (st w2)), (34, Ans.l Ex.normal (rwS13 s n q r P rest2 w2 b4 b7 b10 i0)), (35, Ans.b true), (39, Ans.v a), (41, Ans.v ab), (45, Ans.b false), (53, Ans.b true), (62, Ans.b true), (67, Ans.v b), (69, Ans.v ac), (71, Ans.v ac2), (73, Ans.c (unfr (oneOf [ac2])) [Ob.cells (sysC s)])]) (by kernel_rfl) (And.intro h0 (And.intro h1 (And.intro h2 (And.intro h3 (And.intro h4 (And.intro h5 (And.intro h6 (And.intro h7 (And.intro h8 (And.intro h9 (And.intro h10 (And.intro h11 (And.intro h12 (And.intro h13 (And.intro h14 (And.intro h15 (And.intro h16 (And.intro h17 (And.intro h18 trivial)))))))))))))))))))
theorem rw_pflfftftf (s : NSys) (n : Int) (q : Int) (r : Int) (P : Nat → Int) (rest2 : List AV) (a : AV) (ab : AV) (d1 : AV) (d2 : AV) (d3 : AV) (w2 : ByteArray) (b4 : Bool) (b7 : Bool) (b10 : Bool) (X : Ext) (call : Caller) (lf : Nat) (i0 : Nat)
  (h0 : decide (n < NSys.base s) = false)
  (h1 : vexec Tryd.prog X call lf 0 fg18 (Code.loop (loopN Tryd.f18 0)) (rwS8 s n) = some (Ex.exit 0, (rwS3 s n P b4 i0)))
  (h2 : keep [Ob.cells (sysC s)] (binv Tryd.prog BinOp.quo 3 (i6 n) (i6 (P i0))) = some (i6 q, [Ob.cells (sysC s)]))
  (h3 : keep [Ob.cells (sysC s)] (binv Tryd.prog BinOp.rem 3 (i6 n) (i6 (P i0))) = some (i6 r, [Ob.cells (sysC s)]))
  (h4 : vexec Tryd.prog X call lf 0 fg18 (regN Tryd.f18 7) (rwS5 s n q r P b4 i0) = some (Ex.normal, (rwS9 s n q r P b4 b7 i0)))
  (h5 : b7 = false)
  (h6 : keep [Ob.cells (sysC s)] (indexAddrv Tryd.prog 22 [Ob.cells (sysC s)] (lro (List.length (NSys.powers s)) 1 (List.map st (NSys.powers s))) (i6 (↑i0 : Int))) = some (AV.eaddr rest2, [Ob.cells (sysC s)]))
  (h7 : keep [Ob.cells (sysC s)] (loadv Tryd.prog 9 [Ob.cells (sysC s)] (AV.eaddr rest2)) = some (st w2, [Ob.cells (sysC s)]))
  (h8 : vexec Tryd.prog X call lf 0 fg18 (regN Tryd.f18 10) (rwS10 s n q r P rest2 w2 b4 b7 i0) = some (Ex.normal, (rwS13 s n q r P rest2 w2 b4 b7 b10 i0)))
  (h9 : b10 = true)
  (h10 : callv X call false 18 [AV.agg (sysC s), i6 q] [Ob.cells (sysC s)] 0 = some (a, [Ob.cells (sysC s)]))
  (h11 : callv X call false 38 [a, AV.list LK.clip 1 1 [st w2]] [Ob.cells (sysC s)] 0 = some (ab, [Ob.cells (sysC s)]))
  (h12 : (r == 0) = false)
  (h13 : (!empB (NSys.jo s)) = true)
  (h14 : NSys.sf s = false)
  (h15 : callv X call true 38 [ab, AV.list LK.clip 1 1 [st (NSys.jo s)]] [Ob.cells (sysC s)] 0 = some (d1, [Ob.cells (sysC s)]))
  (h16 : callv X call true 18 [AV.agg (sysC s), i6 r] [Ob.cells (sysC s)] 0 = some (d2, [Ob.cells (sysC s)]))
  (h17 : callv X call true 38 [d1, d2] [Ob.cells (sysC s)] 0 = some (d3, [Ob.cells (sysC s)]))
  (h18 : vend1 [] 0 [Ob.cells (sysC s)] [d3] = some (unfr (oneOf [d3]), [Ob.cells (sysC s)])) : vbody Tryd.prog X call lf fg18 Tryd.f18 (codeOf Tryd.f18) [AV.agg (sysC s), i6 n] [] 0 = some (unfr (oneOf [d3]), [Ob.cells (sysC s)]) :=
  along_sound (ans := [(7, Ans.b false), (14, Ans.l (Ex.exit 0) (rwS3 s n P b4 i0)), (18, Ans.v (i6 q)), (21, Ans.v (i6 r)), (24, Ans.l Ex.normal (rwS9 s n q r P b4 b7 i0)), (25, Ans.b false), (30, Ans.v (AV.eaddr rest2)), (31, Ans.v (st w2)), (34, Ans.l Ex.normal (rwS13 s n q r P rest2 w2 b4 b7 b10 i0)), (35, Ans.b true), (39, Ans.v a), (41, Ans.v ab), (45, Ans.b false), (53, Ans.b true), (62, Ans.b false), (67, Ans.v d1), (70, Ans.v d2), (71, Ans.v d3), (73, Ans.c (unfr (oneOf [d3])) [Ob.cells (sysC s)])]) (by kernel_rfl) (And.intro h0 (And.intro h1 (And.intro h2 (And.intro h3 (And.intro h4 (And.intro h5 (And.intro h6 (And.intro h7 (And.intro h8 (And.intro h9 (And.intro h10 (And.intro h11 (And.intro h12 (And.intro h13 (And.intro h14 (And.intro h15 (And.intro h16 (And.intro h17 (And.intro h18 trivial)))))))))))))))))))
theorem rw_pflfftfft (s : NSys) (n : Int) (q : Int) (r : Int) (P : Nat → Int) (rest2 : List AV) (a : AV) (b : AV) (ab : AV) (ac : AV) (ac2 : AV) (w2 : ByteArray) (b4 : Bool) (b7 : Bool) (b10 : Bool) (X : Ext) (call : Caller) (lf : Nat) (i0 : Nat)
  (h0 : decide (n < NSys.base s) = false)
  (h1 : vexec Tryd.prog X call lf 0 fg18 (Code.loop (loopN Tryd.f18 0)) (rwS8 s n) = some (Ex.exit 0, (rwS3 s n P b4 i0)))
  (h2 : keep [Ob.cells (sysC s)] (binv Tryd.prog BinOp.quo 3 (i6 n) (i6 (P i0))) = some (i6 q, [Ob.cells (sysC s)]))
  (h3 : keep [Ob.cells (sysC s)] (binv Tryd.prog BinOp.rem 3 (i6 n) (i6 (P i0))) = some (i6 r, [Ob.cells (sysC s)]))
  (h4 : vexec Tryd.prog X call lf 0 fg18 (regN Tryd.f18 7) (rwS5 s n q r P b4 i0) = some (Ex.normal, (rwS9 s n q r P b4 b7 i0)))
  (h5 : b7 = false)
  (h6 : keep [Ob.cells (sysC s)] (indexAddrv Tryd.prog 22 [Ob.cells (sysC s)] (lro (List.length (NSys.powers s)) 1 (List.map st (NSys.powers s))) (i6 (↑i0 : Int))) = some (AV.eaddr rest2, [Ob.cells (sysC s)]))
  (h7 : keep [Ob.cells (sysC s)] (loadv Tryd.prog 9 [Ob.cells (sysC s)] (AV.eaddr rest2)) = some (st w2, [Ob.cells (sysC s)]))
  (h8 : vexec Tryd.prog X call lf 0 fg18 (regN Tryd.f18 10) (rwS10 s n q r P rest2 w2 b4 b7 i0) = some (Ex.normal, (rwS13 s n q r P rest2 w2 b4 b7 b10 i0)))
  (h9 : b10 = true)
  (h10 : callv X call false 18 [AV.agg (sysC s), i6 q] [Ob.cells (sysC s)] 0 = some (a, [Ob.cells (sysC s)]))
  (h11 : callv X call false 38 [a, AV.list LK.clip 1 1 [st w2]] [Ob.cells (sysC s)] 0 = some (ab, [Ob.cells (sysC s)]))
  (h12 : (r == 0) = false)
  (h13 : (!empB (NSys.jo s)) = false)
  (h14 : NSys.sf s = true)
  (h15 : callv X call false 18 [AV.agg (sysC s), i6 r] [Ob.cells (sysC s)] 0 = some (b, [Ob.cells (sysC s)]))
  (h16 : callv X call false 38 [b, AV.list LK.clip 0 1 []] [Ob.cells (sysC s)] 0 = some (ac, [Ob.cells (sysC s)]))
  (h17 : callv X call false 38 [ac, ab] [Ob.cells (sysC s)] 0 = some (ac2, [Ob.cells (sysC s)]))
  (h18 : vend1 [] 0 [Ob.cells (sysC s)] [ac2] = some (unfr (oneOf [ac2]), [Ob.cells (sysC s)])) : vbody Tryd.prog X call lf fg18 Tryd.f18 (codeOf Tryd.f18) [AV.agg (sysC s), i6 n] [] 0 = some (unfr (oneOf [ac2]), [Ob.cells (sysC s)]) :=
  along_sound (ans := [(7, Ans.b false), (14, Ans.l (Ex.exit 0) (rwS3 s n P b4 i0)), (18, Ans.v (i6 q)), (21, Ans.v (i6 r)), (24, Ans.l Ex.normal (rwS9 s n q r P b4 b7 i0)), (25, Ans.b false), (30, Ans.v (AV.eaddr rest2)), (31, Ans.v (st w2)), (34, Ans.l Ex.normal (rwS13 s n q r P rest2 w2 b4 b7 b10 i0)), (35, Ans.b true), (39, Ans.v a), (41, Ans.v ab), (45, Ans.b false), (53, Ans.b false), (57, Ans.b true), (62, Ans.v b), (64, Ans.v ac), (66, Ans.v ac2), (68, Ans.c (unfr (oneOf [ac2])) [Ob.cells (sysC s)])]) (by kernel_rfl) (And.intro h0 (And.intro h1 (And.intro h2 (And.intro h3 (And.intro h4 (And.intro h5 (And.intro h6 (And.intro h7 (And.intro h8 (And.intro h9 (And.intro h10 (And.intro h11 (And.intro h12 (And.intro h13 (And.intro h14 (And.intro h15 (And.intro h16 (And.intro h17 (And.intro h18 trivial)))))))))))))))))))
theorem rw_pflfftfff (s : NSys) (n : Int) (q : Int) (r : Int) (P : Nat → Int) (rest2 : List AV) (a : AV) (ab : AV) (d1 : AV) (d2 : AV) (d3 : AV) (w2 : ByteArray) (b4 : Bool) (b7 : Bool) (b10 : Bool) (X : Ext) (call : Caller) (lf : Nat) (i0 : Nat)
  (h0 : decide (n < NSys.base s) = false)
  (h1 : vexec Tryd.prog X call lf 0 fg18 (Code.loop (loopN Tryd.f18 0)) (rwS8 s n) = some (Ex.exit 0, (rwS3 s n P b4 i0)))
  (h2 : keep [Ob.cells (sysC s)] (binv Tryd.prog BinOp.quo 3 (i6 n) (i6 (P i0))) = some (i6 q, [Ob.cells (sysC s)]))
  (h3 : keep [Ob.cells (sysC s)] (binv Tryd.prog BinOp.rem 3 (i6 n) (i6 (P i0))) = some (i6 r, [Ob.cells (sysC s)]))
  (h4 : vexec Tryd.prog X call lf 0 fg18 (regN Tryd.f18 7) (rwS5 s n q r P b4 i0) = some (Ex.normal, (rwS9 s n q r P b4 b7 i0)))
  (h5 : b7 = false)
  (h6 : keep [Ob.cells (sysC s)] (indexAddrv Tryd.prog 22 [Ob.cells (sysC s)] (lro (List.length (NSys.powers s)) 1 (List.map st (NSys.powers s))) (i6 (↑i0 : Int))) = some (AV.eaddr rest2, [Ob.cells (sysC s)]))
  (h7 : keep [Ob.cells (sysC s)] (loadv Tryd.prog 9 [Ob.cells (sysC s)] (AV.eaddr rest2)) = some (st w2, [Ob.cells (sysC s)]))
  (h8 : vexec Tryd.prog X call lf 0 fg18 (regN Tryd.f18 10) (rwS10 s n q r P rest2 w2 b4 b7 i0) = some (Ex.normal, (rwS13 s n q r P rest2 w2 b4 b7 b10 i0)))
  (h9 : b10 = true)
  (h10 : callv X call false 18 [AV.agg (sysC s), i6 q] [Ob.cells (sysC s)] 0 = some (a, [Ob.cells (sysC s)]))
  (h11 : callv X call false 38 [a, AV.list LK.clip 1 1 [st w2]] [Ob.cells (sysC s)] 0 = some (ab, [Ob.cells (sysC s)]))
  (h12 : (r == 0) = false)
  (h13 : (!empB (NSys.jo s)) = false)
  (h14 : NSys.sf s = false)
  (h15 : callv X call true 38 [ab, AV.list LK.clip 0 1 []] [Ob.cells (sysC s)] 0 = some (d1, [Ob.cells (sysC s)]))
  (h16 : callv X call true 18 [AV.agg (sysC s), i6 r] [Ob.cells (sysC s)] 0 = some (d2, [Ob.cells (sysC s)]))
  (h17 : callv X call true 38 [d1, d2] [Ob.cells (sysC s)] 0 = some (d3, [Ob.cells (sysC s)]))
  (h18 : vend1 [] 0 [Ob.cells (sysC s)] [d3] = some (unfr (oneOf [d3]), [Ob.cells (sysC s)])) : vbody Tryd.prog X call lf fg18 Tryd.f18 (codeOf Tryd.f18) [AV.agg (sysC s), i6 n] [] 0 = some (unfr (oneOf [d3]), [Ob.cells (sysC s)]) :=
  along_sound (ans := [(7, Ans.b false), (14, Ans.l (Ex.exit 0) (rwS3 s n P b4 i0)), (18, Ans.v (i6 q)), (21, Ans.v (i6 r)), (24, Ans.l Ex.normal (rwS9 s n q r P b4 b7 i0)), (25, Ans.b false), (30, Ans.v (AV.eaddr rest2)), (31, Ans.v (st w2)), (34, Ans.l Ex.normal (rwS13 s n q r P rest2 w2 b4 b7 b10 i0)), (35, Ans.b true), (39, Ans.v a), (41, Ans.v ab), (45, Ans.b false), (53, Ans.b false), (57, Ans.b false), (62, Ans.v d1), (65, Ans.v d2), (66, Ans.v d3), (68, Ans.c (unfr (oneOf [d3])) [Ob.cells (sysC s)])]) (by kernel_rfl) (And.intro h0 (And.intro h1 (And.intro h2 (And.intro h3 (And.intro h4 (And.intro h5 (And.intro h6 (And.intro h7 (And.intro h8 (And.intro h9 (And.intro h10 (And.intro h11 (And.intro h12 (And.intro h13 (And.intro h14 (And.intro h15 (And.intro h16 (And.intro h17 (And.intro h18 trivial)))))))))))))))))))
theorem rw_pflffft (s : NSys) (n : Int) (q : Int) (r : Int) (P : Nat → Int) (rest2 : List AV) (w2 : ByteArray) (b4 : Bool) (b7 : Bool) (b10 : Bool) (X : Ext) (call : Caller) (lf : Nat) (i0 : Nat)
  (h0 : decide (n < NSys.base s) = false)
  (h1 : vexec Tryd.prog X call lf 0 fg18 (Code.loop (loopN Tryd.f18 0)) (rwS8 s n) = some (Ex.exit 0, (rwS3 s n P b4 i0)))
  (h2 : keep [Ob.cells (sysC s)] (binv Tryd.prog BinOp.quo 3 (i6 n) (i6 (P i0))) = some (i6 q, [Ob.cells (sysC s)]))
  (h3 : keep [Ob.cells (sysC s)] (binv Tryd.prog BinOp.rem 3 (i6 n) (i6 (P i0))) = some (i6 r, [Ob.cells (sysC s)]))
  (h4 : vexec Tryd.prog X call lf 0 fg18 (regN Tryd.f18 7) (rwS5 s n q r P b4 i0) = some (Ex.normal, (rwS9 s n q r P b4 b7 i0)))
  (h5 : b7 = false)
  (h6 : keep [Ob.cells (sysC s)] (indexAddrv Tryd.prog 22 [Ob.cells (sysC s)] (lro (List.length (NSys.powers s)) 1 (List.map st (NSys.powers s))) (i6 (↑i0 : Int))) = some (AV.eaddr rest2, [Ob.cells (sysC s)]))
  (h7 : keep [Ob.cells (sysC s)] (loadv Tryd.prog 9 [Ob.cells (sysC s)] (AV.eaddr rest2)) = some (st w2, [Ob.cells (sysC s)]))
  (h8 : vexec Tryd.prog X call lf 0 fg18 (regN Tryd.f18 10) (rwS10 s n q r P rest2 w2 b4 b7 i0) = some (Ex.normal, (rwS13 s n q r P rest2 w2 b4 b7 b10 i0)))
  (h9 : b10 = false)
  (h10 : (r == 0) = true) : vbody Tryd.prog X call lf fg18 Tryd.f18 (codeOf Tryd.f18) [AV.agg (sysC s), i6 n] [] 0 = some (AV.list LK.clip 1 1 [st w2], [Ob.cells (sysC s)]) :=
  along_sound (ans := [(7, Ans.b false), (14, Ans.l (Ex.exit 0) (rwS3 s n P b4 i0)), (18, Ans.v (i6 q)), (21, Ans.v (i6 r)), (24, Ans.l Ex.normal (rwS9 s n q r P b4 b7 i0)), (25, Ans.b false), (30, Ans.v (AV.eaddr rest2)), (31, Ans.v (st w2)), (34, Ans.l Ex.normal (rwS13 s n q r P rest2 w2 b4 b7 b10 i0)), (35, Ans.b false), (38, Ans.b true)]) (by kernel_rfl) (And.intro h0 (And.intro h1 (And.intro h2 (And.intro h3 (And.intro h4 (And.intro h5 (And.intro h6 (And.intro h7 (And.intro h8 (And.intro h9 (And.intro h10 trivial)))))))))))
theorem rw_pflfffftt (s : NSys) (n : Int) (q : Int) (r : Int) (P : Nat → Int) (rest2 : List AV) (b : AV) (ac : AV) (ac2 : AV) (w2 : ByteArray) (b4 : Bool) (b7 : Bool) (b10 : Bool) (X : Ext) (call : Caller) (lf : Nat) (i0 : Nat)
  (h0 : decide (n < NSys.base s) = false)
  (h1 : vexec Tryd.prog X call lf 0 fg18 (Code.loop (loopN Tryd.f18 0)) (rwS8 s n) = some (Ex.exit 0, (rwS3 s n P b4 i0)))
  (h2 : keep [Ob.cells (sysC s)] (binv Tryd.prog BinOp.quo 3 (i6 n) (i6 (P i0))) = some (i6 q, [Ob.cells (sysC s)]))
  (h3 : keep [Ob.cells (sysC s)] (binv Tryd.prog BinOp.rem 3 (i6 n) (i6 (P i0))) = some (i6 r, [Ob.cells (sysC s)]))
  (h4 : vexec Tryd.prog X call lf 0 fg18 (regN Tryd.f18 7) (rwS5 s n q r P b4 i0) = some (Ex.normal, (rwS9 s n q r P b4 b7 i0)))
  (h5 : b7 = false)
  (h6 : keep [Ob.cells (sysC s)] (indexAddrv Tryd.prog 22 [Ob.cells (sysC s)] (lro (List.length (NSys.powers s)) 1 (List.map st (NSys.powers s))) (i6 (↑i0 : Int))) = some (AV.eaddr rest2, [Ob.cells (sysC s)]))
  (h7 : keep [Ob.cells (sysC s)] (loadv Tryd.prog 9 [Ob.cells (sysC s)] (AV.eaddr rest2)) = some (st w2, [Ob.cells (sysC s)]))
  (h8 : vexec Tryd.prog X call lf 0 fg18 (regN Tryd.f18 10) (rwS10 s n q r P rest2 w2 b4 b7 i0) = some (Ex.normal, (rwS13 s n q r P rest2 w2 b4 b7 b10 i0)))
  (h9 : b10 = false)
  (h10 : (r == 0) = false)
  (h11 : (!empB (NSys.jo s)) = true)
  (h12 : NSys.sf s = true)
  (h13 : callv X call false 18 [AV.agg (sysC s), i6 r] [Ob.cells (sysC s)] 0 = some (b, [Ob.cells (sysC s)]))
  (h14 : callv X call false 38 [b, AV.list LK.clip 1 1 [st (NSys.jo s)]] [Ob.cells (sysC s)] 0 = some (ac, [Ob.cells (sysC s)]))
  (h15 : callv X call false 38 [ac, AV.list LK.clip 1 1 [st w2]] [Ob.cells (sysC s)] 0 = some (ac2, [Ob.cells (sysC s)]))
  (h16 : vend1 [] 0 [Ob.cells (sysC s)] [ac2] = some (unfr (oneOf [ac2]), [Ob.cells (sysC s)])) : vbody Tryd.prog X call lf fg18 Tryd.f18 (codeOf Tryd.f18) [AV.agg (sysC s), i6 n] [] 0 = some (unfr (oneOf [ac2]), [Ob.cells (sysC s)]) :=
  along_sound (ans := [(7, Ans.b false), (14, Ans.l (Ex.exit 0) (rwS3 s n P b4 i0)), (18, Ans.v (i6 q)), (21, Ans.v (i6 r)), (24, Ans.l Ex.normal (rwS9 s n q r P b4 b7 i0)), (25, Ans.b false), (30, Ans.v (AV.eaddr rest2)), (31, Ans.v (st w2)), (34, Ans.l Ex.normal (rwS13 s n q r P rest2 w2 b4 b7 b10 i0)), (35, Ans.b false), (38, Ans.b false), (46, Ans.b true), (55, Ans.b true), (60, Ans.v b), (62, Ans.v ac), (64, Ans.v ac2), (66, Ans.c (unfr (oneOf [ac2])) [Ob.cells (sysC s)])]) (by kernel_rfl) (And.intro h0 (And.intro h1 (And.intro h2 (And.intro h3 (And.intro h4 (And.intro h5 (And.intro h6 (And.intro h7 (And.intro h8 (And.intro h9 (And.intro h10 (And.intro h11 (And.intro h12 (And.intro h13 (And.intro h14 (And.intro h15 (And.intro h16 trivial)))))))))))))))))
theorem rw_pflfffftf (s : NSys) (n : Int) (q : Int) (r : Int) (P : Nat → Int) (rest2 : List AV) (d1 : AV) (d2 : AV) (d3 : AV) (w2 : ByteArray) (b4 : Bool) (b7 : Bool) (b10 : Bool) (X : Ext) (call : Caller) (lf : Nat) (i0 : Nat)
  (h0 : decide (n < NSys.base s) = false)
  (h1 : vexec Tryd.prog X call lf 0 fg18 (Code.loop (loopN Tryd.f18 0)) (rwS8 s n) = some (Ex.exit 0, (rwS3 s n P b4 i0)))
  (h2 : keep [Ob.cells (sysC s)] (binv Tryd.prog BinOp.quo 3 (i6 n) (i6 (P i0))) = some (i6 q, [Ob.cells (sysC s)]))
  (h3 : keep [Ob.cells (sysC s)] (binv Tryd.prog BinOp.rem 3 (i6 n) (i6 (P i0))) = some (i6 r, [Ob.cells (sysC s)]))
  (h4 : vexec Tryd.prog X call lf 0 fg18 (regN Tryd.f18 7) (rwS5 s n q r P b4 i0) = some (Ex.normal, (rwS9 s n q r P b4 b7 i0)))
  (h5 : b7 = false)
  (h6 : keep [Ob.cells (sysC s)] (indexAddrv Tryd.prog 22 [Ob.cells (sysC s)] (lro (List.length (NSys.powers s)) 1 (List.map st (NSys.powers s))) (i6 (↑i0 : Int))) = some (AV.eaddr rest2, [Ob.cells (sysC s)]))
  (h7 : keep [Ob.cells (sysC s)] (loadv Tryd.prog 9 [Ob.cells (sysC s)] (AV.eaddr rest2)) = some (st w2, [Ob.cells (sysC s)]))
  (h8 : vexec Tryd.prog X call lf 0 fg18 (regN Tryd.f18 10) (rwS10 s n q r P rest2 w2 b4 b7 i0) = some (Ex.normal, (rwS13 s n q r P rest2 w2 b4 b7 b10 i0)))
  (h9 : b10 = false)
  (h10 : (r == 0) = false)
  (h11 : (!empB (NSys.jo s)) = true)
  (h12 : NSys.sf s = false)
  (h13 : callv X call true 38 [AV.list LK.clip 1 1 [st w2], AV.list LK.clip 1 1 [st (NSys.jo s)]] [Ob.cells (sysC s)] 0 = some (d1, [Ob.cells (sysC s)]))
  (h14 : callv X call true 18 [AV.agg (sysC s), i6 r] [Ob.cells (sysC s)] 0 = some (d2, [Ob.cells (sysC s)]))
  (h15 : callv X call true 38 [d1, d2] [Ob.cells (sysC s)] 0 = some (d3, [Ob.cells (sysC s)]))
  (h16 : vend1 [] 0 [Ob.cells (sysC s)] [d3] = some (unfr (oneOf [d3]), [Ob.cells (sysC s)])) : vbody Tryd.prog X call lf fg18 Tryd.f18 (codeOf Tryd.f18) [AV.agg (sysC s), i6 n] [] 0 = some (unfr (oneOf [d3]), [Ob.cells (sysC s)]) :=
  along_sound (ans := [(7, Ans.b false), (14, Ans.l (Ex.exit 0) (rwS3 s n P b4 i0)), (18, Ans.v (i6 q)), (21, Ans.v (i6 r)), (24, Ans.l Ex.normal (rwS9 s n q r P b4 b7 i0)), (25, Ans.b false), (30, Ans.v (AV.eaddr rest2)), (31, Ans.v (st w2)), (34, Ans.l Ex.normal (rwS13 s n q r P rest2 w2 b4 b7 b10 i0)), (35, Ans.b false), (38, Ans.b false), (46, Ans.b true), (55, Ans.b false), (60, Ans.v d1), (63, Ans.v d2), (64, Ans.v d3), (66, Ans.c (unfr (oneOf [d3])) [Ob.cells (sysC s)])]) (by kernel_rfl) (And.intro h0 (And.intro h1 (And.intro h2 (And.intro h3 (And.intro h4 (And.intro h5 (And.intro h6 (And.intro h7 (And.intro h8 (And.intro h9 (And.intro h10 (And.intro h11 (And.intro h12 (And.intro h13 (And.intro h14 (And.intro h15 (And.intro h16 trivial)))))))))))))))))
theorem rw_pflffffft (s : NSys) (n : Int) (q : Int) (r : Int) (P : Nat → Int) (rest2 : List AV) (b : AV) (ac : AV) (ac2 : AV) (w2 : ByteArray) (b4 : Bool) (b7 : Bool) (b10 : Bool) (X : Ext) (call : Caller) (lf : Nat) (i0 : Nat)
  (h0 : decide (n < NSys.base s) = false)
  (h1 : vexec Tryd.prog X call lf 0 fg18 (Code.loop (loopN Tryd.f18 0)) (rwS8 s n) = some (Ex.exit 0, (rwS3 s n P b4 i0)))
  (h2 : keep [Ob.cells (sysC s)] (binv Tryd.prog BinOp.quo 3 (i6 n) (i6 (P i0))) = some (i6 q, [Ob.cells (sysC s)]))
  (h3 : keep [Ob.cells (sysC s)] (binv Tryd.prog BinOp.rem 3 (i6 n) (i6 (P i0))) = some (i6 r, [Ob.cells (sysC s)]))
  (h4 : vexec Tryd.prog X call lf 0 fg18 (regN Tryd.f18 7) (rwS5 s n q r P b4 i0) = some (Ex.normal, (rwS9 s n q r P b4 b7 i0)))
  (h5 : b7 = false)
  (h6 : keep [Ob.cells (sysC s)] (indexAddrv Tryd.prog 22 [Ob.cells (sysC s)] (lro (List.length (NSys.powers s)) 1 (List.map st (NSys.powers s))) (i6 (↑i0 : Int))) = some (AV.eaddr rest2, [Ob.cells (sysC s)]))
  (h7 : keep [Ob.cells (sysC s)] (loadv Tryd.prog 9 [Ob.cells (sysC s)] (AV.eaddr rest2)) = some (st w2, [Ob.cells (sysC s)]))
  (h8 : vexec Tryd.prog X call lf 0 fg18 (regN Tryd.f18 10) (rwS10 s n q r P rest2 w2 b4 b7 i0) = some (Ex.normal, (rwS13 s n q r P rest2 w2 b4 b7 b10 i0)))
  (h9 : b10 = false)
  (h10 : (r == 0) = false)
  (h11 : (!empB (NSys.jo s)) = false)
  (h12 : NSys.sf s = true)
  (h13 : callv X call false 18 [AV.agg (sysC s), i6 r] [Ob.cells (sysC s)] 0 = some (b, [Ob.cells (sysC s)]))
  (h14 : callv X call false 38 [b, AV.list LK.clip 0 1 []] [Ob.cells (sysC s)] 0 = some (ac, [Ob.cells (sysC s)]))
  (h15 : callv X call false 38 [ac, AV.list LK.clip 1 1 [st w2]] [Ob.cells (sysC s)] 0 = some (ac2, [Ob.cells (sysC s)]))
  (h16 : vend1 [] 0 [Ob.cells (sysC s)] [ac2] = some (unfr (oneOf [ac2]), [Ob.cells (sysC s)])) : vbody Tryd.prog X call lf fg18 Tryd.f18 (codeOf Tryd.f18) [AV.agg (sysC s), i6 n] [] 0 = some (unfr (oneOf [ac2]), [Ob.cells (sysC s)]) :=
  along_sound (ans := [(7, Ans.b false), (14, Ans.l (Ex.exit 0) (rwS3 s n P b4 i0)), (18, Ans.v (i6 q)), (21, Ans.v (i6 r)), (24, Ans.l Ex.normal (rwS9 s n q r P b4 b7 i0)), (25, Ans.b false), (30, Ans.v (AV.eaddr rest2)), (31, Ans.v (st w2)), (34, Ans.l Ex.normal (rwS13 s n q r P rest2 w2 b4 b7 b10 i0)), (35, Ans.b false), (38, Ans.b false), (46, Ans.b false), (50, Ans.b true), (55, Ans.v b), (57, Ans.v ac), (59, Ans.v ac2), (61, Ans.c (unfr (oneOf [ac2])) [Ob.cells (sysC s)])]) (by kernel_rfl) (And.intro h0 (And.intro h1 (And.intro h2 (And.intro h3 (And.intro h4 (And.intro h5 (And.intro h6 (And.intro h7 (And.intro h8 (And.intro h9 (And.intro h10 (And.intro h11 (And.intro h12 (And.intro h13 (And.intro h14 (And.intro h15 (And.intro h16 trivial)))))))))))))))))
theorem rw_pflffffff (s : NSys) (n : Int) (q : Int) (r : Int) (P : Nat → Int) (rest2 : List AV) (d1 : AV) (d2 : AV) (d3 : AV) (w2 : ByteArray) (b4 : Bool) (b7 : Bool) (b10 : Bool) (X : Ext) (call : Caller) (lf : Nat) (i0 : Nat)
  (h0 : decide (n < NSys.base s) = false)
  (h1 : vexec Tryd.prog X call lf 0 fg18 (Code.loop (loopN Tryd.f18 0)) (rwS8 s n) = some (Ex.exit 0, (rwS3 s n P b4 i0)))
  (h2 : keep [Ob.cells (sysC s)] (binv Tryd.prog BinOp.quo 3 (i6 n) (i6 (P i0))) = some (i6 q, [Ob.cells (sysC s)]))
  (h3 : keep [Ob.cells (sysC s)] (binv Tryd.prog BinOp.rem 3 (i6 n) (i6 (P i0))) = some (i6 r, [Ob.cells (sysC s)]))
  (h4 : vexec Tryd.prog X call lf 0 fg18 (regN Tryd.f18 7) (rwS5 s n q r P b4 i0) = some (Ex.normal, (rwS9 s n q r P b4 b7 i0)))
  (h5 : b7 = false)
  (h6 : keep [Ob.cells (sysC s)] (indexAddrv Tryd.prog 22 [Ob.cells (sysC s)] (lro (List.length (NSys.powers s)) 1 (List.map st (NSys.powers s))) (i6 (↑i0 : Int))) = some (AV.eaddr rest2, [Ob.cells (sysC s)]))
  (h7 : keep [Ob.cells (sysC s)] (loadv Tryd.prog 9 [Ob.cells (sysC s)] (AV.eaddr rest2)) = some (st w2, [Ob.cells (sysC s)]))
  (h8 : vexec Tryd.prog X call lf 0 fg18 (regN Tryd.f18 10) (rwS10 s n q r P rest2 w2 b4 b7 i0) = some (Ex.normal, (rwS13 s n q r P rest2 w2 b4 b7 b10 i0)))
  (h9 : b10 = false)
  (h10 : (r == 0) = false)
  (h11 : (!empB (NSys.jo s)) = false)
  (h12 : NSys.sf s = false)
  (h13 : callv X call true 38 [AV.list LK.clip 1 1 [st w2], AV.list LK.clip 0 1 []] [Ob.cells (sysC s)] 0 = some (d1, [Ob.cells (sysC s)]))
  (h14 : callv X call true 18 [AV.agg (sysC s), i6 r] [Ob.cells (sysC s)] 0 = some (d2, [Ob.cells (sysC s)]))
  (h15 : callv X call true 38 [d1, d2] [Ob.cells (sysC s)] 0 = some (d3, [Ob.cells (sysC s)]))
  (h16 : vend1 [] 0 [Ob.cells (sysC s)] [d3] = some (unfr (oneOf [d3]), [Ob.cells (sysC s)])) : vbody Tryd.prog X call lf fg18 Tryd.f18 (codeOf Tryd.f18) [AV.agg (sysC s), i6 n] [] 0 = some (unfr (oneOf [d3]), [Ob.cells (sysC s)]) :=
  along_sound (ans := [(7, Ans.b false), (14, Ans.l (Ex.exit 0) (rwS3 s n P b4 i0)), (18, Ans.v (i6 q)), (21, Ans.v (i6 r)), (24, Ans.l Ex.normal (rwS9 s n q r P b4 b7 i0)), (25, Ans.b false), (30, Ans.v (AV.eaddr rest2)), (31, Ans.v (st w2)), (34, Ans.l Ex.normal (rwS13 s n q r P rest2 w2 b4 b7 b10 i0)), (35, Ans.b false), (38, Ans.b false), (46, Ans.b false), (50, Ans.b false), (55, Ans.v d1), (58, Ans.v d2), (59, Ans.v d3), (61, Ans.c (unfr (oneOf [d3])) [Ob.cells (sysC s)])]) (by kernel_rfl) (And.intro h0 (And.intro h1 (And.intro h2 (And.intro h3 (And.intro h4 (And.intro h5 (And.intro h6 (And.intro h7 (And.intro h8 (And.intro h9 (And.intro h10 (And.intro h11 (And.intro h12 (And.intro h13 (And.intro h14 (And.intro h15 (And.intro h16 trivial)))))))))))))))))


abbrev D18 : List Nat := [38, 37, 36, 35, 34, 33, 32, 31, 30, 29, 28, 27, 26, 25, 24, 23]
theorem dead18 : (deadC (loopN Tryd.f18 0) ([], [])).2 = D18 := by kernel_rfl
abbrev rwP (s : NSys) (i : Nat) : Int := s.base ^ (i + 1)
def rwB4 (s : NSys) (n : Int) (i : Nat) : Bool := decide ((↑i : Int) < 2) && decide (n ≥ w6 (rwP s i * s.base))
theorem rw_g4 (s : NSys) (n : Int) (X : Ext) (call : Caller) (lf : Nat) (i : Nat) : vexec Tryd.prog X call lf 0 fg18 (regN Tryd.f18 4) (rwS0 s n (rwP s) i) = some (Ex.normal, rwS3 s n (rwP s) (rwB4 s n i) i) := by
  unfold rwB4
  cases h0 : decide ((↑i : Int) < 2) with
  | false => exact rw_g4_f s n (rwP s) X call lf i h0
  | true =>
    cases h1 : decide (n ≥ w6 (rwP s i * s.base)) with
    | true => exact rw_g4_tt s n (rwP s) X call lf i h0 h1
    | false => exact rw_g4_tf s n (rwP s) X call lf i h0 h1
theorem rw_g7 (s : NSys) (n q r : Int) (b4 : Bool) (X : Ext) (call : Caller) (lf : Nat) (i : Nat) : vexec Tryd.prog X call lf 0 fg18 (regN Tryd.f18 7) (rwS5 s n q r (rwP s) b4 i) = some (Ex.normal, rwS9 s n q r (rwP s) b4 (lessL s q (rwP s i) r) i) := by
  unfold lessL
  cases h0 : decide (s.sub > 0) with
  | false => exact rw_g7_f s n q r (rwP s) b4 X call lf i h0
  | true =>
    cases h1 : decide (r ≥ w6 (rwP s i - s.sub)) with
    | false => exact rw_g7_tf s n q r (rwP s) b4 X call lf i h0 h1
    | true =>
      cases h2 : decide (w6 (q + 1) < s.base) with
      | false => exact rw_g7_ttf s n q r (rwP s) b4 X call lf i h0 h1 h2
      | true => exact rw_g7_ttt s n q r (rwP s) b4 X call lf i h0 h1 h2
theorem rw_g10 (s : NSys) (n q r : Int) (rest : List AV) (w : ByteArray) (b4 b7 : Bool) (X : Ext) (call : Caller) (lf : Nat) (i : Nat) : vexec Tryd.prog X call lf 0 fg18 (regN Tryd.f18 10) (rwS10 s n q r (rwP s) rest w b4 b7 i) = some (Ex.normal, rwS13 s n q r (rwP s) rest w b4 b7 (q != 1 || !s.om) i) := by
  cases h0 : (q != 1) with
  | true => exact rw_g10_t s n q r (rwP s) rest w b4 b7 X call lf i h0
  | false =>
    cases h1 : s.om with
    | true => exact rw_g10_ft s n q r (rwP s) rest w b4 b7 X call lf i h0 h1
    | false => exact rw_g10_ff s n q r (rwP s) rest w b4 b7 X call lf i h0 h1
theorem rwB4_lt {s : NSys} {n : Int} (hb : s.base = 10 ∨ s.base = 20) {i : Nat} (hi : i < 2) : rwB4 s n i = decide (n ≥ s.base ^ (i + 2)) := by
  unfold rwB4 rwP
  rw [pow_mul hb hi]
  have : decide ((↑i : Int) < 2) = true := by simp; omega
  rw [this, Bool.true_and]
theorem rw_round {s : NSys} {n : Int} {X : Ext} {call : Caller} {lf : Nat} (hb : s.base = 10 ∨ s.base = 20) {i : Nat} (hi : i < 2) (hn : ¬ s.base ^ (i + 2) > n) :
    ∃ S1, vexec Tryd.prog X call lf 0 fg18 (loopN Tryd.f18 0) (rwS0 s n (rwP s) i) = some (.normal, S1) ∧ forget D18 S1 = rwS0 s n (rwP s) (i + 1) := by
  have h4 : rwB4 s n i = true := by rw [rwB4_lt hb hi]; exact decide_eq_true (by omega)
  refine ⟨_, rw_r0_t s n (rwP s) (rwB4 s n i) X call lf i (rw_g4 s n X call lf i) h4, ?_⟩
  have e : w6 ((i : Int) + 1) = ((i + 1 : Nat) : Int) := wrap_small (by omega)
  have e2 : w6 (rwP s i * s.base) = rwP s (i + 1) := pow_mul hb hi
  unfold rwS4
  rw [e, e2]
  unfold rwS0
  show _ = _
  kernel_rfl
theorem rw_loop {s : NSys} {n : Int} {X : Ext} {call : Caller} {lf : Nat} (hlf : 2 < lf) (hb : s.base = 10 ∨ s.base = 20) :
    vexec Tryd.prog X call lf 0 fg18 (Code.loop (loopN Tryd.f18 0)) (rwS8 s n) = some (Ex.exit 0, rwS3 s n (rwP s) false (powK s n)) := by
  have start : forget D18 (rwS8 s n) = rwS0 s n (rwP s) 0 := by
    have e : rwP s 0 = s.base := by unfold rwP; rw [Nat.zero_add]; exact Int.pow_one _
    unfold rwS0 rwS8
    rw [e]
    show _ = _
    kernel_rfl
  have done : ∀ K, K ≤ 2 → rwB4 s n K = false → (∀ i, i < K → ¬ s.base ^ (i + 2) > n) → vexec Tryd.prog X call lf 0 fg18 (Code.loop (loopN Tryd.f18 0)) (rwS8 s n) = some (Ex.exit 0, rwS3 s n (rwP s) false K) := by
    intro K hK h4 hlt
    refine loop_run (P := Tryd.prog) (X := X) (call := call) (lf := lf) (ro := 0) (fg := fg18) dead18 (rwS0 s n (rwP s)) K (by omega) start (fun i hi => rw_round hb (by omega) (hlt i hi)) ?_ (by simp)
    have := rw_g4 s n X call lf K
    rw [h4] at this
    exact rw_r0_f s n (rwP s) false X call lf K this rfl
  unfold powK
  by_cases h2 : s.base ^ 2 > n
  · rw [if_pos h2]
    exact done 0 (by omega) (by rw [rwB4_lt hb (by omega)]; exact decide_eq_false (by simp only [Nat.zero_add]; omega)) (fun i hi => absurd hi (by omega))
  · rw [if_neg h2]
    by_cases h3 : s.base ^ 3 > n
    · rw [if_pos h3]
      refine done 1 (by omega) (by rw [rwB4_lt hb (by omega)]; exact decide_eq_false (by simp only [Nat.reduceAdd]; omega)) (fun i hi => ?_)
      have : i = 0 := by omega
      subst this
      exact h2
    · rw [if_neg h3]
      refine done 2 (by omega) (by unfold rwB4; rfl) (fun i hi => ?_)
      have : i = 0 ∨ i = 1 := by omega
      rcases this with rfl | rfl
      · exact h2
      · exact h3
/-! ### the specification, by depth -/
def rwordsS (k : Nat) : List AV → Option AV
  | [.agg cs, .int .i64 n] => match sysO cs with
    | some s => if s.base = 10 ∨ s.base = 20 then (match sayO s k n with
      | some l => some (lst l)
      | none => none) else none
    | none => none
  | _ => none
def TR (k : Nat) : Vm.Spec := addS T9 18 fun vs => rwordsS k (roAll vs)
theorem end_lst2 {l : List ByteArray} {S : List Ob} {σ0 : List Ob} {ro : Nat} : vend1 σ0 ro S [lst l] = some (unfr (oneOf [lst l]), S) := by
  have h : AV.thawAll S [lst l] = some [lst l] := by simp [AV.thawAll, AV.thaw, thaw_strs]
  unfold vend1
  rw [h]
  have h2 : AV.ownsAll [lst l] = [] := by simp [AV.ownsAll, AV.owns, owns_strs]
  rw [h2]
  simp only [freezeIds]
  unfold resOf
  split
  · rename_i e _
    cases e
  · rfl
theorem lt_one (w : ByteArray) : AV.lt 0 (.list .clip 1 1 [st w]) = true := rfl
theorem lt_none : AV.lt 0 (.list .clip 0 1 []) = true := rfl
theorem lt_lst (l : List ByteArray) : AV.lt 0 (lst l) = true := by simp only [AV.lt]; exact lt_strs 0 l
theorem lt_two {a b : AV} (ha : AV.lt 0 a = true) (hb : AV.lt 0 b = true) : AV.ltAll 0 [a, b] = true := by simp [AV.ltAll, ha, hb]
theorem is_nil0 : IsS (.list .clip 0 1 []) [] := .inl ⟨_, rfl⟩
section
variable {k : Nat} {σ : List Ob} {ro : Nat} {dr : Bool}
theorem rj {a b : AV} {l m : List ByteArray} (ha : IsS a l) (hb : IsS b m) (hl : AV.ltAll 0 [a, b] = true) (hn : l.length + m.length ≤ 100000000) : callv (X15 []) (callerOf (TR k)) dr 38 [a, b] σ ro = some (lst (l ++ m), σ) := by
  have ht : TR k 38 [a, b] = some (lst (l ++ m)) := by
    have e : TR k 38 [a, b] = rjoinS [a, b] := rfl
    rw [e]
    simp only [rjoinS, isSO_of ha, isSO_of hb]
    rw [if_pos (by omega)]
  have := call_spec (X := X15 []) (dr := dr) (σ := σ) (ro := ro) rfl rfl hl ht (lt_lst _)
  rw [this]
  cases dr <;> rfl
theorem rwc {s : NSys} (hb : s.base = 10 ∨ s.base = 20) {n : Int} {l : List ByteArray} (h : sayO s k n = some l) : callv (X15 []) (callerOf (TR k)) dr 18 [AV.agg (sysC s), i6 n] σ ro = some (lst l, σ) := by
  have ht : TR k 18 [AV.agg (sysC s), i6 n] = some (lst l) := by
    have e : TR k 18 [AV.agg (sysC s), i6 n] = rwordsS k (roAll [AV.agg (sysC s), i6 n]) := rfl
    have e2 : roAll [AV.agg (sysC s), i6 n] = [AV.agg (sysC s), i6 n] := by simp [roAll, roA, roAll_sysC]
    rw [e, e2]
    simp only [rwordsS, sysO_sysC, h]
    rw [if_pos hb]
  have := call_spec (X := X15 []) (dr := dr) (σ := σ) (ro := ro) rfl rfl (by simp [AV.ltAll, AV.lt, lt_sysC]) ht (lt_lst _)
  rw [this]
  cases dr <;> rfl
theorem rw_step {s : NSys} (hb : s.base = 10 ∨ s.base = 20) (hk : k ≤ 20) {n : Int} {l : List ByteArray} (h : sayO s (k + 1) n = some l) :
    ∃ r σ', vbody Tryd.prog (X15 []) (callerOf (TR k)) 3 fg18 Tryd.f18 (codeOf Tryd.f18) [AV.agg (sysC s), i6 n] [] 0 = some (r, σ') ∧ IsS r l ∧ r.pure = true := by
  have hp : 2 ^ k ≤ 2 ^ 20 := Nat.pow_le_pow_right (by decide) hk
  have hj := joinWords_len s
  simp only [sayO] at h
  split at h
  · rename_i hn
    split at h
    · rename_i h0
      split at h
      · rename_i w hw
        simp only [Option.some.injEq] at h
        subst h
        have hi := idx_strs (S := [Ob.cells (sysC s)]) hw
        have e : ((n.toNat : Nat) : Int) = n := Int.toNat_of_nonneg h0
        rw [e] at hi
        exact ⟨_, _, rw_pt s n _ w (X15 []) (callerOf (TR k)) 3 (decide_eq_true hn) hi.1 hi.2, is_one w, rfl⟩
      · cases h
    · cases h
  · rename_i hn
    have hn := decide_eq_false hn
    have h1 := rw_loop (s := s) (n := n) (X := X15 []) (call := callerOf (TR k)) (lf := 3) (by omega) hb
    have h2 := quo_p (S := [Ob.cells (sysC s)]) (n := n) (base_pos hb (powK s n))
    have h3 := rem_p (S := [Ob.cells (sysC s)]) (n := n) (base_pos hb (powK s n))
    have h4 := rw_g7 s n (w6 (n.tdiv (rwP s (powK s n)))) (n.tmod (rwP s (powK s n))) false (X15 []) (callerOf (TR k)) 3 (powK s n)
    split at h
    · rename_i hl
      split at h
      · rename_i a b ha hbb
        simp only [Option.some.injEq] at h
        subst h
        obtain ⟨a1, a2⟩ := sayO_len s k _ a ha
        obtain ⟨b1, b2⟩ := sayO_len s k _ b hbb
        refine ⟨_, _, rw_pflft s n _ _ (rwP s) _ _ _ _ _ _ (X15 []) (callerOf (TR k)) 3 (powK s n) hn h1 h2 h3 h4 hl (rwc hb ha) (rj (is_lst a) (is_one s.le) (lt_two (lt_lst _) (lt_one _)) (by simp only [List.length_cons, List.length_nil]; omega)) (rwc hb hbb)
          (rj (is_lst _) (is_lst b) (lt_two (lt_lst _) (lt_lst _)) (by simp only [List.length_append, List.length_cons, List.length_nil]; omega)) end_lst2, ?_, lt_lst _⟩
        have e : a ++ [s.le] ++ b = a ++ s.le :: b := by simp
        rw [← e]
        exact is_lst _
      · cases h
    · rename_i hl
      have hl := Bool.eq_false_iff.2 hl
      split at h
      · cases h
      · rename_i w hw
        have hi := idx_strs (S := [Ob.cells (sysC s)]) hw
        have h8 := rw_g10 s n (w6 (n.tdiv (rwP s (powK s n)))) (n.tmod (rwP s (powK s n))) ((s.powers.map AV.str).drop (powK s n)) w false (lessL s (w6 (n.tdiv (rwP s (powK s n)))) (rwP s (powK s n)) (n.tmod (rwP s (powK s n)))) (X15 []) (callerOf (TR k)) 3 (powK s n)
        split at h
        · cases h
        · rename_i head hh
          split at hh
          · rename_i hq
            split at hh
            · rename_i a ha
              simp only [Option.some.injEq] at hh
              subst hh
              obtain ⟨a1, a2⟩ := sayO_len s k _ a ha
              have h10 := rwc (dr := false) (σ := [Ob.cells (sysC s)]) (ro := 0) hb ha
              have h11 := rj (k := k) (dr := false) (σ := [Ob.cells (sysC s)]) (ro := 0) (is_lst a) (is_one w) (lt_two (lt_lst _) (lt_one _)) (by simp only [List.length_cons, List.length_nil]; omega)
              split at h
              · rename_i hr
                simp only [Option.some.injEq] at h
                subst h
                exact ⟨_, _, rw_pflfftt s n _ _ (rwP s) _ _ _ _ _ _ _ (X15 []) (callerOf (TR k)) 3 (powK s n) hn h1 h2 h3 h4 hl hi.1 hi.2 h8 hq h10 h11 hr end_lst2, is_lst _, lt_lst _⟩
              · rename_i hr
                have hr := Bool.eq_false_iff.2 hr
                split at h
                · cases h
                · rename_i c hcc
                  obtain ⟨c1, c2⟩ := sayO_len s k _ c hcc
                  have hj2 : (a ++ [w]).length = a.length + 1 := by simp
                  simp only [Option.some.injEq] at h
                  subst h
                  cases hjo : empB s.jo with
                  | true =>
                    have ej : joinWords s = [] := by unfold joinWords; rw [if_pos hjo]
                    rw [ej]
                    cases hsf : s.sf with
                    | true =>
                      refine ⟨_, _, rw_pflfftfft s n _ _ (rwP s) _ _ _ _ _ _ _ _ _ _ (X15 []) (callerOf (TR k)) 3 (powK s n) hn h1 h2 h3 h4 hl hi.1 hi.2 h8 hq h10 h11 hr (by rw [hjo]; rfl) hsf (rwc hb hcc) (rj (is_lst c) is_nil0 (lt_two (lt_lst _) lt_none) (by simp only [List.length_nil]; omega))
                        (rj (is_lst _) (is_lst _) (lt_two (lt_lst _) (lt_lst _)) (by simp only [List.length_append, List.length_cons, List.length_nil]; omega)) end_lst2, ?_, lt_lst _⟩
                      simp only [if_true, List.append_assoc, List.append_nil, List.nil_append]
                      exact is_lst _
                    | false =>
                      refine ⟨_, _, rw_pflfftfff s n _ _ (rwP s) _ _ _ _ _ _ _ _ _ _ (X15 []) (callerOf (TR k)) 3 (powK s n) hn h1 h2 h3 h4 hl hi.1 hi.2 h8 hq h10 h11 hr (by rw [hjo]; rfl) hsf (rj (is_lst _) is_nil0 (lt_two (lt_lst _) lt_none) (by simp only [List.length_append, List.length_cons, List.length_nil]; omega)) (rwc hb hcc)
                        (rj (is_lst _) (is_lst _) (lt_two (lt_lst _) (lt_lst _)) (by simp only [List.length_append, List.length_cons, List.length_nil]; omega)) end_lst2, ?_, lt_lst _⟩
                      simp only [Bool.false_eq_true, if_false, List.append_assoc, List.append_nil, List.nil_append]
                      exact is_lst _
                  | false =>
                    have ej : joinWords s = [s.jo] := by unfold joinWords; rw [hjo]; rfl
                    rw [ej]
                    cases hsf : s.sf with
                    | true =>
                      refine ⟨_, _, rw_pflfftftt s n _ _ (rwP s) _ _ _ _ _ _ _ _ _ _ (X15 []) (callerOf (TR k)) 3 (powK s n) hn h1 h2 h3 h4 hl hi.1 hi.2 h8 hq h10 h11 hr (by rw [hjo]; rfl) hsf (rwc hb hcc) (rj (is_lst c) (is_one s.jo) (lt_two (lt_lst _) (lt_one _)) (by simp only [List.length_cons, List.length_nil]; omega))
                        (rj (is_lst _) (is_lst _) (lt_two (lt_lst _) (lt_lst _)) (by simp only [List.length_append, List.length_cons, List.length_nil]; omega)) end_lst2, ?_, lt_lst _⟩
                      simp only [if_true, List.append_assoc]
                      exact is_lst _
                    | false =>
                      refine ⟨_, _, rw_pflfftftf s n _ _ (rwP s) _ _ _ _ _ _ _ _ _ _ (X15 []) (callerOf (TR k)) 3 (powK s n) hn h1 h2 h3 h4 hl hi.1 hi.2 h8 hq h10 h11 hr (by rw [hjo]; rfl) hsf (rj (is_lst _) (is_one s.jo) (lt_two (lt_lst _) (lt_one _)) (by simp only [List.length_append, List.length_cons, List.length_nil]; omega)) (rwc hb hcc)
                        (rj (is_lst _) (is_lst _) (lt_two (lt_lst _) (lt_lst _)) (by simp only [List.length_append, List.length_cons, List.length_nil]; omega)) end_lst2, ?_, lt_lst _⟩
                      simp only [Bool.false_eq_true, if_false, List.append_assoc]
                      exact is_lst _
            · cases hh
          · rename_i hq
            have hq := Bool.eq_false_iff.2 hq
            simp only [Option.some.injEq] at hh
            subst hh
            split at h
            · rename_i hr
              simp only [Option.some.injEq] at h
              subst h
              exact ⟨_, _, rw_pflffft s n _ _ (rwP s) _ _ _ _ _ (X15 []) (callerOf (TR k)) 3 (powK s n) hn h1 h2 h3 h4 hl hi.1 hi.2 h8 hq hr, is_one w, rfl⟩
            · rename_i hr
              have hr := Bool.eq_false_iff.2 hr
              split at h
              · cases h
              · rename_i c hcc
                obtain ⟨c1, c2⟩ := sayO_len s k _ c hcc
                simp only [Option.some.injEq] at h
                subst h
                cases hjo : empB s.jo with
                | true =>
                  have ej : joinWords s = [] := by unfold joinWords; rw [if_pos hjo]
                  rw [ej]
                  cases hsf : s.sf with
                  | true =>
                    refine ⟨_, _, rw_pflffffft s n _ _ (rwP s) _ _ _ _ _ _ _ _ (X15 []) (callerOf (TR k)) 3 (powK s n) hn h1 h2 h3 h4 hl hi.1 hi.2 h8 hq hr (by rw [hjo]; rfl) hsf (rwc hb hcc) (rj (is_lst c) is_nil0 (lt_two (lt_lst _) lt_none) (by simp only [List.length_nil]; omega))
                      (rj (is_lst _) (is_one w) (lt_two (lt_lst _) (lt_one _)) (by simp only [List.length_append, List.length_cons, List.length_nil]; omega)) end_lst2, ?_, lt_lst _⟩
                    simp only [if_true, List.append_assoc, List.append_nil, List.nil_append]
                    exact is_lst _
                  | false =>
                    refine ⟨_, _, rw_pflffffff s n _ _ (rwP s) _ _ _ _ _ _ _ _ (X15 []) (callerOf (TR k)) 3 (powK s n) hn h1 h2 h3 h4 hl hi.1 hi.2 h8 hq hr (by rw [hjo]; rfl) hsf (rj (is_one w) is_nil0 (lt_two (lt_one _) lt_none) (by simp)) (rwc hb hcc)
                      (rj (is_lst _) (is_lst _) (lt_two (lt_lst _) (lt_lst _)) (by simp only [List.length_append, List.length_cons, List.length_nil]; omega)) end_lst2, ?_, lt_lst _⟩
                    simp only [Bool.false_eq_true, if_false, List.append_assoc, List.append_nil, List.nil_append]
                    exact is_lst _
                | false =>
                  have ej : joinWords s = [s.jo] := by unfold joinWords; rw [hjo]; rfl
                  rw [ej]
                  cases hsf : s.sf with
                  | true =>
                    refine ⟨_, _, rw_pflfffftt s n _ _ (rwP s) _ _ _ _ _ _ _ _ (X15 []) (callerOf (TR k)) 3 (powK s n) hn h1 h2 h3 h4 hl hi.1 hi.2 h8 hq hr (by rw [hjo]; rfl) hsf (rwc hb hcc) (rj (is_lst c) (is_one s.jo) (lt_two (lt_lst _) (lt_one _)) (by simp only [List.length_cons, List.length_nil]; omega))
                      (rj (is_lst _) (is_one w) (lt_two (lt_lst _) (lt_one _)) (by simp only [List.length_append, List.length_cons, List.length_nil]; omega)) end_lst2, ?_, lt_lst _⟩
                    simp only [if_true, List.append_assoc]
                    exact is_lst _
                  | false =>
                    refine ⟨_, _, rw_pflfffftf s n _ _ (rwP s) _ _ _ _ _ _ _ _ (X15 []) (callerOf (TR k)) 3 (powK s n) hn h1 h2 h3 h4 hl hi.1 hi.2 h8 hq hr (by rw [hjo]; rfl) hsf (rj (is_one w) (is_one s.jo) (lt_two (lt_one _) (lt_one _)) (by simp)) (rwc hb hcc)
                      (rj (is_lst _) (is_lst _) (lt_two (lt_lst _) (lt_lst _)) (by simp only [List.length_append, List.length_cons, List.length_nil]; omega)) end_lst2, ?_, lt_lst _⟩
                    simp only [Bool.false_eq_true, if_false, List.append_assoc]
                    exact is_lst _
end
theorem TR_ok [Fixed] (hX : ∀ l, ExtOk Tryd.prog (X15 l)) : ∀ k, k ≤ 20 → SpecOk Tryd.prog (TR k)
  | 0, _ => by
    refine (T9_ok hX).addRo ?_
    intro vs r h
    unfold rwordsS at h
    split at h
    · split at h
      · split at h
        · simp [sayO] at h
        · cases h
      · cases h
    · cases h
  | k + 1, hk => by
    refine (T9_ok hX).addRo ?_
    intro vs r h
    unfold rwordsS at h
    split at h
    · split at h
      · rename_i cs n x s hs
        have e := sysO_eq hs
        subst e
        split at h
        · rename_i hb
          split at h
          · rename_i l hl
            simp only [Option.some.injEq] at h
            subst h
            obtain ⟨r, σ', hv, hr, hp⟩ := rw_step (k := k) hb (by omega) hl
            exact isS_call hr (run_at (hX []) (TR_ok hX k (by omega)) rfl Tryd.func18 rfl hp hv)
          · cases h
        · cases h
      · cases h
    · cases h
end Go.Proofs.Num
end
/- Numeral: Words, from the specifications. -/
section
open Go Go.Vm Go.Proofs
namespace Go.Proofs.Num
/-! ### every number has words -/
theorem w6_id {n : Int} (h1 : -9223372036854775808 ≤ n) (h2 : n ≤ 9223372036854775807) : w6 n = n := by
  unfold w6
  rw [IntKind.wrap_i64]
  omega
/-- What a valid system is, for counting. -/
structure Good (s : NSys) : Prop where
  base : s.base = 10 ∨ s.base = 20
  dig : (s.digits.length : Int) = s.base
  pow : s.powers.length = 3
  sub0 : 0 ≤ s.sub
  sub1 : 2 * s.sub < s.base
theorem good_of {s : NSys} (h : validL s = true) : Good s := by
  simp only [validL, Bool.and_eq_true, Bool.not_eq_true'] at h
  obtain ⟨h1, _, _, h3⟩ := h
  simp only [bad1, Bool.or_eq_false_iff, Bool.and_eq_false_imp, bne_iff_ne, ne_eq, bne_eq_false_iff_eq] at h1
  obtain ⟨hb, hd, hp⟩ := h1
  have hbase : s.base = 10 ∨ s.base = 20 := by
    by_cases e : s.base = 10
    · exact .inl e
    · exact .inr (hb e)
  simp only [good3, Bool.and_eq_true, decide_eq_true_eq] at h3
  obtain ⟨h4, h5, _⟩ := h3
  have hq : w6 (s.base.tdiv 2) * 2 = s.base := by rcases hbase with e | e <;> rw [e] <;> rfl
  exact ⟨hbase, hd, by omega, h4, by omega⟩
section
variable {s : NSys}
theorem pow_le (hg : Good s) (i : Nat) : 1 ≤ s.base ^ i := by
  have h : (0 : Int) < s.base ^ i := Int.pow_pos (by have := hg.base; omega)
  omega
theorem pow_mono (hg : Good s) {i j : Nat} (h : i ≤ j) : s.base ^ i ≤ s.base ^ j := by
  obtain ⟨d, rfl⟩ : ∃ d, j = i + d := ⟨j - i, by omega⟩
  rw [Int.pow_add]
  have h1 := pow_le hg d
  have h2 := pow_le hg i
  have := Int.mul_le_mul_of_nonneg_left h1 (show 0 ≤ s.base ^ i by omega)
  rw [Int.mul_one] at this
  exact this
theorem say_digit (hg : Good s) (k : Nat) {n : Int} (h0 : 0 ≤ n) (hn : n < s.base) : ∃ l, sayO s (k + 1) n = some l := by
  have hl : n.toNat < s.digits.length := by have := hg.dig; omega
  simp only [sayO]
  rw [if_pos hn, if_pos h0, List.getElem?_eq_getElem hl]
  exact ⟨_, rfl⟩
theorem powK_le (s : NSys) (n : Int) : powK s n ≤ 2 := by
  unfold powK
  split
  · omega
  · split <;> omega
/-- The place of a number between the base and 9999. -/
theorem powK_spec (hg : Good s) {n : Int} (hb : s.base ≤ n) (hn : n ≤ 9999) : s.base ^ (powK s n + 1) ≤ n ∧ n < s.base ^ (powK s n + 2) := by
  unfold powK
  split
  · rename_i h
    simp only [Nat.zero_add]
    exact ⟨by rw [Int.pow_one]; exact hb, h⟩
  · rename_i h
    split
    · rename_i h3
      exact ⟨by simpa using h, h3⟩
    · rename_i h3
      refine ⟨by simpa using h3, ?_⟩
      rcases hg.base with e | e <;> rw [e] <;> (show n < _) <;> omega
/-- Quotient and remainder. -/
structure Parts (s : NSys) (n p q r : Int) : Prop where
  eq : n = q * p + r
  q1 : 1 ≤ q
  q2 : q < s.base
  r0 : 0 ≤ r
  r1 : r < p
theorem parts (hg : Good s) {n : Int} (hb : s.base ≤ n) (hn : n ≤ 9999) :
    Parts s n (s.base ^ (powK s n + 1)) (w6 (n.tdiv (s.base ^ (powK s n + 1)))) (n.tmod (s.base ^ (powK s n + 1))) := by
  obtain ⟨h1, h2⟩ := powK_spec hg hb hn
  have h0 : 0 ≤ n := by have := hg.base; omega
  have hp : 0 < s.base ^ (powK s n + 1) := Int.lt_of_lt_of_le (by decide) (pow_le hg _)
  rw [Int.tdiv_eq_ediv_of_nonneg h0, Int.tmod_eq_emod_of_nonneg h0]
  have hpow : s.base ^ (powK s n + 2) = s.base * s.base ^ (powK s n + 1) := by rw [Int.pow_succ, Int.mul_comm]
  generalize s.base ^ (powK s n + 1) = p at *
  have q0 : 1 ≤ n / p := (Int.le_ediv_iff_mul_le hp).2 (by omega)
  have qb : n / p < s.base := Int.ediv_lt_of_lt_mul hp (by rw [← hpow]; exact h2)
  have hbase := hg.base
  rw [w6_id (by omega) (by omega)]
  refine ⟨?_, q0, qb, Int.emod_nonneg _ (by omega), Int.emod_lt_of_pos _ hp⟩
  have := Int.mul_ediv_add_emod n p
  rw [Int.mul_comm p] at this
  omega
theorem pow_at (hg : Good s) {i : Nat} (hi : i ≤ 2) : ∃ w, s.powers[i]? = some w := by
  have : i < s.powers.length := by have := hg.pow; omega
  exact ⟨_, List.getElem?_eq_getElem this⟩
theorem lessL_iff (hg : Good s) {q p r : Int} (hq : q < 100) (hq0 : 0 ≤ q) (hp : p ≤ 1000000) (hp0 : 0 ≤ p) : lessL s q p r = true ↔ 0 < s.sub ∧ p - s.sub ≤ r ∧ q + 1 < s.base := by
  have := hg.sub0
  have := hg.sub1
  have := hg.base
  unfold lessL
  rw [w6_id (by omega) (by omega), w6_id (by omega) (by omega)]
  simp
theorem base_pow (hg : Good s) : ∀ {i : Nat}, i ≤ 2 → s.base ≤ s.base ^ (i + 1) ∧ s.base ^ (i + 1) ≤ 8000 := by
  intro i hi
  have h : i = 0 ∨ i = 1 ∨ i = 2 := by omega
  rcases hg.base with e | e <;> rw [e] <;> rcases h with rfl | rfl | rfl <;> decide
/-- A multiple of a power. -/
theorem say_mult (hg : Good s) (k : Nat) {q : Int} {i : Nat} (hi : i ≤ 2) (hq1 : 1 ≤ q) (hq2 : q < s.base) : ∃ l, sayO s (k + 2) (q * s.base ^ (i + 1)) = some l := by
  obtain ⟨b1, b2⟩ := base_pow hg hi
  have hbase := hg.base
  have hp0 : 0 < s.base ^ (i + 1) := by omega
  have hpb : s.base ≤ q * s.base ^ (i + 1) := by
    have : 1 * s.base ^ (i + 1) ≤ q * s.base ^ (i + 1) := Int.mul_le_mul_of_nonneg_right hq1 (by omega)
    omega
  have hup : q * s.base ^ (i + 1) < s.base ^ (i + 2) := by
    have : s.base ^ (i + 2) = s.base * s.base ^ (i + 1) := by rw [Int.pow_succ, Int.mul_comm]
    rw [this]
    exact Int.mul_lt_mul_of_pos_right hq2 hp0
  have hK : powK s (q * s.base ^ (i + 1)) = i := by
    have h : i = 0 ∨ i = 1 ∨ i = 2 := by omega
    have hlo : s.base ^ (i + 1) ≤ q * s.base ^ (i + 1) := by
      have : 1 * s.base ^ (i + 1) ≤ q * s.base ^ (i + 1) := Int.mul_le_mul_of_nonneg_right hq1 (by omega)
      omega
    generalize q * s.base ^ (i + 1) = n at *
    unfold powK
    rcases h with rfl | rfl | rfl
    · rw [if_pos hup]
    · rw [if_neg (by simpa using hlo), if_pos hup]
    · have : ¬ s.base ^ 2 > n := by
        have h23 : s.base ^ 2 ≤ s.base ^ 3 := by rcases hbase with e | e <;> rw [e] <;> decide
        have : s.base ^ 3 ≤ n := hlo
        omega
      rw [if_neg this, if_neg (by simpa using hlo)]
  have hq : w6 ((q * s.base ^ (i + 1)).tdiv (s.base ^ (i + 1))) = q := by
    rw [Int.mul_tdiv_cancel _ (by omega)]
    exact w6_id (by omega) (by omega)
  have hr : (q * s.base ^ (i + 1)).tmod (s.base ^ (i + 1)) = 0 := Int.mul_tmod_left _ _
  obtain ⟨w, hw⟩ := pow_at hg hi
  obtain ⟨a, ha⟩ := say_digit hg k (n := q) (by omega) hq2
  have hless : lessL s q (s.base ^ (i + 1)) 0 = false := by
    rw [Bool.eq_false_iff]
    intro h
    have := (lessL_iff hg (by omega) (by omega) (by omega) (by omega)).1 h
    have := hg.sub1
    omega
  rw [sayO]
  simp only [hK, hq, hr, hless, hw, ha]
  rw [if_neg (by omega)]
  simp only [Bool.false_eq_true, if_false, beq_self_eq_true, if_true]
  split
  · rename_i h
    split at h <;> cases h
  · exact ⟨_, rfl⟩
theorem say_some (hg : Good s) : ∀ (j k : Nat) {n : Int}, 0 ≤ n → n ≤ 9999 → n < s.base ^ (j + 1) → ∃ l, sayO s (k + j + 3) n = some l
  | 0, k, n, h0, h9, hn => say_digit hg (k + 2) h0 (by rw [Nat.zero_add, Int.pow_one] at hn; exact hn)
  | j + 1, k, n, h0, h9, hn => by
    by_cases hb : n < s.base
    · exact say_digit hg _ h0 hb
    · have hp := parts hg (by omega) h9
      obtain ⟨b1, b2⟩ := base_pow hg (powK_le s n)
      have hbase := hg.base
      obtain ⟨w, hw⟩ := pow_at hg (powK_le s n)
      obtain ⟨k1, k2⟩ := powK_spec hg (by omega) h9
      have hle : powK s n ≤ j := by
        rcases Nat.lt_or_ge j (powK s n) with h | h
        · have := pow_mono hg (show j + 1 + 1 ≤ powK s n + 1 by omega)
          omega
        · exact h
      have hrj : n.tmod (s.base ^ (powK s n + 1)) < s.base ^ (j + 1) := by
        have h3 := hp.r1
        have := pow_mono hg (show powK s n + 1 ≤ j + 1 by omega)
        omega
      generalize hP : s.base ^ (powK s n + 1) = p at *
      generalize hQ : w6 (n.tdiv p) = q at *
      generalize hR : n.tmod p = r at *
      obtain ⟨a, ha⟩ := say_digit hg (k + j + 2) (n := q) (by have := hp.q1; omega) hp.q2
      obtain ⟨c, hc⟩ := say_some hg j k (n := r) hp.r0 (by have := hp.r1; omega) hrj
      have hs0 := hg.sub0
      have hs1 := hg.sub1
      have q1 := hp.q1
      have q2 := hp.q2
      have r0 := hp.r0
      have r1 := hp.r1
      have e3 : k + (j + 1) + 3 = (k + j + 3) + 1 := by omega
      rw [e3, sayO]
      rw [if_neg hb]
      simp only [hP, hQ, hR, hw, ha, hc]
      split
      · rename_i hl
        have hl := (lessL_iff hg (by omega) (by omega) (by omega) (by omega)).1 hl
        obtain ⟨x, hx⟩ := say_digit hg (k + j + 2) (n := p - r) (by omega) (by omega)
        have e1 : w6 (p - r) = p - r := w6_id (by omega) (by omega)
        have e2 : w6 (q + 1) = q + 1 := w6_id (by omega) (by omega)
        have hm : 0 ≤ (q + 1) * p ∧ (q + 1) * p ≤ 20 * 8000 := by
          refine ⟨Int.mul_nonneg (by omega) (by omega), ?_⟩
          exact Int.mul_le_mul (by omega) (by omega) (by omega) (by omega)
        have e4 : w6 ((q + 1) * p) = (q + 1) * p := w6_id (by omega) (by omega)
        obtain ⟨y, hy⟩ := say_mult hg (k + j + 1) (q := q + 1) (powK_le s n) (by omega) hl.2.2
        rw [hP] at hy
        rw [e1, e2, e4, hx, hy]
        exact ⟨_, rfl⟩
      · split
        · rename_i h
          split at h <;> cases h
        · split
          · exact ⟨_, rfl⟩
          · exact ⟨_, rfl⟩
/-- Every number from 0 to 9999 has words. -/
theorem say_all9 (hg : Good s) {n : Int} (h0 : 0 ≤ n) (h9 : n ≤ 9999) : ∃ l, sayO s 6 n = some l := by
  have := say_some hg 3 0 h0 h9 (by rcases hg.base with e | e <;> rw [e] <;> (show n < _) <;> omega)
  exact this
end
end Go.Proofs.Num
end
/- Numeral: Words, the program's. -/
section
open Go Go.Vm Go.Proofs
namespace Go.Proofs.Num
theorem call_ext {X : Ext} {call : Caller} {f : FuncId} {vs : List AV} {r : AV} {σ : List Ob} {ro : Nat} {dr : Bool} (h1 : X.pureFn f = none) (h2 : X.stFn f = none) (hl : AV.ltAll 0 vs = true) (h : call f vs [] 0 = some (r, [])) (hp : r.pure = true) (ha : X.adopt f = false) :
    callv X call dr f vs σ ro = some (unfr r, σ) := by
  unfold callv
  rw [h1, h2]
  simp only [hl, if_true, h, hp, ha]
  simp
theorem unfr_lst (l : List ByteArray) : unfr (.list .fresh l.length 1 (l.map .str)) = lst l := rfl
theorem unfr_joinV (s : NSys) : unfr (joinV s) = joinV s := by unfold joinV; split <;> rfl
theorem pure_joinV (s : NSys) : (joinV s).pure = true := by unfold joinV; split <;> rfl
/-- Words' callees, as say needs them. -/
theorem sayCall {l : List Nat} (hl : memN 34 l = false ∧ memN 35 l = false ∧ memN 36 l = false ∧ memN 37 l = false) {T : Vm.Spec} (t34 : ∀ vs, T 34 vs = powS (roAll vs)) (t35 : ∀ vs, T 35 vs = lessS (roAll vs)) (t36 : ∀ vs, T 36 vs = collS' vs) (t37 : ∀ vs, T 37 vs = joiS (roAll vs)) {s : NSys} (hb : s.base = 10 ∨ s.base = 20)
    (call : Caller) (hc : ∀ f vs σ ro r, callerOf T f vs σ ro = some r → call f vs σ ro = some r) : SayCall (X15 l) call s 0 := by
  have key : ∀ f vs r, T f vs = some r → call f vs [] 0 = some (r, []) := by
    intro f vs r h
    apply hc
    simp only [callerOf, h]
  refine ⟨?_, ?_, ?_, ?_, ?_⟩
  · intro n ro
    have h : T 34 [AV.agg (sysC s), i6 n] = some (.tup [i6 (s.base ^ (powK s n + 1)), i6 (powK s n)]) := by
      have e2 : roAll [AV.agg (sysC s), i6 n] = [AV.agg (sysC s), i6 n] := by simp [roAll, roA, roAll_sysC]
      rw [t34, e2]
      simp only [powS, sysO_sysC]
      rw [if_pos hb]
    exact call_ext (X := X15 l) rfl rfl (by simp [AV.ltAll, AV.lt, lt_sysC]) (key _ _ _ h) rfl hl.1
  · intro q p r ro
    have h : T 35 [AV.agg (sysC s), i6 q, i6 p, i6 r] = some (.bool (lessL s q p r)) := by
      have e2 : roAll [AV.agg (sysC s), i6 q, i6 p, i6 r] = [AV.agg (sysC s), i6 q, i6 p, i6 r] := by simp [roAll, roA, roAll_sysC]
      rw [t35, e2]
      simp only [lessS, sysO_sysC]
    exact call_ext (X := X15 l) rfl rfl (by simp [AV.ltAll, AV.lt, lt_sysC]) (key _ _ _ h) rfl hl.2.1
  · intro ro
    have h : T 37 [AV.agg (sysC s)] = some (joinV s) := by
      rw [t37, roAll_sys]
      simp only [joiS, sysO_sysC]
    have := call_ext (X := X15 l) (dr := true) (σ := sayS s) (ro := ro) rfl rfl (lt_sys s) (key _ _ _ h) (pure_joinV s) hl.2.2.2
    rw [unfr_joinV] at this
    exact this
  · intro ps ls dr ro hlen hlt h1 h2 h3 h4 h5
    have h : T 36 [AV.list .clip ls.length 1 ps] = some (.list .fresh (joinL ls).length 1 ((joinL ls).map .str)) := by
      rw [t36]
      simp only [collS', isSOs_of hlen h5]
      rw [if_pos ⟨trivial, h1, by omega, headNe_of h3 h4⟩]
    exact call_ext (X := X15 l) rfl rfl (by simpa [AV.ltAll, AV.lt] using hlt) (key _ _ _ h) (by simp only [AV.pure, AV.lt]; exact lt_strs 0 _) hl.2.2.1
  · intro n l dr ro h
    simp [sayO] at h
/-! ### Words -/
def wordsO (s : NSys) (n : Int) : Option (List ByteArray × Int) :=
  if validL s = false ∨ n < 0 then some ([], 1) else if n > 9999 then some ([], 2) else match sayO s 6 n with
    | some l => some (l, 0)
    | none => none
def wordsS : List AV → Option AV
  | [.agg cs, .int .i64 n] => match sysO cs with
    | some s => if okS s then (match wordsO s n with
      | some (l, e) => some (.tup [lst l, i6 e])
      | none => none) else none
    | none => none
  | _ => none
def T10 : Vm.Spec := addS (TR 6) 16 fun vs => wordsS (roAll vs)
section
variable [Fixed]
variable (hX : ∀ l, ExtOk Tryd.prog (X15 l))
include hX
/-- nil, told as a list by value. -/
theorem nil_tup {f : FuncId} {vs : List AV} {σ : List Ob} {ro : Nat} {e : Int} {σ' : List Ob} (h : CallAt Tryd.prog f vs σ ro (.tup [.list .nil 0 0 [], i6 e]) σ') : CallAt Tryd.prog f vs σ ro (.tup [lst [], i6 e]) σ' := by
  refine ⟨h.1, fun C w us hσ hs hro hrep => Calls.mono (h.2 C w us hσ hs hro hrep) ?_⟩
  rintro e w' ⟨u, C', h1, h2, h3, h4, h5, h6⟩
  refine ⟨u, C', h1, h2, h3, h4, ?_, by simp [Fresh]⟩
  have := roA_rep C' w' _ _ h5
  exact (by simpa [roA, roAll] using this : Rep C' w' (AV.tup [AV.list LK.ro 0 1 [], i6 _]) u)
theorem words_ok : SpecOk Tryd.prog T10 := by
  have hT := TR_ok hX 6 (by omega)
  refine hT.addRo ?_
  intro vs r h
  unfold wordsS at h
  split at h
  · split at h
    · rename_i cs n x s hs
      have e := sysO_eq hs
      subst e
      split at h
      · rename_i hk
        have hv : ∀ {σ : List Ob} {ro : Nat}, callv (X15 []) (callerOf (TR 6)) false 22 [AV.agg (sysC s)] σ ro = some (bo (validL s), σ) := call_valid hX (fun _ => rfl) rfl hk
        split at h
        · rename_i l c hw
          simp only [Option.some.injEq] at h
          subst h
          unfold wordsO at hw
          split at hw
          · rename_i hbad
            simp only [Option.some.injEq, Prod.mk.injEq] at hw
            obtain ⟨rfl, rfl⟩ := hw
            cases hvv : validL s with
            | false =>
              rw [hvv] at hv
              exact nil_tup hX (run_at (hX []) hT rfl Tryd.func16 rfl rfl (words_pf s n (X15 []) (callerOf (TR 6)) 1 hv))
            | true =>
              rw [hvv] at hv hbad
              have hn : n < 0 := by simpa using hbad
              exact nil_tup hX (run_at (hX []) hT rfl Tryd.func16 rfl rfl (words_ptt s n (X15 []) (callerOf (TR 6)) 1 hv (decide_eq_true hn)))
          · rename_i hgood
            have hvv : validL s = true := by
              cases e : validL s with
              | true => rfl
              | false => exact absurd (.inl e) hgood
            have hn : ¬ n < 0 := fun h => hgood (.inr h)
            rw [hvv] at hv
            split at hw
            · rename_i hbig
              simp only [Option.some.injEq, Prod.mk.injEq] at hw
              obtain ⟨rfl, rfl⟩ := hw
              exact nil_tup hX (run_at (hX []) hT rfl Tryd.func16 rfl rfl (words_ptft s n (X15 []) (callerOf (TR 6)) 1 hv (decide_eq_false hn) (decide_eq_true hbig)))
            · rename_i hbig
              split at hw
              · rename_i l' hl
                simp only [Option.some.injEq, Prod.mk.injEq] at hw
                obtain ⟨rfl, rfl⟩ := hw
                have hb := (good_of hvv).base
                have hB : ∀ call, (∀ f vs σ ro r, callerOf (TR 6) f vs σ ro = some r → call f vs σ ro = some r) → SayCall (X15 []) call s 0 :=
                  fun call hc => sayCall (l := []) ⟨rfl, rfl, rfl, rfl⟩ (T := TR 6) (fun _ => rfl) (fun _ => rfl) (fun _ => rfl) (fun _ => rfl) hb call hc
                obtain ⟨call, hc, hext, hsay⟩ := caller_more (callerOf_ok hT) (S := sayS s) (fun f vs ro => rfl) (sayF s 6) (by
                  intro f vs r ro hr
                  unfold sayF at hr
                  split at hr
                  · split at hr
                    · rename_i a ha
                      simp only [Option.some.injEq] at hr
                      subst hr
                      exact say_all (hX []) hT hb rfl rfl rfl hB 6 (by omega) _ _ ro ha
                    · cases hr
                  · cases hr)
                have h33 : callv (X15 []) call false 33 (sayA n) (sayS s) 0 = some (lst l', sayS s) := callv_say rfl rfl fun ro => by
                  apply hsay
                  simp only [sayF, sayA, hl]
                have h22 : callv (X15 []) call false 22 [AV.agg (sysC s)] [Ob.cells (sysC s)] 0 = some (bo true, [Ob.cells (sysC s)]) := by
                  have ht : TR 6 22 [AV.agg (sysC s)] = some (.bool (validL s)) := (show TR 6 22 [AV.agg (sysC s)] = validS (roAll [AV.agg (sysC s)]) from rfl).trans (validS_sys hX hk)
                  have := call_ext (X := X15 []) (call := call) (dr := false) (σ := [Ob.cells (sysC s)]) (ro := 0) rfl rfl (lt_sys s) (hext 22 [AV.agg (sysC s)] [] 0 (.bool (validL s), []) (by simp only [callerOf, ht])) rfl rfl
                  rw [hvv] at this
                  exact this
                have hend : vend1 [] 0 (sayS s) [lst l', i6 0] = some (AV.tup [lst l', i6 0], sayS s) := by
                  have h : AV.thawAll (sayS s) [lst l', i6 0] = some [lst l', i6 0] := by simp [AV.thawAll, AV.thaw, thaw_strs]
                  unfold vend1
                  rw [h]
                  have h2 : AV.ownsAll [lst l', i6 0] = [] := by simp [AV.ownsAll, AV.owns, owns_strs]
                  rw [h2]
                  simp only [freezeIds]
                  rfl
                have hv := words_ptff s n l'.length (l'.map .str) (X15 []) call 1 h22 (decide_eq_false hn) (decide_eq_false hbig) h33 hend
                exact (body_at (hX []) hc rfl Tryd.func16 rfl hv).clean (by simp only [AV.pure, AV.lt, AV.ltAll, lt_strs, Bool.and_self])
              · cases hw
        · cases h
      · cases h
    · cases h
  · cases h
end
end Go.Proofs.Num
end
/- Numeral: the longest. -/
section
open Go Go.Vm Go.Proofs
namespace Go.Proofs.Num
def fg24 : Nat → List Nat
  | 1005 => [6]
  | _ => []

def loS0 (s : NSys) (n : Int) (B : Nat → Int) (M : Nat → Int) (i0 : Nat) : St :=
  stOf 36 [8, 9, 10, 18, 19, 20, 21, 22, 23, 24, 25, 26, 27, 28, 29, 30, 31, 32, 33] [(0, AV.agg (sysC s)), (1, i6 n), (2, AV.ref 0 0), (4, i6 0), (5, i6 0), (6, i6 (B i0)), (7, i6 (M i0)), (11, AV.agg (sysC s)), (12, bo true), (13, bo false), (14, i6 n), (15, i6 (if false = true then if n < 9999 then 9999 else n else if 9999 < n then 9999 else n)), (16, i6 (w6 ((if false = true then if n < 9999 then 9999 else n else if 9999 < n then 9999 else n) + 1))), (17, i6 (↑i0 : Int))] [Ob.cells (sysC s)]
def loS1 (s : NSys) (n : Int) (e : Int) (l : List ByteArray) (M : Nat → Int) (i0 : Nat) : St :=
  stOf 36 [] [(0, AV.agg (sysC s)), (1, i6 n), (2, AV.ref 0 0), (4, i6 0), (5, i6 0), (6, i6 (↑i0 : Int)), (7, i6 (↑(List.length l) : Int)), (8, i6 (↑i0 : Int)), (9, lro (List.length l) 1 (List.map st l)), (10, i6 e), (11, AV.agg (sysC s)), (12, bo true), (13, bo false), (14, i6 n), (15, i6 (if false = true then if n < 9999 then 9999 else n else if 9999 < n then 9999 else n)), (16, i6 (w6 ((if false = true then if n < 9999 then 9999 else n else if 9999 < n then 9999 else n) + 1))), (17, i6 (w6 ((↑i0 : Int) + 1))), (18, bo true), (19, i6 (↑i0 : Int)), (20, AV.tup [lro (List.length l) 1 (List.map st l), i6 e]), (21, AV.agg (sysC s)), (22, i6 (↑i0 : Int)), (23, AV.tup [lro (List.length l) 1 (List.map st l), i6 e]), (24, lro (List.length l) 1 (List.map st l)), (25, i6 e), (26, lro (List.length l) 1 (List.map st l)), (27, i6 (↑(List.length l) : Int)), (28, i6 (M i0)), (29, bo true), (30, i6 (↑i0 : Int)), (31, lro (List.length l) 1 (List.map st l)), (32, i6 (↑(List.length l) : Int)), (33, i6 (w6 ((↑i0 : Int) + 1)))] [Ob.cells (sysC s)]
def loS2 (s : NSys) (n : Int) (e : Int) (l : List ByteArray) (B : Nat → Int) (M : Nat → Int) (i0 : Nat) : St :=
  stOf 36 [30, 31, 32] [(0, AV.agg (sysC s)), (1, i6 n), (2, AV.ref 0 0), (4, i6 0), (5, i6 0), (6, i6 (B i0)), (7, i6 (M i0)), (8, i6 (↑i0 : Int)), (9, lro (List.length l) 1 (List.map st l)), (10, i6 e), (11, AV.agg (sysC s)), (12, bo true), (13, bo false), (14, i6 n), (15, i6 (if false = true then if n < 9999 then 9999 else n else if 9999 < n then 9999 else n)), (16, i6 (w6 ((if false = true then if n < 9999 then 9999 else n else if 9999 < n then 9999 else n) + 1))), (17, i6 (w6 ((↑i0 : Int) + 1))), (18, bo true), (19, i6 (↑i0 : Int)), (20, AV.tup [lro (List.length l) 1 (List.map st l), i6 e]), (21, AV.agg (sysC s)), (22, i6 (↑i0 : Int)), (23, AV.tup [lro (List.length l) 1 (List.map st l), i6 e]), (24, lro (List.length l) 1 (List.map st l)), (25, i6 e), (26, lro (List.length l) 1 (List.map st l)), (27, i6 (↑(List.length l) : Int)), (28, i6 (M i0)), (29, bo false), (33, i6 (w6 ((↑i0 : Int) + 1)))] [Ob.cells (sysC s)]
def loS3 (s : NSys) (n : Int) (B : Nat → Int) (M : Nat → Int) (i0 : Nat) : St :=
  stOf 36 [8, 9, 10, 19, 20, 21, 22, 23, 24, 25, 26, 27, 28, 29, 30, 31, 32, 33] [(0, AV.agg (sysC s)), (1, i6 n), (2, AV.ref 0 0), (4, i6 0), (5, i6 0), (6, i6 (B i0)), (7, i6 (M i0)), (11, AV.agg (sysC s)), (12, bo true), (13, bo false), (14, i6 n), (15, i6 (if false = true then if n < 9999 then 9999 else n else if 9999 < n then 9999 else n)), (16, i6 (w6 ((if false = true then if n < 9999 then 9999 else n else if 9999 < n then 9999 else n) + 1))), (17, i6 (↑i0 : Int)), (18, bo false)] [Ob.cells (sysC s)]
def loS4 (s : NSys) (n : Int) : St :=
  stOf 36 [] [(0, AV.agg (sysC s)), (1, i6 n), (2, AV.ref 0 0), (4, i6 0), (5, i6 0), (6, i6 0), (7, i6 0), (11, AV.agg (sysC s)), (12, bo true), (13, bo false), (14, i6 n), (15, i6 (if false = true then if n < 9999 then 9999 else n else if 9999 < n then 9999 else n)), (16, i6 (w6 ((if false = true then if n < 9999 then 9999 else n else if 9999 < n then 9999 else n) + 1))), (17, i6 0)] [Ob.cells (sysC s)]
theorem lo_r0_tt (s : NSys) (n : Int) (e : Int) (l : List ByteArray) (B : Nat → Int) (M : Nat → Int) (X : Ext) (call : Caller) (lf : Nat) (i0 : Nat)
  (h0 : decide ((↑i0 : Int) < w6 ((if false = true then if n < 9999 then 9999 else n else if 9999 < n then 9999 else n) + 1)) = true)
  (h1 : callv X call false 16 [AV.agg (sysC s), i6 (↑i0 : Int)] [Ob.cells (sysC s)] 0 = some (AV.tup [lro (List.length l) 1 (List.map st l), i6 e], [Ob.cells (sysC s)]))
  (h2 : decide ((↑(List.length l) : Int) > M i0) = true) : vexec Tryd.prog X call lf 0 fg24 (loopN Tryd.f24 0) (loS0 s n B M i0) = some (Ex.normal, (loS1 s n e l M i0)) :=
  around_sound (ans := [(1, Ans.b true), (9, Ans.v (AV.tup [lro (List.length l) 1 (List.map st l), i6 e])), (19, Ans.b true)]) (by kernel_rfl) (And.intro h0 (And.intro h1 (And.intro h2 trivial)))
theorem lo_r0_tf (s : NSys) (n : Int) (e : Int) (l : List ByteArray) (B : Nat → Int) (M : Nat → Int) (X : Ext) (call : Caller) (lf : Nat) (i0 : Nat)
  (h0 : decide ((↑i0 : Int) < w6 ((if false = true then if n < 9999 then 9999 else n else if 9999 < n then 9999 else n) + 1)) = true)
  (h1 : callv X call false 16 [AV.agg (sysC s), i6 (↑i0 : Int)] [Ob.cells (sysC s)] 0 = some (AV.tup [lro (List.length l) 1 (List.map st l), i6 e], [Ob.cells (sysC s)]))
  (h2 : decide ((↑(List.length l) : Int) > M i0) = false) : vexec Tryd.prog X call lf 0 fg24 (loopN Tryd.f24 0) (loS0 s n B M i0) = some (Ex.normal, (loS2 s n e l B M i0)) :=
  around_sound (ans := [(1, Ans.b true), (9, Ans.v (AV.tup [lro (List.length l) 1 (List.map st l), i6 e])), (19, Ans.b false)]) (by kernel_rfl) (And.intro h0 (And.intro h1 (And.intro h2 trivial)))
theorem lo_r0_f (s : NSys) (n : Int) (B : Nat → Int) (M : Nat → Int) (X : Ext) (call : Caller) (lf : Nat) (i0 : Nat)
  (h0 : decide ((↑i0 : Int) < w6 ((if false = true then if n < 9999 then 9999 else n else if 9999 < n then 9999 else n) + 1)) = false) : vexec Tryd.prog X call lf 0 fg24 (loopN Tryd.f24 0) (loS0 s n B M i0) = some (Ex.exit 0, (loS3 s n B M i0)) :=
  around_sound (ans := [(1, Ans.b false)]) (by kernel_rfl) (And.intro h0 trivial)
theorem lo_ptlf (s : NSys) (n : Int) (B : Nat → Int) (M : Nat → Int) (X : Ext) (call : Caller) (lf : Nat) (i0 : Nat)
  (h0 : callv X call false 22 [AV.agg (sysC s)] [Ob.cells (sysC s)] 0 = some (bo true, [Ob.cells (sysC s)]))
  (h1 : vexec Tryd.prog X call lf 0 fg24 (Code.loop (loopN Tryd.f24 0)) (loS4 s n) = some (Ex.exit 0, (loS3 s n B M i0))) : vbody Tryd.prog X call lf fg24 Tryd.f24 (codeOf Tryd.f24) [AV.agg (sysC s), i6 n] [] 0 = some (AV.tup [i6 (B i0), i6 (M i0)], [Ob.cells (sysC s)]) :=
  along_sound (ans := [(9, Ans.v (bo true)), (17, Ans.l (Ex.exit 0) (loS3 s n B M i0))]) (by kernel_rfl) (And.intro h0 (And.intro h1 trivial))
theorem lo_pf (s : NSys) (n : Int) (X : Ext) (call : Caller) (lf : Nat)
  (h0 : callv X call false 22 [AV.agg (sysC s)] [Ob.cells (sysC s)] 0 = some (bo false, [Ob.cells (sysC s)])) : vbody Tryd.prog X call lf fg24 Tryd.f24 (codeOf Tryd.f24) [AV.agg (sysC s), i6 n] [] 0 = some (AV.tup [i6 0, i6 0], [Ob.cells (sysC s)]) :=
  along_sound (ans := [(9, Ans.v (bo false))]) (by kernel_rfl) (And.intro h0 trivial)
theorem lim_pt (n : Int) (X : Ext) (call : Caller) (lf : Nat)
  (h0 : decide (n > 9999) = true) : vbody Tryd.prog X call lf noFg Tryd.f25 (codeOf Tryd.f25) [i6 n] [] 0 = some (i6 9999, []) :=
  along_sound (ans := [(4, Ans.b true)]) (by kernel_rfl) (And.intro h0 trivial)
theorem lim_pf (n : Int) (X : Ext) (call : Caller) (lf : Nat)
  (h0 : decide (n > 9999) = false) : vbody Tryd.prog X call lf noFg Tryd.f25 (codeOf Tryd.f25) [i6 n] [] 0 = some (i6 n, []) :=
  along_sound (ans := [(4, Ans.b false)]) (by kernel_rfl) (And.intro h0 trivial)

def limO (n : Int) : Int := if 9999 < n then 9999 else n
def longO (s : NSys) : Nat → Int × Int
  | 0 => (0, 0)
  | i + 1 => match sayO s 6 (i : Int) with
    | some l => if (l.length : Int) > (longO s i).2 then ((i : Int), (l.length : Int)) else longO s i
    | none => longO s i
def longestO (s : NSys) (n : Int) : Int × Int := if validL s then longO s (limO n + 1).toNat else (0, 0)
def longestS : List AV → Option AV
  | [.agg cs, .int .i64 n] => match sysO cs with
    | some s => if okS s = true ∧ -9223372036854775808 ≤ n then some (.tup [i6 (longestO s n).1, i6 (longestO s n).2]) else none
    | none => none
  | _ => none
def limS : List AV → Option AV
  | [.int .i64 n] => some (i6 (limO n))
  | _ => none
def T11 : Vm.Spec := addS (addS T10 24 fun vs => longestS (roAll vs)) 25 limS
abbrev D24 : List Nat := [33, 6, 32, 31, 30, 29, 28, 27, 26, 10, 9, 25, 24, 20, 23, 22, 21, 8, 19, 18]
theorem dead24 : deadK fg24 (loopN Tryd.f24 0) = [33, 32, 31, 30, 29, 28, 27, 26, 10, 9, 25, 24, 20, 23, 22, 21, 8, 19, 18] := by kernel_rfl
/-- Words, called. -/
theorem call_words {T : Vm.Spec} (hT : ∀ vs, T 16 vs = wordsS (roAll vs)) {l : List Nat} (hl : memN 16 l = false) {s : NSys} (h : okS s = true) {n c : Int} {ws : List ByteArray} (hw : wordsO s n = some (ws, c)) {dr : Bool} {σ : List Ob} {ro : Nat} :
    callv (X15 l) (callerOf T) dr 16 [AV.agg (sysC s), i6 n] σ ro = some (.tup [lst ws, i6 c], σ) := by
  have e2 : roAll [AV.agg (sysC s), i6 n] = [AV.agg (sysC s), i6 n] := by simp [roAll, roA, roAll_sysC]
  have ht : T 16 [AV.agg (sysC s), i6 n] = some (.tup [lst ws, i6 c]) := by
    rw [hT, e2]
    simp only [wordsS, sysO_sysC, h, if_true, hw]
  have := call_spec (X := X15 l) (T := T) (f := 16) (dr := dr) (σ := σ) (ro := ro) rfl rfl (by simp [AV.ltAll, AV.lt, lt_sysC]) ht (by simp only [AV.pure, AV.lt, AV.ltAll, lt_strs, Bool.and_self])
  rw [this]
  have e : (X15 l).adopt 16 = false := hl
  rw [e]
  cases dr <;> rfl
theorem words_some {s : NSys} (hv : validL s = true) {n : Int} (h0 : 0 ≤ n) (h9 : n ≤ 9999) : ∃ l, sayO s 6 n = some l ∧ wordsO s n = some (l, 0) := by
  obtain ⟨l, hl⟩ := say_all9 (good_of hv) h0 h9
  refine ⟨l, hl, ?_⟩
  unfold wordsO
  rw [if_neg (by rw [hv]; simp; omega), if_neg (by omega), hl]
theorem lim_if (n : Int) : (if false = true then if n < 9999 then 9999 else n else if 9999 < n then 9999 else n) = limO n := rfl
section
variable [Fixed]
variable (hX : ∀ l, ExtOk Tryd.prog (X15 l))
include hX
theorem longest_run {s : NSys} (hk : okS s = true) {n : Int} (hn : -9223372036854775808 ≤ n) : vbody Tryd.prog (X15 []) (callerOf T10) 10001 fg24 Tryd.f24 (codeOf Tryd.f24) [AV.agg (sysC s), i6 n] [] 0 = some (AV.tup [i6 (longestO s n).1, i6 (longestO s n).2], [Ob.cells (sysC s)]) := by
  have hv : ∀ {σ : List Ob} {ro : Nat}, callv (X15 []) (callerOf T10) false 22 [AV.agg (sysC s)] σ ro = some (bo (validL s), σ) := call_valid hX (fun _ => rfl) rfl hk
  unfold longestO
  cases hvv : validL s with
  | false =>
    rw [hvv] at hv
    exact lo_pf s n (X15 []) (callerOf T10) 10001 hv
  | true =>
    rw [hvv] at hv
    rw [if_pos rfl]
    have hlim : limO n ≤ 9999 := by unfold limO; split <;> omega
    have hlim2 : -9223372036854775808 ≤ limO n := by unfold limO; split <;> omega
    have hw : w6 (limO n + 1) = limO n + 1 := w6_id (by omega) (by omega)
    have hloop := loop_runK (P := Tryd.prog) (X := X15 []) (call := callerOf T10) (lf := 10001) (ro := 0) (fg := fg24) dead24 (loS0 s n (fun i => (longO s i).1) (fun i => (longO s i).2)) (limO n + 1).toNat (by omega) (S := loS4 s n)
      (by
        unfold loS0 loS4
        show _ = _
        kernel_rfl)
      (fun i hi => by
        obtain ⟨l, hl, hwo⟩ := words_some (n := (i : Int)) hvv (by omega) (by omega)
        have hc := call_words (T := T10) (fun _ => rfl) (l := []) rfl hk hwo (dr := false) (σ := [Ob.cells (sysC s)]) (ro := 0)
        have hlt : decide ((↑i : Int) < w6 ((if false = true then if n < 9999 then 9999 else n else if 9999 < n then 9999 else n) + 1)) = true := by
          rw [lim_if, hw]
          exact decide_eq_true (by omega)
        have e1 : w6 ((i : Int) + 1) = ((i + 1 : Nat) : Int) := wrap_small (by omega)
        cases hb : decide ((↑l.length : Int) > (longO s i).2) with
        | true =>
          refine ⟨_, lo_r0_tt s n 0 l (fun i => (longO s i).1) (fun i => (longO s i).2) (X15 []) (callerOf T10) 10001 i hlt hc hb, ?_⟩
          have e2 : longO s (i + 1) = ((i : Int), (l.length : Int)) := by
            simp only [longO, hl]
            rw [if_pos (of_decide_eq_true hb)]
          unfold loS1 loS0
          simp only [e1, e2]
          show _ = _
          kernel_rfl
        | false =>
          refine ⟨_, lo_r0_tf s n 0 l (fun i => (longO s i).1) (fun i => (longO s i).2) (X15 []) (callerOf T10) 10001 i hlt hc hb, ?_⟩
          have e2 : longO s (i + 1) = longO s i := by
            simp only [longO, hl]
            rw [if_neg (of_decide_eq_false hb)]
          unfold loS2 loS0
          simp only [e1, e2]
          show _ = _
          kernel_rfl)
      (lo_r0_f s n (fun i => (longO s i).1) (fun i => (longO s i).2) (X15 []) (callerOf T10) 10001 (limO n + 1).toNat (by
        rw [lim_if, hw]
        exact decide_eq_false (by omega))) (by simp)
    exact lo_ptlf s n (fun i => (longO s i).1) (fun i => (longO s i).2) (X15 []) (callerOf T10) 10001 (limO n + 1).toNat hv hloop
theorem T11_ok : SpecOk Tryd.prog T11 := by
  refine (SpecOk.addRo (words_ok hX) ?_).add ?_
  · intro vs r h
    unfold longestS at h
    split at h
    · split at h
      · rename_i cs n x s hs
        have e := sysO_eq hs
        subst e
        split at h
        · rename_i hk
          simp only [Option.some.injEq] at h
          subst h
          exact run_at (hX []) (words_ok hX) rfl Tryd.func24 rfl rfl (longest_run hX hk.1 hk.2)
        · cases h
      · cases h
    · cases h
  · intro vs r h
    unfold limS at h
    split at h
    · rename_i n
      simp only [Option.some.injEq] at h
      subst h
      unfold limO
      by_cases hn : 9999 < n
      · rw [if_pos hn]
        exact run_at (hX []) (words_ok hX) rfl Tryd.func25 rfl rfl (lim_pt n (X15 []) (callerOf T10) 1 (decide_eq_true hn))
      · rw [if_neg hn]
        exact run_at (hX []) (words_ok hX) rfl Tryd.func25 rfl rfl (lim_pf n (X15 []) (callerOf T10) 1 (decide_eq_false hn))
    · cases h
end
end Go.Proofs.Num
end
/- The evaluator over specifications: what they don't know is walked. -/
section
namespace Go.Vm
variable [Fixed]
variable {P : Program}
def vcallW (P : Program) (X : Ext) (T : Spec) : Nat → Caller
  | 0 => callerOf T
  | n + 1 => fun f vs σ ro => match callerOf T f vs σ ro with
    | some r => some r
    | none => if X.dom f then match P.funcs[f]? with
      | some fn => match fn.body with
        | some c => vbody P X (vcallW P X T n) 100000 (X.fg f) fn c vs σ ro
        | none => none
      | none => none
      else none
theorem vcallW_ok {X : Ext} (hX : ExtOk P X) {T : Spec} (hT : SpecOk P T) : ∀ n, CallOk P (vcallW P X T n)
  | 0 => callerOf_ok hT
  | n + 1 => by
    intro f vs σ ro r σ' h
    simp only [vcallW] at h
    split at h
    · rename_i x hx
      simp only [Option.some.injEq] at h
      subst h
      exact callerOf_ok hT f vs σ ro r σ' hx
    · split at h
      · rename_i hdom
        split at h
        · rename_i fn hf
          split at h
          · rename_i c hb
            exact body_at hX (vcallW_ok hX hT n) hdom hf hb h
          · cases h
        · cases h
      · cases h
end Go.Vm
end
/- Numeral: the example. -/
section
open Go Go.Vm Go.Proofs
namespace Go.Proofs.Num
def eng : NSys := ⟨10, [ByteArray.mk #[122, 101, 114, 111], ByteArray.mk #[111, 110, 101], ByteArray.mk #[116, 119, 111], ByteArray.mk #[116, 104, 114, 101, 101], ByteArray.mk #[102, 111, 117, 114], ByteArray.mk #[102, 105, 118, 101], ByteArray.mk #[115, 105, 120], ByteArray.mk #[115, 101, 118, 101, 110], ByteArray.mk #[101, 105, 103, 104, 116], ByteArray.mk #[110, 105, 110, 101]],
  [ByteArray.mk #[116, 101, 110], ByteArray.mk #[104, 117, 110, 100, 114, 101, 100], ByteArray.mk #[116, 104, 111, 117, 115, 97, 110, 100]], false, ByteArray.mk #[97, 110, 100], 2, ByteArray.mk #[102, 114, 111, 109], false⟩
theorem eng_ok : okS eng = true := by kernel_rfl
theorem eng_valid : validL eng = true := by kernel_rfl
theorem eng_199 : wordsO eng 199 = some ([ByteArray.mk #[111, 110, 101], ByteArray.mk #[102, 114, 111, 109], ByteArray.mk #[116, 119, 111], ByteArray.mk #[104, 117, 110, 100, 114, 101, 100]], 0) := by kernel_rfl
abbrev eng23L : List ByteArray := [ByteArray.mk #[116, 119, 111], ByteArray.mk #[116, 101, 110], ByteArray.mk #[97, 110, 100], ByteArray.mk #[116, 104, 114, 101, 101]]
theorem eng_23 : wordsO eng 23 = some (eng23L, 0) := by kernel_rfl
theorem eng_long : longestO eng 27 = (11, 4) := by kernel_rfl
def engV : AV := AV.agg [i6 10, AV.list LK.clip 10 1 (eng.digits.map .str), AV.list LK.clip 3 1 (eng.powers.map .str), bo false, st (ByteArray.mk #[97, 110, 100]), i6 2, st (ByteArray.mk #[102, 114, 111, 109]), bo false]
def engS : List AV → Option AV
  | [] => some engV
  | _ => none
def isEng (s : NSys) : Bool := decide (s.base = eng.base) && (decide (s.digits = eng.digits) && (decide (s.powers = eng.powers) && (decide (s.sf = eng.sf) && (decide (s.jo = eng.jo) && (decide (s.sub = eng.sub) && (decide (s.le = eng.le) && decide (s.om = eng.om)))))))
theorem isEng_eq {s : NSys} (h : isEng s = true) : s = eng := by
  simp only [isEng, Bool.and_eq_true, decide_eq_true_eq] at h
  obtain ⟨h1, h2, h3, h4, h5, h6, h7, h8⟩ := h
  cases s
  simp only at h1 h2 h3 h4 h5 h6 h7 h8
  subst h1; subst h2; subst h3; subst h4; subst h5; subst h6; subst h7; subst h8
  rfl
def parseEngS : List AV → Option AV
  | [.agg cs, .list .ro 4 1 ts] => match sysO cs, strsO ts with
    | some s, some l => if isEng s = true ∧ l = eng23L then some (.list .ro 1 1 [i6 23]) else none
    | _, _ => none
  | _ => none
def intsO : List AV → Option (List Int)
  | [] => some []
  | .int .i64 n :: l => match intsO l with
    | some r => some (n :: r)
    | none => none
  | _ => none
theorem intsO_map : ∀ (l : List Int), intsO (l.map i6) = some l
  | [] => rfl
  | s :: l => by simp [intsO, intsO_map l]
theorem intsO_eq : ∀ {cs : List AV} {l : List Int}, intsO cs = some l → cs = l.map i6
  | [], l, h => by simp only [intsO, Option.some.injEq] at h; subst h; rfl
  | c :: cs, l, h => by
    unfold intsO at h
    split at h
    · rename_i e; cases e
    · rename_i s l' e
      simp only [List.cons.injEq] at e
      obtain ⟨rfl, rfl⟩ := e
      split at h
      · rename_i r hr
        simp only [Option.some.injEq] at h
        subst h
        rw [intsO_eq hr]
        rfl
      · cases h
    · cases h
/-- A list of numbers, told somehow. -/
def isIO : AV → Option (List Int)
  | .list _ n sz cs => if n = 0 then some [] else if sz = 1 then (match intsO cs with
    | some l => if n = l.length then some l else none
    | none => none) else none
  | _ => none
theorem isIO_shape {v : AV} {l : List Int} (h : isIO v = some l) : ∃ k sz cs, v = .list k l.length sz cs ∧ (0 < l.length → sz = 1 ∧ cs = l.map i6) := by
  unfold isIO at h
  split at h
  · split at h
    · rename_i e
      simp only [Option.some.injEq] at h
      subst h; subst e
      exact ⟨_, _, _, rfl, fun h => by simp at h⟩
    · split at h
      · rename_i e
        subst e
        split at h
        · rename_i l' hl
          split at h
          · rename_i e
            simp only [Option.some.injEq] at h
            subst h; subst e
            exact ⟨_, _, _, rfl, fun _ => ⟨rfl, intsO_eq hl⟩⟩
          · cases h
        · cases h
      · cases h
  · cases h
def intsS : List AV → Option AV
  | [a, b] => match isIO a, isIO b with
    | some l, some m => if l.length ≤ 140737488355328 then some (.bool (intsL l m)) else none
    | _, _ => none
  | _ => none
def awakeS : List AV → Option AV
  | [] => some (.bool true)
  | _ => none
def T12 : Vm.Spec := addS (addS (addS T11 32 engS) 19 intsS) 20 fun vs => parseEngS (roAll vs)
def T13 : Vm.Spec := addS T12 15 awakeS
def fstO : Option (AV × List Ob) → Option AV
  | some (r, _) => some r
  | none => none
theorem parse_eng [Fixed] : fstO (vbody Tryd.prog (X15 [39]) (vcallW Tryd.prog (X15 [39]) T11 11) 1000 noFg Tryd.f20 (codeOf Tryd.f20) [.agg (sysC eng), lst eng23L] [] 0) = some (.list .ro 1 1 [i6 23]) := by kernel_rfl
theorem awake_run : fstO (vbody Tryd.prog (X15 []) (callerOf T12) 1 noFg Tryd.f15 (codeOf Tryd.f15) [] [] 0) = some (.bool true) := by kernel_rfl
theorem run_of {o : Option (AV × List Ob)} {r : AV} (h : fstO o = some r) : ∃ σ', o = some (r, σ') := by
  cases o with
  | none => cases h
  | some x => simp only [fstO, Option.some.injEq] at h; subst h; exact ⟨_, rfl⟩
section
variable [Fixed]
variable (hX : ∀ l, ExtOk Tryd.prog (X15 l))
include hX
theorem T12_ok : SpecOk Tryd.prog T12 := by
  refine (SpecOk.add (SpecOk.add (T11_ok hX) ?_) ?_).addRo ?_
  · intro vs r h
    unfold engS at h
    split at h
    · simp only [Option.some.injEq] at h
      subst h
      exact run_at (hX []) (T11_ok hX) rfl Tryd.func32 rfl rfl (english_p (X15 []) (callerOf T11) 1)
    · cases h
  · intro vs r h
    unfold intsS at h
    split at h
    · split at h
      · rename_i a b l m ha hb
        split at h
        · rename_i hk
          simp only [Option.some.injEq] at h
          subst h
          obtain ⟨ka, sa, ca, rfl, h1⟩ := isIO_shape ha
          obtain ⟨kb, sb, cb, rfl, h2⟩ := isIO_shape hb
          exact run_at (hX []) (T11_ok hX) rfl Tryd.func19 rfl rfl (ints_spec (X15 []) (callerOf T11) (l.length + 1) ka kb sa sb hk (by omega) h1 h2)
        · cases h
      · cases h
    · cases h
  · intro vs r h
    unfold parseEngS at h
    split at h
    · split at h
      · rename_i cs ts x y s l hs hl
        split at h
        · rename_i hk
          simp only [Option.some.injEq] at h
          subst h
          have e1 := sysO_eq hs
          have e2 := strsO_eq hl
          have e3 := isEng_eq hk.1
          have e4 := hk.2
          subst e1; subst e2; subst e3; subst e4
          obtain ⟨σ', hv⟩ := run_of (parse_eng)
          exact (body_at (hX [39]) (vcallW_ok (hX [39]) (T11_ok hX) 11) rfl Tryd.func20 rfl hv).clean rfl
        · cases h
      · cases h
    · cases h
theorem T13_ok : SpecOk Tryd.prog T13 := by
  refine (T12_ok hX).add ?_
  intro vs r h
  unfold awakeS at h
  split at h
  · simp only [Option.some.injEq] at h
    subst h
    obtain ⟨σ', hv⟩ := run_of awake_run
    exact run_at (hX []) (T12_ok hX) rfl Tryd.func15 rfl rfl hv
  · cases h
end
end Go.Proofs.Num
end
/- Numeral: the law of words. -/
section
open Go Go.Vm Go.Proofs
namespace Go.Proofs.Num
theorem lwa_p (s : NSys) (n : Int) (X : Ext) (call : Caller) (lf : Nat)
  (h0 : callv X call false 13 [AV.agg (sysC s)] [Ob.cells (sysC s)] 0 = some (bo false, [Ob.cells (sysC s)]))
  (h1 : callv X call false 15 [] [Ob.cells (sysC s)] 0 = some (bo true, [Ob.cells (sysC s)])) : vbody Tryd.prog X call lf noFg Tryd.f3 (codeOf Tryd.f3) [AV.agg (sysC s), i6 n] [] 0 = some (bo true, [Ob.cells (sysC s)]) :=
  along_sound (ans := [(5, Ans.v (bo false)), (14, Ans.v (bo true))]) (by kernel_rfl) (And.intro h0 (And.intro h1 trivial))
theorem lwb_p (s : NSys) (n : Int) (X : Ext) (call : Caller) (lf : Nat)
  (h0 : callv X call false 13 [AV.agg (sysC s)] [Ob.cells (sysC s)] 0 = some (bo true, [Ob.cells (sysC s)]))
  (h1 : callv X call false 14 [AV.agg (sysC s)] [Ob.cells (sysC s)] 0 = some (bo false, [Ob.cells (sysC s)]))
  (h2 : callv X call false 15 [] [Ob.cells (sysC s)] 0 = some (bo true, [Ob.cells (sysC s)])) : vbody Tryd.prog X call lf noFg Tryd.f3 (codeOf Tryd.f3) [AV.agg (sysC s), i6 n] [] 0 = some (bo true, [Ob.cells (sysC s)]) :=
  along_sound (ans := [(5, Ans.v (bo true)), (11, Ans.v (bo false)), (17, Ans.v (bo true))]) (by kernel_rfl) (And.intro h0 (And.intro h1 (And.intro h2 trivial)))
theorem lwc_pt (s : NSys) (n : Int) (X : Ext) (call : Caller) (lf : Nat)
  (h0 : callv X call false 13 [AV.agg (sysC s)] [Ob.cells (sysC s)] 0 = some (bo true, [Ob.cells (sysC s)]))
  (h1 : callv X call false 14 [AV.agg (sysC s)] [Ob.cells (sysC s)] 0 = some (bo true, [Ob.cells (sysC s)]))
  (h2 : callv X call false 16 [AV.agg (sysC s), i6 n] [Ob.cells (sysC s)] 0 = some (AV.tup [lro 0 1 [], i6 1], [Ob.cells (sysC s)]))
  (h3 : decide (n < 0) = true)
  (h4 : callv X call false 15 [] [Ob.cells (sysC s)] 0 = some (bo true, [Ob.cells (sysC s)])) : vbody Tryd.prog X call lf noFg Tryd.f3 (codeOf Tryd.f3) [AV.agg (sysC s), i6 n] [] 0 = some (bo true, [Ob.cells (sysC s)]) :=
  along_sound (ans := [(5, Ans.v (bo true)), (11, Ans.v (bo true)), (19, Ans.v (AV.tup [lro 0 1 [], i6 1])), (27, Ans.b true), (30, Ans.v (bo true))]) (by kernel_rfl) (And.intro h0 (And.intro h1 (And.intro h2 (And.intro h3 (And.intro h4 trivial)))))
theorem lwd_pft (s : NSys) (n : Int) (X : Ext) (call : Caller) (lf : Nat)
  (h0 : callv X call false 13 [AV.agg (sysC s)] [Ob.cells (sysC s)] 0 = some (bo true, [Ob.cells (sysC s)]))
  (h1 : callv X call false 14 [AV.agg (sysC s)] [Ob.cells (sysC s)] 0 = some (bo true, [Ob.cells (sysC s)]))
  (h2 : callv X call false 16 [AV.agg (sysC s), i6 n] [Ob.cells (sysC s)] 0 = some (AV.tup [lro 0 1 [], i6 2], [Ob.cells (sysC s)]))
  (h3 : decide (n < 0) = false)
  (h4 : decide (n > 9999) = true)
  (h5 : callv X call false 15 [] [Ob.cells (sysC s)] 0 = some (bo true, [Ob.cells (sysC s)])) : vbody Tryd.prog X call lf noFg Tryd.f3 (codeOf Tryd.f3) [AV.agg (sysC s), i6 n] [] 0 = some (bo true, [Ob.cells (sysC s)]) :=
  along_sound (ans := [(5, Ans.v (bo true)), (11, Ans.v (bo true)), (19, Ans.v (AV.tup [lro 0 1 [], i6 2])), (27, Ans.b false), (31, Ans.b true), (34, Ans.v (bo true))]) (by kernel_rfl) (And.intro h0 (And.intro h1 (And.intro h2 (And.intro h3 (And.intro h4 (And.intro h5 trivial))))))
theorem lwe_pff (s : NSys) (n : Int) (l : List ByteArray) (m : List ByteArray) (X : Ext) (call : Caller) (lf : Nat)
  (h0 : callv X call false 13 [AV.agg (sysC s)] [Ob.cells (sysC s)] 0 = some (bo true, [Ob.cells (sysC s)]))
  (h1 : callv X call false 14 [AV.agg (sysC s)] [Ob.cells (sysC s)] 0 = some (bo true, [Ob.cells (sysC s)]))
  (h2 : callv X call false 16 [AV.agg (sysC s), i6 n] [Ob.cells (sysC s)] 0 = some (AV.tup [lro (List.length l) 1 (List.map st l), i6 0], [Ob.cells (sysC s)]))
  (h3 : decide (n < 0) = false)
  (h4 : decide (n > 9999) = false)
  (h5 : callv X call false 15 [] [Ob.cells (sysC s)] 0 = some (bo true, [Ob.cells (sysC s)]))
  (h6 : callv X call false 18 [AV.agg (sysC s), i6 n] [Ob.cells (sysC s)] 0 = some (lro (List.length m) 1 (List.map st m), [Ob.cells (sysC s)]))
  (h7 : callv X call false 17 [lro (List.length l) 1 (List.map st l), lro (List.length m) 1 (List.map st m)] [Ob.cells (sysC s)] 0 = some (bo true, [Ob.cells (sysC s)])) : vbody Tryd.prog X call lf noFg Tryd.f3 (codeOf Tryd.f3) [AV.agg (sysC s), i6 n] [] 0 = some (bo true, [Ob.cells (sysC s)]) :=
  along_sound (ans := [(5, Ans.v (bo true)), (11, Ans.v (bo true)), (19, Ans.v (AV.tup [lro (List.length l) 1 (List.map st l), i6 0])), (27, Ans.b false), (31, Ans.b false), (34, Ans.v (bo true)), (49, Ans.v (lro (List.length m) 1 (List.map st m))), (51, Ans.v (bo true))]) (by kernel_rfl) (And.intro h0 (And.intro h1 (And.intro h2 (And.intro h3 (And.intro h4 (And.intro h5 (And.intro h6 (And.intro h7 trivial))))))))

/-! ### calls of what is told -/
theorem call_T {T : Vm.Spec} {l : List Nat} {f : FuncId} {vs : List AV} {r r' : AV} {dr : Bool} {σ : List Ob} {ro : Nat} (hf : Nat.beq f 47 = false) (ha : memN f l = false) (hl : AV.ltAll 0 vs = true) (ht : T f vs = some r) (hp : r.pure = true) (hu : unfr r = r') :
    callv (X15 l) (callerOf T) dr f vs σ ro = some (r', σ) := by
  subst hu
  have h1 : (X15 l).pureFn f = none := by
    simp only [X15]
    rw [if_neg (fun e => by rw [e] at hf; cases hf)]
  have := call_spec (X := X15 l) (T := T) (dr := dr) (σ := σ) (ro := ro) h1 rfl hl ht hp
  rw [this]
  have e : (X15 l).adopt f = false := ha
  rw [e]
  cases dr <;> rfl
theorem lt_sysn (s : NSys) (n : Int) : AV.ltAll 0 [AV.agg (sysC s), i6 n] = true := by simp [AV.ltAll, AV.lt, lt_sysC]
theorem ro_sysn (s : NSys) (n : Int) : roAll [AV.agg (sysC s), i6 n] = [AV.agg (sysC s), i6 n] := by simp [roAll, roA, roAll_sysC]
section
variable {s : NSys} {dr : Bool} {σ : List Ob} {ro : Nat}
theorem c_small : callv (X15 []) (callerOf T13) dr 13 [AV.agg (sysC s)] σ ro = some (bo (smallL s), σ) := by
  refine call_T (r := bo (smallL s)) rfl rfl (lt_sys s) ?_ rfl rfl
  show smallS (roAll [AV.agg (sysC s)]) = _
  rw [roAll_sys]; simp only [smallS, sysO_sysC]
theorem c_valid (hk : okS s = true) : callv (X15 []) (callerOf T13) dr 22 [AV.agg (sysC s)] σ ro = some (bo (validL s), σ) := by
  refine call_T (r := bo (validL s)) rfl rfl (lt_sys s) ?_ rfl rfl
  show validS (roAll [AV.agg (sysC s)]) = _
  rw [roAll_sys]; simp only [validS, sysO_sysC, hk, if_true]
theorem c_rvalid (hk : okS s = true) : callv (X15 []) (callerOf T13) dr 14 [AV.agg (sysC s)] σ ro = some (bo (validL s), σ) := by
  refine call_T (r := bo (validL s)) rfl rfl (lt_sys s) ?_ rfl rfl
  show validS (roAll [AV.agg (sysC s)]) = _
  rw [roAll_sys]; simp only [validS, sysO_sysC, hk, if_true]
theorem c_awake : callv (X15 []) (callerOf T13) dr 15 [] σ ro = some (bo true, σ) := call_T (r := bo true) rfl rfl rfl rfl rfl rfl
theorem c_words (hk : okS s = true) {n c : Int} {ws : List ByteArray} (hw : wordsO s n = some (ws, c)) : callv (X15 []) (callerOf T13) dr 16 [AV.agg (sysC s), i6 n] σ ro = some (.tup [lst ws, i6 c], σ) :=
  call_words (fun _ => rfl) rfl hk hw
theorem c_rwords (hb : s.base = 10 ∨ s.base = 20) {n : Int} {l : List ByteArray} (hw : sayO s 6 n = some l) : callv (X15 []) (callerOf T13) dr 18 [AV.agg (sysC s), i6 n] σ ro = some (lst l, σ) := by
  refine call_T (r := lst l) rfl rfl (lt_sysn s n) ?_ (lt_lst l) rfl
  show rwordsS 6 (roAll [AV.agg (sysC s), i6 n]) = _
  rw [ro_sysn]; simp only [rwordsS, sysO_sysC, hw]; rw [if_pos hb]
theorem c_texts {l m : List ByteArray} (hl : l.length ≤ 140737488355328) : callv (X15 []) (callerOf T13) dr 17 [lst l, lst m] σ ro = some (bo (textsL l m), σ) := by
  refine call_T (r := bo (textsL l m)) rfl rfl (lt_two (lt_lst l) (lt_lst m)) ?_ rfl rfl
  show textsS [lst l, lst m] = _
  simp only [textsS, isSO_of (is_lst l), isSO_of (is_lst m), hl, if_true]
end
theorem toList_beq (x : ByteArray) : (x.toList == x.toList) = true := by simp
theorem textsL_refl : ∀ l : List ByteArray, textsL l l = true
  | [] => rfl
  | x :: l => by simp [textsL, textsL_refl l]
theorem say6_len {s : NSys} {n : Int} {l : List ByteArray} (h : sayO s 6 n = some l) : l.length ≤ 140737488355328 := by
  have := (sayO_len s 6 n l h).2
  omega
/-- NumeralWords: true. -/
theorem law_words [Fixed] (hX : ∀ l, ExtOk Tryd.prog (X15 l)) {s : NSys} (hk : okS s = true) (n : Int) : CallAt Tryd.prog 3 [AV.agg (sysC s), i6 n] [] 0 (bo true) [] := by
  have run : ∀ {σ' : List Ob}, vbody Tryd.prog (X15 []) (callerOf T13) 1 noFg Tryd.f3 (codeOf Tryd.f3) [AV.agg (sysC s), i6 n] [] 0 = some (bo true, σ') → CallAt Tryd.prog 3 [AV.agg (sysC s), i6 n] [] 0 (bo true) [] :=
    fun h => run_at (hX []) (T13_ok hX) rfl Tryd.func3 rfl rfl h
  have hs := c_small (s := s) (dr := false) (σ := [Ob.cells (sysC s)]) (ro := 0)
  have hv := c_rvalid (dr := false) (σ := [Ob.cells (sysC s)]) (ro := 0) hk
  cases hsm : smallL s with
  | false =>
    rw [hsm] at hs
    exact run (lwa_p s n (X15 []) (callerOf T13) 1 hs c_awake)
  | true =>
    rw [hsm] at hs
    cases hva : validL s with
    | false =>
      rw [hva] at hv
      exact run (lwb_p s n (X15 []) (callerOf T13) 1 hs hv c_awake)
    | true =>
      rw [hva] at hv
      by_cases h0 : n < 0
      · have hw : wordsO s n = some ([], 1) := by unfold wordsO; rw [if_pos (.inr h0)]
        exact run (lwc_pt s n (X15 []) (callerOf T13) 1 hs hv (c_words hk hw) (decide_eq_true h0) c_awake)
      · by_cases h9 : n > 9999
        · have hw : wordsO s n = some ([], 2) := by unfold wordsO; rw [if_neg (by rw [hva]; simp; omega), if_pos h9]
          exact run (lwd_pft s n (X15 []) (callerOf T13) 1 hs hv (c_words hk hw) (decide_eq_false h0) (decide_eq_true h9) c_awake)
        · obtain ⟨l, hl, hw⟩ := words_some hva (n := n) (by omega) (by omega)
          have ht := c_texts (l := l) (m := l) (dr := false) (σ := [Ob.cells (sysC s)]) (ro := 0) (say6_len hl)
          rw [textsL_refl] at ht
          exact run (lwe_pff s n l l (X15 []) (callerOf T13) 1 hs hv (c_words hk hw) (decide_eq_false h0) (decide_eq_false h9) c_awake (c_rwords (good_of hva).base hl) ht)
end Go.Proofs.Num
end
/- From what a row reads to what the evaluator knows: numbers, strings, truth values, slices and structs of them. -/
section
namespace Go.Vm
open Go.RowKit (Below)

/-- What a value of type t is, cell by cell. -/
inductive Shape (P : Program) : TypeId → List AV → Prop
  | bool {t : TypeId} (h : P.underlying t = some .bool) (b : Bool) : Shape P t [.bool b]
  | int {t : TypeId} {k : IntKind} (h : P.underlying t = some (.int k)) (n : Int) (hn : (Lit.int k n).wf = true) : Shape P t [.int k n]
  | str {t : TypeId} (h : P.underlying t = some .string) (s : ByteArray) (hs : s.size ≤ reachBytes) : Shape P t [.str s]
  | slice {t e : TypeId} (h : P.underlying t = some (.slice e)) (xs : List (List AV)) (hx : ∀ x, x ∈ xs → Shape P e x) (hb : xs.length * P.bytesOf e ≤ reachBytes) : Shape P t [.list .ro xs.length (P.cellsOf e) xs.flatten]
  | struct {t : TypeId} {fs : Array Field} (h : P.underlying t = some (.struct fs)) (ps : List (List AV)) (hl : ps.length = fs.size) (hp : ∀ (i : Nat) (f : Field) (p : List AV), fs[i]? = some f → ps[i]? = some p → Shape P f.type p) : Shape P t ps.flatten

/-- The fields lie one behind the other. -/
def packed (P : Program) : List Field → Nat → Option Nat
  | [], n => some n
  | f :: fs, n => if f.offset = n then packed P fs (n + P.cellsOf f.type) else none
/-- Types whose values are read here, with all that they hold. -/
def okT (P : Program) (ts : List TypeId) (t : TypeId) : Bool :=
  match P.underlying t with
  | some .bool | some (.int _) | some .string => P.cellsOf t == 1
  | some (.slice e) => P.cellsOf t == 1 && memN e ts && Nat.blt 0 (P.cellsOf e)
  | some (.struct fs) => fs.toList.all (fun f => memN f.type ts) && (match packed P fs.toList 0 with | some n => n == P.cellsOf t | none => false)
  | _ => false
theorem memN_iff {t : Nat} : ∀ {l : List Nat}, memN t l = true → t ∈ l
  | [], h => by simp [memN] at h
  | x :: l, h => by
    simp only [memN] at h
    split at h
    · rename_i e
      have := Nat.eq_of_beq_eq_true e
      subst this
      exact List.mem_cons_self ..
    · exact List.mem_cons_of_mem _ (memN_iff h)
theorem allOne_append {a b : List AV} (ha : allOne a) (hb : allOne b) : allOne (a ++ b) := by
  induction a with
  | nil => exact hb
  | cons x a ih => exact ⟨ha.1, ih ha.2⟩
section
variable [Fixed]
variable {P : Program} {C : Ctx} {w : World}
theorem repAll_append : ∀ {vs ws : List AV} {us xs : List Value}, RepAll C w vs us → RepAll C w ws xs → RepAll C w (vs ++ ws) (us ++ xs)
  | [], _, [], _, _, h => h
  | v :: vs, ws, u :: us, xs, h, k => by
    simp only [List.cons_append, RepAll] at h ⊢
    exact ⟨h.1, repAll_append h.2 k⟩
  | [], _, _ :: _, _, h, _ => by simp only [RepAll] at h
  | _ :: _, _, [], _, h, _ => by simp only [RepAll] at h
theorem repAll_len : ∀ {vs : List AV} {us : List Value}, RepAll C w vs us → vs.length = us.length
  | [], [], _ => rfl
  | v :: vs, u :: us, h => by
    simp only [RepAll] at h
    simp [repAll_len h.2]
  | [], _ :: _, h => by simp only [RepAll] at h
  | _ :: _, [], h => by simp only [RepAll] at h
/-- What reading gives. -/
def Known (P : Program) (w : World) (t : TypeId) (cs : List Value) : Prop := ∃ vs, Shape P t vs ∧ RepAll C0 w vs cs ∧ allOne vs ∧ vs.length = P.cellsOf t
/-- Parts that lie one behind the other. -/
theorem known_fields {cs : List Value} : ∀ (fs : List Field) (n m : Nat), packed P fs n = some m → m ≤ cs.length → (∀ (i : Nat) (f : Field), fs[i]? = some f → Known P w f.type ((cs.drop f.offset).take (P.cellsOf f.type))) →
    ∃ ps : List (List AV), ps.length = fs.length ∧ (∀ (i : Nat) (f : Field) (p : List AV), fs[i]? = some f → ps[i]? = some p → Shape P f.type p) ∧ RepAll C0 w ps.flatten ((cs.drop n).take (m - n)) ∧ allOne ps.flatten ∧ ps.flatten.length = m - n ∧ n ≤ m
  | [], n, m, h, _, _ => by
    simp only [packed, Option.some.injEq] at h
    subst h
    exact ⟨[], rfl, fun i f p h => by simp at h, by simp [RepAll], trivial, by simp, Nat.le_refl _⟩
  | f :: fs, n, m, h, hm, hk => by
    simp only [packed] at h
    split at h
    · rename_i e
      obtain ⟨vs, h1, h2, h3, h4⟩ := hk 0 f rfl
      obtain ⟨ps, k1, k2, k3, k4, k5, k6⟩ := known_fields fs _ m h hm (fun i g hg => hk (i + 1) g (by simpa using hg))
      refine ⟨vs :: ps, by simp [k1], ?_, ?_, ?_, ?_, by omega⟩
      · intro i g p hg hp
        cases i with
        | zero =>
          simp only [List.getElem?_cons_zero, Option.some.injEq] at hg hp
          subst hg; subst hp
          exact h1
        | succ i => exact k2 i g p (by simpa using hg) (by simpa using hp)
      · have hsplit : (cs.drop n).take (m - n) = (cs.drop n).take (P.cellsOf f.type) ++ (cs.drop (n + P.cellsOf f.type)).take (m - (n + P.cellsOf f.type)) := by
          rw [← List.drop_drop, ← List.take_append_drop (P.cellsOf f.type) ((cs.drop n).take (m - n)), List.take_take, List.drop_take]
          congr 2
          · omega
          · omega
        rw [hsplit, List.flatten_cons]
        rw [e] at h2
        exact repAll_append h2 k3
      · rw [List.flatten_cons]
        exact allOne_append h3 k4
      · rw [List.flatten_cons, List.length_append, h4, k5]
        omega
    · cases h
theorem add_add (a : Addr) (m n : Nat) : (a.add m).add n = a.add (m + n) := by
  unfold Addr.add
  by_cases h1 : m = 0
  · subst h1; simp
  · by_cases h2 : n = 0
    · subst h2; simp
    · rw [if_neg h2, if_neg h1, if_neg (by omega)]
      simp [Nat.add_assoc]
/-- Elements, one behind the other. -/
theorem known_elems {sz : Nat} {e : TypeId} {a : Addr} (hsz : sz = P.cellsOf e) : ∀ (n : Nat) (us : Nat → List Value), (∀ i, i < n → w.cells? 0 (a.add (i * sz)) sz = some (us i) ∧ Known P w e (us i)) →
    ∃ (xs : List (List AV)) (ys : List Value), xs.length = n ∧ (∀ x, x ∈ xs → Shape P e x) ∧ RepAll C0 w xs.flatten ys ∧ allOne xs.flatten ∧ xs.flatten.length = n * sz ∧ ys.length = n * sz ∧ ∀ i x, ys[i]? = some x → w.cell? (a.add i) = some x
  | 0, _, _ => ⟨[], [], rfl, fun x h => by simp at h, by simp [RepAll], trivial, by simp, by simp, fun i x h => by simp at h⟩
  | n + 1, us, h => by
    obtain ⟨xs, ys, k1, k2, k3, k4, k5, k6, k7⟩ := known_elems hsz n us fun i hi => h i (by omega)
    obtain ⟨hc, vs, h1, h2, h3, h4⟩ := h n (by omega)
    obtain ⟨_, c2, c3⟩ := World.cells?_some hc
    refine ⟨xs ++ [vs], ys ++ us n, by simp [k1], ?_, ?_, ?_, ?_, ?_, ?_⟩
    · intro x hx
      rcases List.mem_append.1 hx with hx | hx
      · exact k2 x hx
      · simp only [List.mem_singleton] at hx
        subst hx
        exact h1
    · rw [List.flatten_append]
      simp only [List.flatten_cons, List.flatten_nil, List.append_nil]
      exact repAll_append k3 h2
    · rw [List.flatten_append]
      simp only [List.flatten_cons, List.flatten_nil, List.append_nil]
      exact allOne_append k4 h3
    · rw [List.flatten_append, List.length_append, k5]
      simp only [List.flatten_cons, List.flatten_nil, List.append_nil, h4, ← hsz]
      rw [Nat.succ_mul]
    · rw [List.length_append, k6, c2, Nat.succ_mul]
    · intro i x hx
      by_cases hi : i < ys.length
      · rw [List.getElem?_append_left hi] at hx
        exact k7 i x hx
      · rw [List.getElem?_append_right (by omega), k6] at hx
        have hlt : i - n * sz < sz := by
          have := (List.getElem?_eq_some_iff.1 hx).1
          omega
        have := c3 (i - n * sz) hlt
        rw [hx] at this
        rw [← this]
        congr 1
        exact (add_add a (n * sz) (i - n * sz)).symm ▸ (by rw [show n * sz + (i - n * sz) = i by omega])
theorem spot_none {a : Addr} {v : Value} (h : w.cell? a = some v) : a = ⟨a.block, a.off, none⟩ ∧ a.block < w.heap.size := by
  unfold World.cell? at h
  split at h
  · rename_i c _ _ hX
    split at h
    · cases h
    · rename_i hs
      refine ⟨?_, (Array.getElem?_eq_some_iff.1 hX).1⟩
      cases a
      simp only [Option.isSome_iff_ne_none, ne_eq, Decidable.not_not] at hs
      subst hs
      rfl
  · cases h
theorem weightsAll_mem {H : Type} {e : TypeId} : ∀ {ds : List (DataW H)} {d : DataW H}, d ∈ ds → ∀ n ∈ d.weights P e, n ∈ DataW.weightsAll P e ds
  | d' :: ds, d, hd, n, hn => by
    simp only [DataW.weightsAll, List.mem_append]
    rcases List.mem_cons.1 hd with rfl | hd
    · exact .inl hn
    · exact .inr (weightsAll_mem hd n hn)
theorem known_of {H : Type} {enc : TypeId × Value → H} {ts : List TypeId} (hts : ts.all (okT P ts) = true) : ∀ (fuel : Nat) (t : TypeId) (cs : List Value) (d : DataW H) (ps : List MemPlace), t ∈ ts → DataW.trod enc P w 0 (fun _ => true) true fuel t cs = some (d, ps) → (∀ n ∈ d.weights P t, n ≤ reachBytes) → Known P w t cs := by
  intro fuel
  induction fuel with
  | zero => intro t cs d ps _ h; simp [DataW.trod] at h
  | succ fuel ih =>
    intro t cs d ps ht h hw
    have hok := List.all_eq_true.1 hts t ht
    unfold okT at hok
    split at hok
    · rename_i hu
      obtain ⟨b, rfl, _⟩ := DataW.trod_bool hu h
      exact ⟨[.bool b], .bool hu b, by simp [RepAll, Rep], ⟨rfl, trivial⟩, by simp at hok; simp [hok]⟩
    · rename_i k hu
      obtain ⟨n, rfl, _, hn⟩ := DataW.trod_int hu h
      exact ⟨[.int k n], .int hu n hn, by simp [RepAll, Rep], ⟨rfl, trivial⟩, by simp at hok; simp [hok]⟩
    · rename_i hu
      obtain ⟨s, rfl, hx, _⟩ := DataW.trod_string hu h
      simp only [Prod.mk.injEq] at hx
      obtain ⟨rfl, _⟩ := hx
      have hs : s.size ≤ reachBytes := by
        have := hw s.data.toList.length (by simp [DataW.weights])
        simpa using this
      exact ⟨[.str s], .str hu s hs, by simp [RepAll, Rep], ⟨rfl, trivial⟩, by simp at hok; simp [hok]⟩
    · rename_i e hu
      simp only [Bool.and_eq_true, beq_iff_eq] at hok
      obtain ⟨⟨hc1, hmem⟩, hpos⟩ := hok
      have hpos : 0 < P.cellsOf e := by simpa using hpos
      rcases DataW.trod_slice hu h with ⟨rfl, _⟩ | ⟨a, len, cap, elems, rest, n, hf, rfl, hx, _, hl, hm, hlen, hel, _, _⟩
      · refine ⟨[.list .ro ([] : List (List AV)).length (P.cellsOf e) ([] : List (List AV)).flatten], .slice hu [] (fun x h => by simp at h) (by simp), ?_, ⟨rfl, trivial⟩, by simp [hc1]⟩
        simp only [RepAll, Rep]
        exact ⟨⟨by simp, trivial, none, 0, by simp, by simp, by decide, by simp, by simp, fun h => by simp at h⟩, trivial⟩
      · simp only [Prod.mk.injEq] at hx
        obtain ⟨rfl, _⟩ := hx
        have hfn : fuel = n := by omega
        subst hfn
        have hel' : ∀ i, i < len → ∃ us, w.cells? 0 (a.add (i * P.cellsOf e)) (P.cellsOf e) = some us ∧ Known P w e us := by
          intro i hi
          have := hel i hi
          rw [List.getElem?_eq_getElem (by omega)] at this
          obtain ⟨us, h1, h2⟩ := Option.bind_eq_some_iff.1 this
          refine ⟨us, h1, ih e us (elems[i]'(by omega)).1 (elems[i]'(by omega)).2 (memN_iff hmem) h2 ?_⟩
          intro m hmm
          apply hw
          simp only [DataW.weights, hu, List.mem_cons, List.mem_append]
          refine .inr (.inl (weightsAll_mem (List.mem_map.2 ⟨_, List.getElem_mem (by omega), rfl⟩) m hmm))
        have : ∃ us : Nat → List Value, ∀ i, i < len → w.cells? 0 (a.add (i * P.cellsOf e)) (P.cellsOf e) = some (us i) ∧ Known P w e (us i) := by
          classical
          exact ⟨fun i => if hi : i < len then (hel' i hi).choose else [], fun i hi => by
            simp only [dif_pos hi]
            exact (hel' i hi).choose_spec⟩
        obtain ⟨us, hus⟩ := this
        obtain ⟨xs, ys, k1, k2, k3, k4, k5, k6, k7⟩ := known_elems (P := P) (w := w) (e := e) rfl len us hus
        have hb : xs.length * P.bytesOf e ≤ reachBytes := by
          have h1 := hw (((elems.map (·.1)).length + (rest.map (·.1)).length) * P.bytesOf e) (by simp only [DataW.weights, hu]; exact List.mem_cons_self ..)
          rw [k1]
          simp only [List.length_map, hlen] at h1
          exact Nat.le_trans (Nat.mul_le_mul_right _ (Nat.le_add_right _ _)) h1
        refine ⟨[.list .ro xs.length (P.cellsOf e) xs.flatten], .slice hu xs k2 hb, ?_, ⟨rfl, trivial⟩, by simp [hc1]⟩
        simp only [RepAll, Rep]
        refine ⟨⟨by rw [k5, k1], k4, some a, cap, by rw [k1], by rw [k1]; exact hl, hm, by simp, by simp, fun hn => ?_⟩, trivial⟩
        have h0 : 0 < ys.length := by rw [k6, ← k1]; exact Nat.mul_pos hn hpos
        have hcell := k7 0 _ (List.getElem?_eq_getElem h0)
        have e0 : a.add 0 = a := rfl
        rw [e0] at hcell
        obtain ⟨ha, hblt⟩ := spot_none hcell
        refine ⟨a.block, a.off, ys, by rw [← ha], hblt, not_mut0 _, ?_, k3⟩
        intro i x hx
        have := k7 i x hx
        rw [← this]
        congr 1
        rw [ha]
        simp only [Addr.add]
        split
        · rename_i hi; subst hi; rfl
        · rfl
    · rename_i fs hu
      simp only [Bool.and_eq_true] at hok
      obtain ⟨hall, hpk⟩ := hok
      split at hpk
      · rename_i m hm
        have hmm : m = P.cellsOf t := by simpa using hpk
        obtain ⟨xs, n, hf, hx, hcl, hxl, hfl⟩ := DataW.trod_struct hu h
        simp only [Prod.mk.injEq] at hx
        obtain ⟨rfl, _⟩ := hx
        have hfn : fuel = n := by omega
        subst hfn
        obtain ⟨qs, k1, k2, k3, k4, k5, k6⟩ := known_fields (P := P) (w := w) (cs := cs) fs.toList 0 m hm (by omega) (fun i f hf => by
          have hf' : fs[i]? = some f := by simpa using hf
          have := hfl i f hf'
          have hi : i < xs.length := by
            have := (Array.getElem?_eq_some_iff.1 hf').1
            omega
          rw [List.getElem?_eq_getElem hi] at this
          refine ih f.type _ (xs[i]'hi).1 (xs[i]'hi).2 (memN_iff (List.all_eq_true.1 hall f (List.mem_of_getElem? hf))) this ?_
          intro z hz
          apply hw
          simp only [DataW.weights, hu]
          exact DataW.weights_mem_each (j := i) (t := f.type) (d := (xs[i]'hi).1) (by rw [List.getElem?_map, hf]; rfl) (by rw [List.getElem?_map, List.getElem?_eq_getElem hi]; rfl) z hz)
        refine ⟨qs.flatten, .struct hu qs (by rw [k1]; simp) (fun i f p hf hp => k2 i f p (by simpa using hf) hp), ?_, k4, by rw [k5, hmm]; omega⟩
        rw [List.drop_zero, Nat.sub_zero, hmm, ← hcl, List.take_length] at k3
        exact k3
      · cases hpk
    · cases hok
end
end Go.Vm
end
/- A law's row, from a call that is told. -/
section
namespace Go.Vm
open Go.RowKit Go.ChangeShapes Go.WideShapes

/-- An argument, as the evaluator knows it. -/
def ArgIs (P : Program) (t : TypeId) (v : AV) : Prop := match P.underlying t with
  | some (.struct _) => ∃ cs, v = .agg cs ∧ Shape P t cs
  | _ => Shape P t [v]
def ShapeArgs (P : Program) : List TypeId → List AV → Prop
  | [], [] => True
  | t :: ts, v :: vs => ArgIs P t v ∧ ShapeArgs P ts vs
  | _, _ => False
theorem shape1 {P : Program} {t : TypeId} {avs : List AV} (h : ShapeArgs P [t] avs) : ∃ a, avs = [a] ∧ ArgIs P t a := by
  match avs, h with
  | [a], h => exact ⟨a, rfl, h.1⟩
theorem shape2 {P : Program} {t u : TypeId} {avs : List AV} (h : ShapeArgs P [t, u] avs) : ∃ a b, avs = [a, b] ∧ ArgIs P t a ∧ ArgIs P u b := by
  match avs, h with
  | [a, b], h => exact ⟨a, b, rfl, h.1, h.2.1⟩
theorem shape3 {P : Program} {t u x : TypeId} {avs : List AV} (h : ShapeArgs P [t, u, x] avs) : ∃ a b c, avs = [a, b, c] ∧ ArgIs P t a ∧ ArgIs P u b ∧ ArgIs P x c := by
  match avs, h with
  | [a, b, c], h => exact ⟨a, b, c, rfl, h.1, h.2.1, h.2.2.1⟩
theorem shape4 {P : Program} {t u x y : TypeId} {avs : List AV} (h : ShapeArgs P [t, u, x, y] avs) : ∃ a b c d, avs = [a, b, c, d] ∧ ArgIs P t a ∧ ArgIs P u b ∧ ArgIs P x c ∧ ArgIs P y d := by
  match avs, h with
  | [a, b, c, d], h => exact ⟨a, b, c, d, rfl, h.1, h.2.1, h.2.2.1, h.2.2.2.1⟩
theorem ArgIs.agg {P : Program} {t : TypeId} {v : AV} {fs : Array Field} (hu : P.underlying t = some (.struct fs)) (h : ArgIs P t v) : ∃ cs, v = .agg cs ∧ Shape P t cs := by
  unfold ArgIs at h
  rw [hu] at h
  exact h
theorem ArgIs.one {P : Program} {t : TypeId} {v : AV} {d : TypeDesc} (hu : P.underlying t = some d) (hd : aggD d = false) (h : ArgIs P t v) : Shape P t [v] := by
  unfold ArgIs at h
  rw [hu] at h
  cases d <;> first | exact h | cases hd
section
variable [Fixed]
variable {P : Program} {W : World} {H : Type} {enc : TypeId × Value → H}
theorem args_known {all : List TypeId} {base : Nat} (hall : all.all (okT P all) = true) : ∀ (ts : List TypeId) (args : List Value) (ds : List (DataW H)) (ps : List MemPlace), DataW.TrodAll enc P W 0 (fun _ => true) true ts args ds ps → (∀ t, t ∈ ts → t ∈ all) → (∀ n ∈ DataW.weightsEach P ts ds, n ≤ reachBytes) →
    (∀ (j : Nat) t v, ts[j]? = some t → args[j]? = some v → Value.okWide P W .any base t v) → ∃ avs, ShapeArgs P ts avs ∧ RepAll C0 W avs args
  | [], [], [], _, _, _, _, _ => ⟨[], trivial, by simp [RepAll]⟩
  | [], [], _ :: _, _, h, _, _, _ => by simp [DataW.TrodAll] at h
  | [], _ :: _, _, _, h, _, _, _ => by simp [DataW.TrodAll] at h
  | _ :: _, [], _, _, h, _, _, _ => by simp [DataW.TrodAll] at h
  | _ :: _, _ :: _, [], _, h, _, _, _ => by simp [DataW.TrodAll] at h
  | t :: ts, v :: vs, d :: ds, ps, h, hm, hw, hok => by
    obtain ⟨p, q, h1, h2, rfl⟩ := h
    obtain ⟨avs, k1, k2⟩ := args_known hall ts vs ds q h2 (fun u hu => hm u (List.mem_cons_of_mem _ hu)) (fun n hn => hw n (by simp only [DataW.weightsEach, List.mem_append]; exact .inr hn)) (fun j u x hu hx => hok (j + 1) u x (by simpa using hu) (by simpa using hx))
    obtain ⟨fuel, hf⟩ := h1
    obtain ⟨xs, s1, s2, s3, s4⟩ := known_of hall fuel t _ d p (hm t (List.mem_cons_self ..)) hf (fun n hn => hw n (by simp only [DataW.weightsEach, List.mem_append]; exact .inl hn))
    have hwide := hok 0 t v rfl rfl
    have plain : (∀ cs, v ≠ .agg cs) → (¬ ∃ fs, P.underlying t = some (.struct fs)) → xs.length = 1 → ∃ avs, ShapeArgs P (t :: ts) avs ∧ RepAll C0 W avs (v :: vs) := by
      intro hv hns hlen
      obtain ⟨x, rfl⟩ : ∃ x, xs = [x] := by
        cases xs with
        | nil => simp at hlen
        | cons x xs => cases xs with
          | nil => exact ⟨x, rfl⟩
          | cons _ _ => simp at hlen
      have hc : v.cells.toList = [v] := by cases v <;> first | rfl | exact absurd rfl (hv _)
      rw [hc] at s2
      simp only [RepAll, and_true] at s2
      refine ⟨x :: avs, ⟨?_, k1⟩, by simp only [RepAll]; exact ⟨s2, k2⟩⟩
      unfold ArgIs
      split
      · rename_i fs hfs
        exact absurd ⟨fs, hfs⟩ hns
      · exact s1
    have hokT := List.all_eq_true.1 hall t (hm t (List.mem_cons_self ..))
    unfold okT at hokT
    simp only [Value.okWide, Cell.okWide, Cell.ok] at hwide
    split at hokT
    · rename_i hu
      simp only [hu] at hwide
      exact plain (fun cs e => by subst e; simp at hwide) (fun ⟨fs, e⟩ => by rw [hu] at e; cases e) (by simp at hokT; rw [s4, hokT])
    · rename_i k hu
      simp only [hu] at hwide
      exact plain (fun cs e => by subst e; simp at hwide) (fun ⟨fs, e⟩ => by rw [hu] at e; cases e) (by simp at hokT; rw [s4, hokT])
    · rename_i hu
      simp only [hu] at hwide
      exact plain (fun cs e => by subst e; simp at hwide) (fun ⟨fs, e⟩ => by rw [hu] at e; cases e) (by simp at hokT; rw [s4, hokT])
    · rename_i e hu
      simp only [hu] at hwide
      exact plain (fun cs e => by subst e; simp at hwide) (fun ⟨fs, e⟩ => by rw [hu] at e; cases e) (by simp at hokT; rw [s4, hokT.1.1])
    · rename_i fs hu
      simp only [hu] at hwide
      obtain ⟨cs, rfl, _, _⟩ := hwide
      refine ⟨.agg xs :: avs, ⟨?_, k1⟩, ?_⟩
      · unfold ArgIs
        simp only [hu]
        exact ⟨xs, rfl, s1⟩
      · simp only [RepAll, Rep]
        exact ⟨⟨s3, cs.toList, by simp, s2⟩, k2⟩
    · cases hokT
theorem carry_all {W' : World} (hl : laidOutB P = true) (hb : Below W.heap.size W W') : ∀ (ts : List TypeId) (args : List Value) (ds : List (DataW H)) (ps : List MemPlace), DataW.TrodAll enc P W 0 (fun _ => true) true ts args ds ps → (∀ t, t ∈ ts → P.readableRec t = true ∧ t < P.types.size) →
    DataW.TrodAll enc P W' 0 (fun b => decide (b < W.heap.size)) true ts args ds ps
  | [], [], [], _, h, _ => h
  | [], [], _ :: _, _, h, _ => by simp [DataW.TrodAll] at h
  | [], _ :: _, _, _, h, _ => by simp [DataW.TrodAll] at h
  | _ :: _, [], _, _, h, _ => by simp [DataW.TrodAll] at h
  | _ :: _, _ :: _, [], _, h, _ => by simp [DataW.TrodAll] at h
  | t :: ts, v :: vs, d :: ds, ps, h, hr => by
    obtain ⟨p, q, h1, h2, rfl⟩ := h
    have lt : ∀ x ∈ p, x.block < W.heap.size := by
      obtain ⟨m, hm⟩ := h1
      exact DataW.trod_lt m _ _ _ hm
    obtain ⟨r1, r2⟩ := hr t (List.mem_cons_self ..)
    exact ⟨p, q, Below.trod hl r1 r2 h1 hb lt, carry_all hl hb ts vs ds q h2 (fun u hu => hr u (List.mem_cons_of_mem _ hu)), rfl⟩
/-- What a law's row asks of a call. -/
theorem law_calls {f : FuncId} {fn : Func} {s : ChangeSpec} {all : List TypeId} {tb : TypeId} {base : Nat} {apart : Bool} {args : Array Value} {ds gs : List (DataW H)} {before : List MemPlace}
    (hall : all.all (okT P all) = true) (hpar : fn.params.toList.all (fun t => memN t all && (P.readableRec t && Nat.blt t P.types.size)) = true) (hl : laidOutB P = true) (hv : s.vars = []) (hs : ∀ ds : List (DataW H), ds.length = fn.params.toList.length → s.fn H ds = { results := [.lit (.bool true)], args := ds })
    (hrt : fn.resultTypes = #[tb]) (htb : P.underlying tb = some .bool) (hf : ∀ b X, Fixed.fix b X → W.heap[b]? = some X)
    (hval : ∀ (j : Nat) t v, fn.params[j]? = some t → args[j]? = some v → Value.okWide P W .any base t v)
    (hW : DataW.Whole enc P fn.params.toList s.vars apart W args.toList ds gs before) (hsz : (DataW.weightsEach P (fn.params.toList ++ s.plain.varTypes P) (ds ++ gs)).all (· ≤ reachBytes) = true)
    (hcall : ∀ avs, ShapeArgs P fn.params.toList avs → CallAt P f avs [] 0 (.bool true) []) :
    Calls P f args W fun e W' => ∃ v, e = .returned v ∧ s.post enc P fn apart true false false W args v W' := by
  have hW' := hW
  obtain ⟨p, q, hA, hV, rfl, _, _⟩ := hW
  rw [hv] at hV
  obtain ⟨rfl, rfl⟩ := trodVars_none hV
  have hlen : ∀ (ts : List TypeId) (vs : List Value) (ds : List (DataW H)) (ps : List MemPlace), DataW.TrodAll enc P W 0 (fun _ => true) true ts vs ds ps → ds.length = ts.length := by
    intro ts
    induction ts with
    | nil => intro vs ds ps h; cases vs <;> cases ds <;> simp_all [DataW.TrodAll]
    | cons t ts ih =>
      intro vs ds ps h
      cases vs with
      | nil => simp [DataW.TrodAll] at h
      | cons v vs => cases ds with
        | nil => simp [DataW.TrodAll] at h
        | cons d ds =>
          obtain ⟨_, _, _, h2, _⟩ := h
          simp [ih vs ds _ h2]
  have hdl := hlen _ _ _ _ hA
  rw [List.append_nil] at hsz
  have hvt : s.plain.varTypes P = [] := by
    show (ChangeSpec.plain s).varTypes P = []
    unfold ChangeSpec.plain
    simp [hv, DataSpec.varTypes]
  rw [hvt, List.append_nil] at hsz
  have hmem := List.all_eq_true.1 hpar
  have hm : ∀ t, t ∈ fn.params.toList → t ∈ all ∧ P.readableRec t = true ∧ t < P.types.size := by
    intro t ht
    have := hmem t ht
    simp only [Bool.and_eq_true] at this
    exact ⟨memN_iff this.1, this.2.1, by simpa using this.2.2⟩
  obtain ⟨avs, a1, a2⟩ := args_known (base := base) hall _ _ _ _ hA (fun t ht => (hm t ht).1) (fun n hn => by simpa using List.all_eq_true.1 hsz n hn) (fun j t v ht hx => hval j t v (by simpa using ht) (by simpa using hx))
  have hc := (hcall avs a1).bool hf a2
  rw [show args.toList.toArray = args from Array.toArray_toList] at hc
  refine hc.mono fun e W' ⟨he, bel⟩ => ?_
  subst he
  refine ⟨_, rfl, ds, [], _, [], p, [], hW', ?_, ?_, ?_, bel.frame _, fun h => by cases h⟩
  · rw [List.append_nil, hs ds hdl, hrt]
    exact trodAll_mk1 (shut_bool htb _)
  · rw [List.append_nil, hs ds hdl]
    exact carry_all hl bel _ _ _ _ hA (fun t ht => (hm t ht).2)
  · rw [List.append_nil, hs ds hdl, hv]
    rfl
end
end Go.Vm
end
/- Numeral: from the readings of a row to a system; the two tables; a law's card. -/
section
open Go Go.Vm Go.Proofs Go.Proofs.YtdkoncfpkhapjaaDoor
open Go.RowKit Go.ChangeShapes Go.WideShapes Go.Lib Go.Shelf
namespace Go.Proofs.Num
abbrev tys : List TypeId := [3, 4, 5, 9, 22, 24, 34, 37]
theorem tys_ok : tys.all (okT Tryd.prog tys) = true := by kernel_rfl
theorem strs_shape : ∀ {xs : List (List AV)}, (∀ x, x ∈ xs → Shape Tryd.prog 9 x) → ∃ l : List ByteArray, l.length = xs.length ∧ xs.flatten = l.map .str ∧ ∀ w, w ∈ l → w.size ≤ 140737488351232
  | [], _ => ⟨[], rfl, rfl, fun w h => by simp at h⟩
  | x :: xs, h => by
    obtain ⟨l, h1, h2, h3⟩ := strs_shape (xs := xs) fun y hy => h y (List.mem_cons_of_mem _ hy)
    have hx := h x (List.mem_cons_self ..)
    cases hx with
    | str hu s hs => exact ⟨s :: l, by simp [h1], by simp [h2], fun w hw => by
        rcases List.mem_cons.1 hw with rfl | hw
        · exact hs
        · exact h3 w hw⟩
    | bool hu => rw [Tryd.underlying9] at hu; cases hu
    | int hu => rw [Tryd.underlying9] at hu; cases hu
    | slice hu => rw [Tryd.underlying9] at hu; cases hu
    | struct hu => rw [Tryd.underlying9] at hu; cases hu
theorem int_shape {t : TypeId} {k : IntKind} (h : Tryd.prog.underlying t = some (.int k)) {x : List AV} (hx : Shape Tryd.prog t x) : ∃ n : Int, x = [.int k n] ∧ (Lit.int k n).wf = true := by
  cases hx with
  | int hu n hn => rw [h] at hu; simp only [Option.some.injEq, TypeDesc.int.injEq] at hu; subst hu; exact ⟨n, rfl, hn⟩
  | bool hu => rw [h] at hu; cases hu
  | str hu => rw [h] at hu; cases hu
  | slice hu => rw [h] at hu; cases hu
  | struct hu => rw [h] at hu; cases hu
theorem bool_shape {x : List AV} (hx : Shape Tryd.prog 4 x) : ∃ b : Bool, x = [.bool b] := by
  cases hx with
  | bool hu b => exact ⟨b, rfl⟩
  | int hu => rw [Tryd.underlying4] at hu; cases hu
  | str hu => rw [Tryd.underlying4] at hu; cases hu
  | slice hu => rw [Tryd.underlying4] at hu; cases hu
  | struct hu => rw [Tryd.underlying4] at hu; cases hu
theorem str_shape {x : List AV} (hx : Shape Tryd.prog 9 x) : ∃ s : ByteArray, x = [.str s] ∧ s.size ≤ 140737488351232 := by
  cases hx with
  | str hu s hs => exact ⟨s, rfl, hs⟩
  | int hu => rw [Tryd.underlying9] at hu; cases hu
  | bool hu => rw [Tryd.underlying9] at hu; cases hu
  | slice hu => rw [Tryd.underlying9] at hu; cases hu
  | struct hu => rw [Tryd.underlying9] at hu; cases hu
theorem list_shape {x : List AV} (hx : Shape Tryd.prog 22 x) : ∃ l : List ByteArray, x = [lst l] ∧ (∀ w, w ∈ l → w.size ≤ 140737488351232) ∧ l.length * 16 ≤ 140737488351232 := by
  cases hx with
  | slice hu xs hxs hb =>
    rw [Tryd.underlying22] at hu
    simp only [Option.some.injEq, TypeDesc.slice.injEq] at hu
    subst hu
    obtain ⟨l, h1, h2, h3⟩ := strs_shape hxs
    rw [bytes9] at hb
    refine ⟨l, by rw [h2, cells9, ← h1], h3, by rw [h1]; exact hb⟩
  | int hu => rw [Tryd.underlying22] at hu; cases hu
  | bool hu => rw [Tryd.underlying22] at hu; cases hu
  | str hu => rw [Tryd.underlying22] at hu; cases hu
  | struct hu => rw [Tryd.underlying22] at hu; cases hu
theorem sys_shape {x : List AV} (hx : Shape Tryd.prog 24 x) : ∃ s : NSys, x = sysC s ∧ okS s = true ∧ (-9223372036854775808 ≤ s.sub ∧ s.sub ≤ 9223372036854775807) := by
  cases hx with
  | struct hu ps hl hp =>
    rw [Tryd.underlying24] at hu
    simp only [Option.some.injEq, TypeDesc.struct.injEq] at hu
    subst hu
    match ps, hl with
    | [p0, p1, p2, p3, p4, p5, p6, p7], _ =>
      obtain ⟨b, rfl, _⟩ := int_shape Tryd.underlying3 (hp 0 _ _ rfl rfl)
      obtain ⟨ds, rfl, hds, hdl⟩ := list_shape (hp 1 _ _ rfl rfl)
      obtain ⟨pw, rfl, hpw, hpl⟩ := list_shape (hp 2 _ _ rfl rfl)
      obtain ⟨sf, rfl⟩ := bool_shape (hp 3 _ _ rfl rfl)
      obtain ⟨jo, rfl, hjo⟩ := str_shape (hp 4 _ _ rfl rfl)
      obtain ⟨su, rfl, hsu⟩ := int_shape Tryd.underlying3 (hp 5 _ _ rfl rfl)
      obtain ⟨le, rfl, hle⟩ := str_shape (hp 6 _ _ rfl rfl)
      obtain ⟨om, rfl⟩ := bool_shape (hp 7 _ _ rfl rfl)
      have sz : ∀ {w : ByteArray}, w.size ≤ 140737488351232 → szB w = true := fun h => Nat.ble_eq_true_of_le (by omega)
      refine ⟨⟨b, ds, pw, sf, jo, su, le, om⟩, rfl, ?_, ?_⟩
      · simp only [okS, Bool.and_eq_true, List.all_eq_true]
        exact ⟨fun w hw => sz (hds w hw), fun w hw => sz (hpw w hw), sz hjo, sz hle, Nat.ble_eq_true_of_le (by omega)⟩
      · simp only [Lit.wf, Bool.and_eq_true, decide_eq_true_eq] at hsu
        exact hsu
  | int hu => rw [Tryd.underlying24] at hu; cases hu
  | bool hu => rw [Tryd.underlying24] at hu; cases hu
  | str hu => rw [Tryd.underlying24] at hu; cases hu
  | slice hu => rw [Tryd.underlying24] at hu; cases hu
/-! ### the tables -/
abbrev laidL : List (String × DataW Unit) := [("unicode/utf8.acceptRanges", Rows.laid_unicode_utf8_acceptRanges), ("unicode/utf8.first", Rows.laid_unicode_utf8_first)]
theorem accept_eq : Rows.laid_unicode_utf8_acceptRanges (H := Unit) = Lib.acceptData := by kernel_rfl
theorem first_eq : Rows.laid_unicode_utf8_first = Lib.firstData := by kernel_rfl
theorem tabs_of {W : World} (hL : laidMet Tryd.prog laidL W) : Lib.Utf8Tabs 0 1 W := by
  have h1 : (("unicode/utf8.first", Lib.firstData) : String × DataW Unit) ∈ laidL := by rw [← first_eq]; exact .tail _ (.head _)
  have h2 : (("unicode/utf8.acceptRanges", Lib.acceptData) : String × DataW Unit) ∈ laidL := by rw [← accept_eq]; exact .head _
  exact utf8Tabs_of_readsT (U8Types.of196 Tryd.laysValid) ⟨by kernel_rfl, by kernel_rfl, by kernel_rfl, by kernel_rfl, by kernel_rfl, by kernel_rfl, by kernel_rfl⟩ (Lib.laidMet.reads hL h1) (Lib.laidMet.reads hL h2)
theorem laidOut : laidOutB Tryd.prog = true := by kernel_rfl
theorem own : ownKnob Tryd.prog.godebug = none := by kernel_rfl
/-- The witness's world: the tables laid. -/
noncomputable def wit (os : Os) : World := World.laidAll Tryd.prog os laidL
theorem wit_met (os : Os) (args : Array Value) : laidMet Tryd.prog laidL ((wit os).forCall (fun _ _ => 0) ⟨#[], args, []⟩).memory :=
  laidMet_laidAll args (by kernel_rfl) (by kernel_rfl)
theorem laidH {W : World} (h : laidMet Tryd.prog laidL W) : laidMetH Tryd.prog laidL W := by
  have e : (laidL.filter fun x => x.2.handleName?.isSome) = [] := by kernel_rfl
  unfold laidMetH
  rw [e]
  exact h
theorem laidH_of {W : World} (h : laidMetH Tryd.prog laidL W) : laidMet Tryd.prog laidL W := by
  have e : (laidL.filter fun x => x.2.handleName?.isSome) = [] := by kernel_rfl
  unfold laidMetH at h
  rw [e] at h
  exact h
theorem arg_sys {v : AV} (h : ArgIs Tryd.prog 24 v) : ∃ s : NSys, v = .agg (sysC s) ∧ okS s = true ∧ (-9223372036854775808 ≤ s.sub ∧ s.sub ≤ 9223372036854775807) := by
  obtain ⟨cs, rfl, hc⟩ := h.agg Tryd.underlying24
  obtain ⟨s, rfl, hs⟩ := sys_shape hc
  exact ⟨s, rfl, hs⟩
theorem arg_int {t : TypeId} {k : IntKind} (hu : Tryd.prog.underlying t = some (.int k)) {v : AV} (h : ArgIs Tryd.prog t v) : ∃ n : Int, v = .int k n ∧ k.min ≤ n ∧ n ≤ k.max := by
  obtain ⟨n, hn, hw⟩ := int_shape hu (h.one hu rfl)
  simp only [List.cons.injEq, and_true] at hn
  simp only [Lit.wf, Bool.and_eq_true, decide_eq_true_eq] at hw
  exact ⟨n, hn, hw⟩
theorem arg_list {v : AV} (h : ArgIs Tryd.prog 22 v) : ∃ l : List ByteArray, v = lst l ∧ (∀ w, w ∈ l → w.size ≤ 140737488351232) ∧ l.length * 16 ≤ 140737488351232 := by
  obtain ⟨l, hl, h1, h2⟩ := list_shape (h.one Tryd.underlying22 rfl)
  simp only [List.cons.injEq, and_true] at hl
  exact ⟨l, hl, h1, h2⟩
end Go.Proofs.Num
end
