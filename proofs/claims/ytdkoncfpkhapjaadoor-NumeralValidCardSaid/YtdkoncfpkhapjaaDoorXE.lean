/- Part 5 of the texts of this claim: the evaluator, and what it says of the program's functions. -/
import Derived.Test.YtdkoncfpkhapjaaDoorXD
set_option linter.unusedSectionVars false
set_option linter.unusedVariables false
set_option linter.unusedSimpArgs false
set_option linter.constructorNameAsVariable false
/- Numeral: the law of validity. -/
section
open Go Go.Vm Go.Proofs
namespace Go.Proofs.Num
theorem nvald_p (s : NSys) (n : Int) (X : Ext) (call : Caller) (lf : Nat)
  (h0 : callv X call false 13 [AV.agg (sysC s)] [Ob.cells (sysC s)] 0 = some (bo true, [Ob.cells (sysC s)]))
  (h1 : callv X call false 14 [AV.agg (sysC s)] [Ob.cells (sysC s)] 0 = some (bo false, [Ob.cells (sysC s)]))
  (h2 : callv X call false 22 [AV.agg (sysC s)] [Ob.cells (sysC s)] 0 = some (bo false, [Ob.cells (sysC s)]))
  (h3 : callv X call false 16 [AV.agg (sysC s), i6 n] [Ob.cells (sysC s)] 0 = some (AV.tup [lro 0 1 [], i6 1], [Ob.cells (sysC s)]))
  (h4 : callv X call false 28 [AV.agg (sysC s), i6 n] [Ob.cells (sysC s)] 0 = some (AV.tup [i6 0, i6 0, bo false], [Ob.cells (sysC s)]))
  (h5 : callv X call false 24 [AV.agg (sysC s), i6 n] [Ob.cells (sysC s)] 0 = some (AV.tup [i6 0, i6 0], [Ob.cells (sysC s)]))
  (h6 : callv X call true 15 [] [Ob.cells (sysC s)] 0 = some (bo true, [Ob.cells (sysC s)]))
  (h7 : callv X call true 30 [AV.agg (sysC s)] [Ob.cells (sysC s)] 0 = some (i6 (-1), [Ob.cells (sysC s)]))
  (h8 : callv X call true 20 [AV.agg (sysC s), AV.list LK.clip 1 1 [st (NSys.jo s)]] [Ob.cells (sysC s)] 0 = some (AV.list LK.nil 0 0 [], [Ob.cells (sysC s)]))
  (h9 : callv X call true 26 [AV.agg (sysC s)] [Ob.cells (sysC s)] 0 = some (AV.list LK.nil 0 0 [], [Ob.cells (sysC s)])) : vbody Tryd.prog X call lf noFg Tryd.f12 (codeOf Tryd.f12) [AV.agg (sysC s), i6 n] [] 0 = some (bo true, [Ob.cells (sysC s)]) :=
  along_sound (ans := [(5, Ans.v (bo true)), (10, Ans.v (bo false)), (14, Ans.v (bo false)), (24, Ans.v (AV.tup [lro 0 1 [], i6 1])), (33, Ans.v (AV.tup [i6 0, i6 0, bo false])), (44, Ans.v (AV.tup [i6 0, i6 0])), (51, Ans.v (bo true)), (56, Ans.v (i6 (-1))), (80, Ans.v (AV.list LK.nil 0 0 [])), (88, Ans.v (AV.list LK.nil 0 0 []))]) (by kernel_rfl) (And.intro h0 (And.intro h1 (And.intro h2 (And.intro h3 (And.intro h4 (And.intro h5 (And.intro h6 (And.intro h7 (And.intro h8 (And.intro h9 trivial))))))))))

def noparseS : List AV → Option AV
  | [.agg cs, .list .clip 1 1 [.str _]] => match sysO cs with
    | some s => if okS s = true ∧ validL s = false then some (.list .nil 0 0 []) else none
    | none => none
  | _ => none
def novocS : List AV → Option AV
  | [.agg cs] => match sysO cs with
    | some s => if okS s = true ∧ validL s = false then some (.list .nil 0 0 []) else none
    | none => none
  | _ => none
def noclashS : List AV → Option AV
  | [.agg cs, .int .i64 _] => match sysO cs with
    | some s => if okS s = true ∧ validL s = false then some (.tup [i6 0, i6 0, bo false]) else none
    | none => none
  | _ => none
def TV : Vm.Spec := addS (addS (addS T13 20 noparseS) 26 novocS) 28 noclashS
theorem TV_ok [Fixed] (hX : ∀ l, ExtOk Tryd.prog (X15 l)) : SpecOk Tryd.prog TV := by
  have inv : ∀ {s : NSys}, okS s = true ∧ validL s = false → callv (X15 []) (callerOf T13) false 22 [AV.agg (sysC s)] [Ob.cells (sysC s)] 0 = some (bo false, [Ob.cells (sysC s)]) := by
    intro s hk
    have := c_valid (dr := false) (σ := [Ob.cells (sysC s)]) (ro := 0) hk.1
    rw [hk.2] at this
    exact this
  refine SpecOk.add (SpecOk.add (SpecOk.add (T13_ok hX) ?_) ?_) ?_
  · intro vs r h
    unfold noparseS at h
    split at h
    · split at h
      · rename_i cs w x s hs
        have e := sysO_eq hs
        subst e
        split at h
        · rename_i hk
          simp only [Option.some.injEq] at h
          subst h
          exact run_at (hX []) (T13_ok hX) rfl Tryd.func20 rfl rfl (noparse_p s 1 [.str w] (X15 []) (callerOf T13) 1 (inv hk))
        · cases h
      · cases h
    · cases h
  · intro vs r h
    unfold novocS at h
    split at h
    · split at h
      · rename_i cs x s hs
        have e := sysO_eq hs
        subst e
        split at h
        · rename_i hk
          simp only [Option.some.injEq] at h
          subst h
          exact run_at (hX []) (T13_ok hX) rfl Tryd.func26 rfl rfl (novoc_p s (X15 []) (callerOf T13) 1 (inv hk))
        · cases h
      · cases h
    · cases h
  · intro vs r h
    unfold noclashS at h
    split at h
    · split at h
      · rename_i cs n x s hs
        have e := sysO_eq hs
        subst e
        split at h
        · rename_i hk
          simp only [Option.some.injEq] at h
          subst h
          exact run_at (hX []) (T13_ok hX) rfl Tryd.func28 rfl rfl (noclash_p s n (X15 []) (callerOf T13) 1 (inv hk))
        · cases h
      · cases h
    · cases h
section
variable {s : NSys} {dr : Bool} {σ : List Ob} {ro : Nat}
theorem v_small : callv (X15 []) (callerOf TV) dr 13 [AV.agg (sysC s)] σ ro = some (bo (smallL s), σ) := by
  refine call_T (r := bo (smallL s)) rfl rfl (lt_sys s) ?_ rfl rfl
  show smallS (roAll [AV.agg (sysC s)]) = _
  rw [roAll_sys]; simp only [smallS, sysO_sysC]
theorem v_valid (hk : okS s = true) : callv (X15 []) (callerOf TV) dr 22 [AV.agg (sysC s)] σ ro = some (bo (validL s), σ) := by
  refine call_T (r := bo (validL s)) rfl rfl (lt_sys s) ?_ rfl rfl
  show validS (roAll [AV.agg (sysC s)]) = _
  rw [roAll_sys]; simp only [validS, sysO_sysC, hk, if_true]
theorem v_rvalid (hk : okS s = true) : callv (X15 []) (callerOf TV) dr 14 [AV.agg (sysC s)] σ ro = some (bo (validL s), σ) := by
  refine call_T (r := bo (validL s)) rfl rfl (lt_sys s) ?_ rfl rfl
  show validS (roAll [AV.agg (sysC s)]) = _
  rw [roAll_sys]; simp only [validS, sysO_sysC, hk, if_true]
theorem v_great (hk : okS s = true) : callv (X15 []) (callerOf TV) dr 30 [AV.agg (sysC s)] σ ro = some (i6 (if validL s then 9999 else -1), σ) := by
  refine call_T (r := i6 (if validL s then 9999 else -1)) rfl rfl (lt_sys s) ?_ rfl rfl
  show greatS (roAll [AV.agg (sysC s)]) = _
  rw [roAll_sys]; simp only [greatS, sysO_sysC, hk, if_true]
theorem v_awake : callv (X15 []) (callerOf TV) dr 15 [] σ ro = some (bo true, σ) := call_T (r := bo true) rfl rfl rfl rfl rfl rfl
theorem v_words (hk : okS s = true) {n c : Int} {ws : List ByteArray} (hw : wordsO s n = some (ws, c)) : callv (X15 []) (callerOf TV) dr 16 [AV.agg (sysC s), i6 n] σ ro = some (.tup [lst ws, i6 c], σ) :=
  call_words (fun _ => rfl) rfl hk hw
theorem v_longest (hk : okS s = true) {n : Int} (hn : -9223372036854775808 ≤ n) : callv (X15 []) (callerOf TV) dr 24 [AV.agg (sysC s), i6 n] σ ro = some (.tup [i6 (longestO s n).1, i6 (longestO s n).2], σ) := by
  refine call_T (r := .tup [i6 (longestO s n).1, i6 (longestO s n).2]) rfl rfl (lt_sysn s n) ?_ rfl rfl
  show longestS (roAll [AV.agg (sysC s), i6 n]) = _
  rw [ro_sysn]
  simp only [longestS, sysO_sysC]
  rw [if_pos ⟨hk, hn⟩]
theorem v_parse (hk : okS s = true) (hv : validL s = false) : callv (X15 []) (callerOf TV) dr 20 [AV.agg (sysC s), .list .clip 1 1 [st s.jo]] σ ro = some (.list .nil 0 0 [], σ) := by
  refine call_T (r := .list .nil 0 0 []) rfl rfl (by simp [AV.ltAll, AV.lt, lt_sysC]) ?_ rfl rfl
  show noparseS [AV.agg (sysC s), .list .clip 1 1 [st s.jo]] = _
  simp only [noparseS, sysO_sysC]
  rw [if_pos ⟨hk, hv⟩]
theorem v_voc (hk : okS s = true) (hv : validL s = false) : callv (X15 []) (callerOf TV) dr 26 [AV.agg (sysC s)] σ ro = some (.list .nil 0 0 [], σ) := by
  refine call_T (r := .list .nil 0 0 []) rfl rfl (lt_sys s) ?_ rfl rfl
  show novocS [AV.agg (sysC s)] = _
  simp only [novocS, sysO_sysC]
  rw [if_pos ⟨hk, hv⟩]
theorem v_clash (hk : okS s = true) (hv : validL s = false) (n : Int) : callv (X15 []) (callerOf TV) dr 28 [AV.agg (sysC s), i6 n] σ ro = some (.tup [i6 0, i6 0, bo false], σ) := by
  refine call_T (r := .tup [i6 0, i6 0, bo false]) rfl rfl (lt_sysn s n) ?_ rfl rfl
  show noclashS [AV.agg (sysC s), i6 n] = _
  simp only [noclashS, sysO_sysC]
  rw [if_pos ⟨hk, hv⟩]
end
/-- NumeralValid: true. -/
theorem law_valid [Fixed] (hX : ∀ l, ExtOk Tryd.prog (X15 l)) {s : NSys} (hk : okS s = true) {n : Int} (n0 : -9223372036854775808 ≤ n) : CallAt Tryd.prog 12 [AV.agg (sysC s), i6 n] [] 0 (bo true) [] := by
  have run : ∀ {σ' : List Ob}, vbody Tryd.prog (X15 []) (callerOf TV) 1 noFg Tryd.f12 (codeOf Tryd.f12) [AV.agg (sysC s), i6 n] [] 0 = some (bo true, σ') → CallAt Tryd.prog 12 [AV.agg (sysC s), i6 n] [] 0 (bo true) [] :=
    fun h => run_at (hX []) (TV_ok hX) rfl Tryd.func12 rfl rfl h
  have hs := v_small (s := s) (dr := false) (σ := [Ob.cells (sysC s)]) (ro := 0)
  have hv := v_valid (dr := false) (σ := [Ob.cells (sysC s)]) (ro := 0) hk
  have hr := v_rvalid (dr := false) (σ := [Ob.cells (sysC s)]) (ro := 0) hk
  cases hsm : smallL s with
  | false =>
    rw [hsm] at hs
    exact run (nvala_p s n (X15 []) (callerOf TV) 1 hs v_awake)
  | true =>
    rw [hsm] at hs
    cases hva : validL s with
    | true =>
      rw [hva] at hv hr
      have hg := v_great (dr := false) (σ := [Ob.cells (sysC s)]) (ro := 0) hk
      rw [hva] at hg
      exact run (nvalb_p s n (X15 []) (callerOf TV) 1 hs hr hv v_awake hg)
    | false =>
      rw [hva] at hv hr
      have hg := v_great (dr := true) (σ := [Ob.cells (sysC s)]) (ro := 0) hk
      rw [hva] at hg
      have hw : wordsO s n = some ([], 1) := by unfold wordsO; rw [if_pos (.inl hva)]
      have hl := v_longest (dr := false) (σ := [Ob.cells (sysC s)]) (ro := 0) hk n0
      have e : longestO s n = (0, 0) := by unfold longestO; rw [hva]; rfl
      rw [e] at hl
      exact run (nvald_p s n (X15 []) (callerOf TV) 1 hs hr hv (v_words hk hw) (v_clash hk hva n) hl v_awake hg (v_parse hk hva) (v_voc hk hva))
end Go.Proofs.Num
end
