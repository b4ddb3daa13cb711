/- Part 5 of the texts of this claim: the evaluator, and what it says of the program's functions. -/
import Derived.Test.YtfjmemmjjihohaaDoorFirstD
import Derived.Test.YtfjmemmjjihohaaDoorFirstC
import Derived.Tactics
import Derived.Tactics2
import Derived.Laws.Pointers
set_option linter.unusedSectionVars false
set_option linter.unusedVariables false
set_option linter.unusedSimpArgs false
set_option linter.constructorNameAsVariable false
/- Signature: the parser's fail, and the closure that recovers. -/
section
open Go Go.Vm Go.Proofs
namespace Go.Proofs.Sig
variable [Fixed]
variable {X:Ext} {call:Caller}
theorem shape38:codeOf Tryd.f38 = .seq (regN Tryd.f38 0) (.cond (.tmp 5) (regN Tryd.f38 1) .skip):=by kernel_rfl
theorem mixed21:Tryd.prog.follows .mixedOrders=true:=by kernel_rfl
/-- A wrong line's number, raised. -/
def wrongV (n:Int):Value := .iface 54 (.int .i64 n)
theorem fail38 (hX:ExtOk Tryd.prog X) (hc:CallOk Tryd.prog call) {b:Bool} {o0 o1 o2 o3:Ob} {τ:List Ob} {a0 a1 a2 m:AV} {n:Int} {ro:Nat} :
    CallP Tryd.prog 38 [.ref 4 0, bo b] (o0 :: o1 :: o2 :: o3 :: .cells [a0, a1, a2, m, .int .i64 n] :: τ) ro (fun r σ' => b = true ∧ σ' = o0 :: o1 :: o2 :: o3 :: .cells [a0, a1, a2, m, .int .i64 n] :: τ ∧ r = .tup [])
      (fun v σ' => b=false∧σ' = o0::o1::o2::o3 :: .cells [a0,a1,a2,m,.int .i64 n]::τ∧v=wrongV n):=by
  refine body_P (fn:=Tryd.f38) (c:=codeOf Tryd.f38) Tryd.func38 (by kernel_rfl) (of_decide_eq_true (by kernel_rfl)) ?_
  rw [shape38]
  have e0 : vexec Tryd.prog X call 0 ro noFg (regN Tryd.f38 0) { tmps := [.ref 4 0, bo b] ++ List.replicate (Tryd.f38.ntmps - [AV.ref 4 0, bo b].length) .undef, st := o0 :: o1 :: o2 :: o3 :: .cells [a0, a1, a2, m, .int .i64 n] :: τ } =
      some (.normal,stOf 11 [] [(0,.ref 4 0),(1,bo b),(4,bo b),(5,bo (!b))] (o0::o1::o2::o3 :: .cells [a0,a1,a2,m,.int .i64 n]::τ)):=by kernel_rfl
  refine SP.seq (R1:=fun x T=>x = .normal∧T=stOf 11 [] [(0,.ref 4 0),(1,bo b),(4,bo b),(5,bo (!b))] (o0::o1::o2::o3 :: .cells [a0,a1,a2,m,.int .i64 n]::τ)) (SP.exec hX hc (by kernel_rfl) e0 ⟨rfl,rfl⟩) ?_ ?_
  · rintro T ⟨_, rfl⟩
    refine SP.cond (b := !b) rfl ?_
    cases b with
    | true =>
      refine SP.skip ⟨.inl rfl,.tup [],_,rfl,rfl,rfl,rfl⟩
    | false =>
      have hreg:regN Tryd.f38 1 = .region 1 (opsR (regN Tryd.f38 1)) false:=by kernel_rfl
      show SP Tryd.prog ro [] (regN Tryd.f38 1) _ _ _
      rw [hreg]
      refine SP.panicLast hX hc (pre := (opsR (regN Tryd.f38 1)).toList.take 4) (mi := (opsR (regN Tryd.f38 1)).toList.getD 4 default) (pn := (opsR (regN Tryd.f38 1)).toList.getD 5 default) (t := 54) (x := .tmp 9) (d := 10) (k := .i64) (n := n) (S1 := stOf 11 [] [(0, .ref 4 0), (1, bo false), (4, bo false), (5, bo true), (6, .ref 4 0), (7, .ref 4 0), (8, .ref 4 4), (9, .int .i64 n)] (o0 :: o1 :: o2 :: o3 :: .cells [a0, a1, a2, m, .int .i64 n] :: τ))
        (by kernel_rfl) (by kernel_rfl) (by kernel_rfl) (by kernel_rfl) (by kernel_rfl) rfl (by kernel_rfl) (by kernel_rfl) (by kernel_rfl) (by show 10 < 11; decide) ?_
      exact ⟨rfl,rfl,rfl⟩
  · rintro x T h ⟨e, _⟩
    exact absurd e h
theorem ta_nil (w:World):(Instr.typeAssert .nilIface 20 54 true).run Tryd.prog w = .ok (.tuple #[.int .i64 0,.bool false]) w:=by
  have hz:(Tryd.prog.info? 54).map (·.zero)=some (some (.int .i64 0)):=by kernel_rfl
  obtain ⟨i,h1,h2⟩:=Option.map_eq_some_iff.1 hz
  simp [Instr.typeAssert,run_underlying Tryd.underlying54,zeroValue,typeInfo,h1,h2,go_sem,Result.andThen]
theorem ta_wrong (n:Int) (w:World):(Instr.typeAssert (.iface 54 (.int .i64 n)) 20 54 true).run Tryd.prog w = .ok (.tuple #[.int .i64 n,.bool true]) w:=by
  simp [Instr.typeAssert,run_underlying Tryd.underlying54,go_sem,Result.andThen]
set_option maxRecDepth 100000 in
set_option maxHeartbeats 4000000 in
theorem idle36:Idle Tryd.prog 36 3:=by
  intro w us hl
  match us,hl with
  | [a,b,c],_ =>
  refine callsD_of_wpS Tryd.func36 rfl fun c₀ cs hu => ?_
  apply wpS_seq
  apply wpS_region
  simp [wpOpsS,go_sem,recoverD,hu,Tryd.ntmps36,Exit.thenS,ta_nil]
  apply wpS_seq
  apply wpS_region
  simp [wpOpsS,go_sem,Exit.thenS]
  refine wpS_cond (t:=false) (by simp [Act.eval,Array.replicate]) ?_
  simp only [Bool.false_eq_true,if_false]
  refine wpS_of_wp (wp_skip ?_)
  cases c₀
  simp_all [bodyPostS,results,Tryd.results36]
abbrev emptyG:AV := .agg [.list .nil 0 0 [],.list .nil 0 0 [],.list .nil 0 0 []]
set_option maxRecDepth 100000 in
set_option maxHeartbeats 4000000 in
/-- The closure of Parse: what it lays into the results. -/
theorem catch36 (hX:ExtOk Tryd.prog X) (hc:CallOk Tryd.prog call) {n:Int} {b0 b1 b2 e0 e1:AV} {τ:List Ob}:Catch Tryd.prog 36 [.ref 0 0,.ref 1 0,.ref 2 0] (wrongV n) (.cells [b0,b1,b2] :: .cells [e0] :: .cells [e1]::τ)
    (.cells [.list .nil 0 0 [],.list .nil 0 0 [],.list .nil 0 0 []] :: .cells [.int .i64 n] :: .cells [.int .i64 3]::τ):=by
  intro C w us hs hσ hr
  match us,hr with
  | [a,b,c],hr =>
  refine callsD_of_wpS Tryd.func36 rfl fun c₀ cs hu => ?_
  apply wpS_seq
  apply wpS_region
  simp [wpOpsS,go_sem,recoverD,hu,Tryd.ntmps36,Exit.thenS,one,wrongV,ta_wrong]
  have hex : vexec Tryd.prog X call 0 0 noFg (.seq (regN Tryd.f36 1) (.cond (.tmp 10) (regN Tryd.f36 2) .skip)) ⟨[.ref 0 0, .ref 1 0, .ref 2 0, .int .i64 n, .bool true, .any, .any, .any, .any, .any, .any, .any, .any], .cells [b0, b1, b2] :: .cells [e0] :: .cells [e1] :: τ⟩ =
      some (.normal,⟨[.ref 0 0,.ref 1 0,.ref 2 0,.int .i64 n,.bool true,.any,.any,.any,.any,.any,.bool true,emptyG,.int .i64 n],.cells [.list .nil 0 0 [],.list .nil 0 0 [],.list .nil 0 0 []] :: .cells [.int .i64 n] :: .cells [.int .i64 3]::τ⟩):=by kernel_rfl
  refine wpS_of_wp (c := .seq (regN Tryd.f36 1) (.cond (.tmp 10) (regN Tryd.f36 2) .skip)) ?_
  refine vexec_sound hX hc _ (by kernel_rfl) C w _ _ _ .normal _ hex (ds:=[]) ⟨hσ.symm,hs,?_,rfl⟩ (Nat.zero_le _) ?_
  · simp only [RepAll] at hr
    simp [RepAll,Rep] at hr ⊢
    exact hr
  · intro C1 w1 a1 hat1 hg1
    refine ⟨hat1.defers,_,rfl,.tuple #[],?_,⟨_,rfl⟩,rfl,C1,hat1.ok,hg1,hat1.st.symm⟩
    simp [results,Tryd.results36]
end Go.Proofs.Sig
end
