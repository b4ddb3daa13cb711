/- Part 8 of the texts of this claim: the evaluator, and what it says of the program's functions. -/
import Derived.Test.YtogacbdboplbfaaDoorMergedG
set_option linter.unusedSectionVars false
set_option linter.unusedVariables false
set_option linter.unusedSimpArgs false
set_option linter.constructorNameAsVariable false
/- Lexicon: the law of merged lexicons. -/
section
open Go Go.Vm Go.Proofs
namespace Go.Proofs.Lex
theorem find_app (A B:List Lexm) (s:ByteArray):findL (A ++ B) s=if (findL A s).2 then findL A s else findL B s:=by
  unfold findL
  rw [List.find?_append]
  cases h:A.find? fun x=>decide (x.id=s) with
  | some x=>rfl
  | none=>rfl
theorem nL_left {A B:List Lexm} {i:Nat} (h:i < A.length):nL (A ++ B) i=nL A i:=by
  rw [nL,getD_lt (by rw [List.length_append]; omega),List.getElem_append_left h,nL,getD_lt h]
theorem nL_right {A B:List Lexm} {j:Nat} (h:j < B.length):nL (A ++ B) (A.length + j)=nL B j:=by
  rw [nL,getD_lt (by rw [List.length_append]; omega),List.getElem_append_right (by omega),nL,getD_lt h]
  simp
theorem seen_iff {L:List Lexm} {i:Nat} (hi:i ≤ L.length) (x:ByteArray):((idsV L i).any fun y=>decide (y=x))=true ↔ ∃ j,j < i∧(nL L j).id=x:=by
  unfold idsV
  rw [List.any_eq_true]
  constructor
  · rintro ⟨y, hy, e⟩
    obtain ⟨z,hz,rfl⟩:=List.mem_map.1 hy
    obtain ⟨j,hj,rfl⟩:=List.mem_take_iff_getElem.1 hz
    exact ⟨j,by omega,by rw [nL,getD_lt (show j < L.length by omega)]; exact of_decide_eq_true e⟩
  · rintro ⟨j, hj, e⟩
    refine ⟨_,List.mem_map.2 ⟨nL L j,?_,rfl⟩,decide_eq_true e⟩
    rw [nL,getD_lt (show j < L.length by omega)]
    exact List.mem_take_iff_getElem.2 ⟨j,by omega,rfl⟩
theorem seen_left {A B:List Lexm} {i:Nat} (h:i < A.length):seenI (A ++ B) i=seenI A i:=by
  unfold seenI idsV
  rw [nL_left h,List.take_append_of_le_length (by omega)]
theorem seen_right {A B:List Lexm} {j:Nat} (h:j < B.length) (hb:badM A B j=false):seenI (A ++ B) (A.length + j)=false∧seenI B j=false:=by
  have hn : ¬ badM A B j=true:=by rw [hb]; simp
  rw [badM_iff] at hn
  constructor
  · rw [Bool.eq_false_iff]
    intro hs
    unfold seenI at hs
    rw [seen_iff (by rw [List.length_append]; omega),nL_right h] at hs
    obtain ⟨i,hi,e⟩:=hs
    by_cases hia:i < A.length
    · rw [nL_left hia] at e
      exact hn (.inl ⟨i,hia,e⟩)
    · obtain ⟨k, rfl⟩ : ∃ k, i = A.length + k := ⟨i - A.length, by omega⟩
      rw [nL_right (by omega)] at e
      exact hn (.inr ⟨k,by omega,e⟩)
  · rw [Bool.eq_false_iff]
    intro hs
    unfold seenI at hs
    rw [seen_iff (by omega)] at hs
    exact hn (.inr hs)
/-- A merged lexicon is valid if both are. -/
theorem valid_app (a:List Lett) {A B:List Lexm} (hb:∀ j,j < B.length→badM A B j=false) (hl:A.length + B.length ≤ 256):validLex a (A ++ B)=(validLex a A && validLex a B):=by
  have hA : ∀ i, i < A.length → okI a (A ++ B) i = okI a A i := fun i hi => by
    unfold okI
    rw [seen_left hi,nL_left hi]
  have hB : ∀ j, j < B.length → okI a (A ++ B) (A.length + j) = okI a B j := fun j hj => by
    unfold okI
    obtain ⟨h1,h2⟩:=seen_right hj (hb j hj)
    rw [h1,h2,nL_right hj]
  have hall : (List.range (A ++ B).length).all (okI a (A ++ B)) = ((List.range A.length).all (okI a A) && (List.range B.length).all (okI a B)) := by
    rw [Bool.eq_iff_iff,Bool.and_eq_true,List.all_eq_true,List.all_eq_true,List.all_eq_true,List.length_append]
    constructor
    · intro h
      refine ⟨fun i hi => ?_,fun j hj => ?_⟩
      · have hi' := List.mem_range.1 hi
        rw [← hA i hi']
        exact h i (List.mem_range.2 (by omega))
      · have hj' := List.mem_range.1 hj
        rw [← hB j hj']
        exact h _ (List.mem_range.2 (by omega))
    · rintro ⟨h1, h2⟩ i hi
      have hi' := List.mem_range.1 hi
      by_cases hia:i < A.length
      · rw [hA i hia]
        exact h1 i (List.mem_range.2 hia)
      · obtain ⟨k, rfl⟩ : ∃ k, i = A.length + k := ⟨i - A.length, by omega⟩
        rw [hB k (by omega)]
        exact h2 k (List.mem_range.2 (by omega))
  unfold validLex
  rw [hall,decide_eq_true (show (A ++ B).length ≤ 256 by rw [List.length_append]; omega),decide_eq_true (show A.length ≤ 256 by omega),decide_eq_true (show B.length ≤ 256 by omega)]
  cases alphaF a <;> cases (List.range A.length).all (okI a A) <;> cases (List.range B.length).all (okI a B) <;> rfl
section
variable [Fixed] {X:Ext}
/-- What the law asks. -/
def V13 (a0:List Lett) (A B:List Lexm):Go.Vm.Spec:=(((TB.on 36 (sp2 aLs aLs fun x y=>if x=A∧y=B then some (aLsE.enc (mergeF A B)) else none)).on 26 (sp2 aLs aS fun L s=>if okLsB L=true then some (aLB.enc (findL L s)) else none)).on 38 (sp2 aTs aLs fun a L=>if a=a0∧(L=A ∨ L=B ∨ L=A ++ B) then some (aB.enc (validLex a L)) else none)).on 25 (sp2 aL aL fun x y=>if x.feats.length ≤ big then some (aB.enc (decide (x=y))) else none)
theorem okLs_app {A B:List Lexm} (hA:okLs A) (hB:okLs B) (h:(A.length + B.length) * 89 ≤ big):okLs (A ++ B) :=
  ⟨by rw [List.length_append]; exact h,fun x hx=>(List.mem_append.1 hx).elim (hA.2 x) (hB.2 x)⟩
theorem V13_ok (hX:ExtOk Tryd.prog X) (hM:XV X) (h14:CallAt Tryd.prog 14 [] [] 0 (bo true) []) {a0:List Lett} {A B:List Lexm} (ha:a0.length ≤ big) (hA:okLs A) (hB:okLs B) (hb:(A.length + B.length) * 89 ≤ big) (kA:∀ x ∈ A,okV x) (kB:∀ x ∈ B,okV x):SpecOk Tryd.prog (V13 a0 A B):=by
  have hL:=hM.toXM.toXL
  refine SpecOk.on2 (SpecOk.on2 (SpecOk.on2 (SpecOk.on2 (TB_ok hX hL h14) fun x y r h => ?_) fun L s r h => ?_) fun a L r h => ?_) fun x y r h => ?_
  · exact on_cond (α:=Nat) (β:=Nat) (Q:=fun r=>CallAt Tryd.prog 36 [aLs.enc x,aLs.enc y] [] 0 r []) h fun ⟨e1,e2⟩=>by subst e1 e2; exact call36 hX hL hA hB hb
  · exact on_cond (α:=Nat) (β:=Nat) (Q:=fun r=>CallAt Tryd.prog 26 [aLs.enc L,aS.enc s] [] 0 r []) h fun e=>call26 hX hL (okLsB_iff.1 e)
  · refine on_cond (α := Nat) (β := Nat) (Q := fun r => CallAt Tryd.prog 38 [aTs.enc a, aLs.enc L] [] 0 r []) h fun ⟨e1, e2⟩ => ?_
    subst e1
    have hl : ∀ x ∈ L, okV x := by
      rcases e2 with rfl | rfl | rfl
      · exact kA
      · exact kB
      · exact fun x hx=>(List.mem_append.1 hx).elim (kA x) (kB x)
    refine call38 hX hM ha ?_ hl
    rcases e2 with rfl | rfl | rfl
    · exact okLs_len hA
    · exact okLs_len hB
    · exact okLs_len (okLs_app hA hB hb)
  · exact on_cond (α:=Nat) (β:=Nat) (Q:=fun r=>CallAt Tryd.prog 25 [aL.enc x,aL.enc y] [] 0 r []) h fun e=>call25 hX hL e
variable (hX:ExtOk Tryd.prog X) (hM:XV X) (h14:CallAt Tryd.prog 14 [] [] 0 (bo true) [])
include hX hM h14
theorem law13a {a:List Lett} {A B:List Lexm} {s:ByteArray} (ha:a.length ≤ big) (hA:A.length ≤ big) (hB:B.length ≤ big) (kA:∀ x ∈ A,okV x) (kB:∀ x ∈ B,okV x):CallAt Tryd.prog 13 [aTs.enc a,aLs.enc A,aLs.enc B,aS.enc s] [] 0 (aB.enc true) []:=by
  have hL:=hM.toXM.toXL
  have hb:Tryd.f13.body=some (codeOf Tryd.f13):=by kernel_rfl
  have c15 : ∀ {T : Go.Vm.Spec} {L : List Lexm} {b : Bool} (_ : T 15 [lexsV L] = some (bo b)) (σ : List Ob), callv X (callerOf T) false 15 [lexsV L] σ 0 = some (bo b, σ) := fun {T L b} h σ => by
    obtain ⟨a1,a2,a3⟩:=hL.ok 15 rfl
    refine call_on (B:=aB) (T:=T) (y:=b) (vs:=[aLs.enc L]) a1 a2 a3 (by simp only [AV.ltAll,aLs.lt,Bool.and_self]) h
  have t15:∀ L:List Lexm,L.length ≤ big→TB 15 [lexsV L]=some (bo (fewL L)):=fun L h=>s1_at (A:=aLs) (B:=aB) (g:=fewL) (ok:=fun L=>L.length ≤ big) h
  have o14 : ∀ {T : Go.Vm.Spec} (_ : T 14 [] = some (bo true)) (σ : List Ob), callv X (callerOf T) false 14 [] σ 0 = some (bo true, σ) := fun {T} h σ => by
    obtain ⟨a1,a2,a3⟩:=hL.ok 14 rfl
    exact call_on (B:=aB) (y:=true) a1 a2 a3 rfl h
  have early : vexec Tryd.prog X (callerOf TB) 0 0 fg13 (regN Tryd.f13 1) (f13_S0 a A B s) = some (Ex.normal, (f13_S2 a A B s true)) → CallAt Tryd.prog 13 [aTs.enc a, aLs.enc A, aLs.enc B, aS.enc s] [] 0 (aB.enc true) [] := fun h =>
    run_res (B:=aB) hX (callerOf_ok (TB_ok hX hL h14)) (hL.dom 13 rfl rfl) Tryd.func13 hb (f13_ptt a A B s true X (callerOf TB) 0 h rfl (o14 rfl _)) rfl
  have tA:=t15 A hA
  have tB:=t15 B hB
  cases hfA:fewL A with
  | false =>
    rw [hfA] at tA
    exact early (f13_g1_tf a A B s X (callerOf TB) 0 (o14 rfl _) (c15 tA _))
  | true =>
    rw [hfA] at tA
    cases hfB:fewL B with
    | false =>
      rw [hfB] at tB
      exact early (f13_g1_ttf a A B s X (callerOf TB) 0 (o14 rfl _) (c15 tA _) (c15 tB _))
    | true =>
      rw [hfB] at tB
      by_cases h60:(s.size:Int) > 60
      · exact early (f13_g1_tttt a A B s X (callerOf TB) 0 (o14 rfl _) (c15 tA _) (c15 tB _) (decide_eq_true h60))
      by_cases h70:(a.length:Int) > 70
      · exact early (f13_g1_tttft a A B s X (callerOf TB) 0 (o14 rfl _) (c15 tA _) (c15 tB _) (decide_eq_false h60) (decide_eq_true h70))
      have oA:=okLs_few hfA
      have oB:=okLs_few hfB
      have len : ∀ L, fewL L = true → L.length ≤ 300 := fun L h => by
        unfold fewL at h
        rw [Bool.and_eq_true] at h
        have:=of_decide_eq_true h.2
        omega
      have lA:=len A hfA
      have lB:=len B hfB
      have hAB:(A.length + B.length) * 89 ≤ big:=by show _ ≤ 140737488355328; omega
      have oAB:=okLs_app oA oB hAB
      have hC:=callerOf_ok (V13_ok hX hM h14 ha oA oB hAB kA kB)
      have r1:=f13_g1_tttff a A B s X (callerOf (V13 a A B)) 0 (o14 rfl _) (c15 (T:=V13 a A B) tA _) (c15 (T:=V13 a A B) tB _) (decide_eq_false h60) (decide_eq_false h70)
      have c36 : ∀ {R : List Lexm} {n : Int}, mergeF A B = (R, n) → callv X (callerOf (V13 a A B)) false 36 [lexsV A, lexsV B] [] 0 = some (.tup [lexsV R, i6 n], []) := fun {R n} e => by
        have:=on_two (A:=aLs) (B:=aLs) (D:=aLsE) (T:=V13 a A B) (f:=36) (x:=A) (y:=B) (z:=mergeF A B) hL rfl rfl (if_pos ⟨rfl,rfl⟩) false []
        rw [e] at this
        exact this
      have c26 : ∀ {L : List Lexm} {x : Lexm} {b : Bool}, okLs L → findL L s = (x, b) → ∀ σ, callv X (callerOf (V13 a A B)) false 26 [lexsV L, st s] σ 0 = some (.tup [.agg (lexC x), bo b], σ) := fun {L x b} h e σ =>
        on_two (A:=aLs) (B:=aS) (D:=aLB) (T:=V13 a A B) (z:=(x,b)) hL rfl rfl (by rw [if_pos (okLsB_iff.2 h),e]) false σ
      have c38 : ∀ {L : List Lexm} {b : Bool}, (L = A ∨ L = B ∨ L = A ++ B) → validLex a L = b → ∀ σ, callv X (callerOf (V13 a A B)) false 38 [lettsV a, lexsV L] σ 0 = some (bo b, σ) := fun {L b} h e σ =>
        on_two (A:=aTs) (B:=aLs) (D:=aB) (T:=V13 a A B) (z:=b) hL rfl rfl (by rw [if_pos ⟨rfl,h⟩,e]) false σ
      have c25 : ∀ {x : Lexm}, x.feats.length ≤ big → ∀ σ, callv X (callerOf (V13 a A B)) false 25 [.agg (lexC x), .agg (lexC x)] σ 0 = some (bo true, σ) := fun {x} h σ =>
        on_two (A:=aL) (B:=aL) (D:=aB) (T:=V13 a A B) (z:=true) hL rfl rfl (by rw [if_pos h,decide_eq_true rfl]) false σ
      -- what Merge says
      have hmerge : (∃ n, n ≠ 0 ∧ mergeF A B = ([], n)) ∨ (mergeF A B = (A ++ B, 0) ∧ (∀ j, j < B.length → badM A B j = false) ∧ A.length + B.length ≤ 256) := by
        unfold mergeF
        by_cases h1:∃ i,i < B.length∧badM A B i=true
        · rw [if_pos h1]; exact .inl ⟨5,by decide,rfl⟩
        · rw [if_neg h1]
          by_cases h2:256 < A.length + B.length
          · rw [if_pos h2]; exact .inl ⟨2,by decide,rfl⟩
          · rw [if_neg h2]
            refine .inr ⟨rfl,fun j hj => ?_,by omega⟩
            rw [Bool.eq_false_iff]
            exact fun h=>h1 ⟨j,hj,h⟩
      rcases hmerge with ⟨n,hn,e⟩ | ⟨e,hbad,h256⟩
      · exact run_res (B:=aB) hX hC (hL.dom 13 rfl rfl) Tryd.func13 hb (f13_pftt a A B s false X (callerOf (V13 a A B)) 0 _ _ n r1 rfl (c36 e) (by simpa using hn) rfl) rfl
      · have hv := valid_app a hbad h256
        have hfa:=find_app A B s
        obtain ⟨p,b12,ep⟩:∃ p b,findL A s=(p,b):=⟨_,_,rfl⟩
        obtain ⟨q,b14,eq⟩:∃ q b,findL B s=(q,b):=⟨_,_,rfl⟩
        obtain ⟨w,b16,ew⟩:∃ w b,findL (A ++ B) s=(w,b):=⟨_,_,rfl⟩
        have hwl : w.feats.length ≤ big := by
          have h:=findL_cases (A ++ B) s
          rw [ew] at h
          rcases h with ⟨_,h⟩ | ⟨k,hk,_,h⟩
          · simp only [Prod.mk.injEq] at h
            rw [h.1]
            exact Nat.zero_le _
          · simp only [Prod.mk.injEq] at h
            rw [h.1]
            exact okL_len (oAB.2 _ (by rw [nL,getD_lt hk]; exact List.getElem_mem hk))
        have r6 : vexec Tryd.prog X (callerOf (V13 a A B)) 0 0 fg13 (regN Tryd.f13 6) (f13_S3 a A B s false (A ++ B).length ((A ++ B).flatMap lexC) 0) = some (Ex.normal, f13_S4 a A B s false p b12 (A ++ B).length ((A ++ B).flatMap lexC) 0) := by
          cases b12
          · exact f13_g6_f a A B s false X (callerOf (V13 a A B)) 0 _ _ _ _ _ _ _ _ _ _ (c26 oA ep _) rfl
          · exact f13_g6_t a A B s false X (callerOf (V13 a A B)) 0 _ _ _ _ _ _ _ _ _ _ (c26 oA ep _) rfl
        have r7 : vexec Tryd.prog X (callerOf (V13 a A B)) 0 0 fg13 (regN Tryd.f13 7) (f13_S4 a A B s false p b12 (A ++ B).length ((A ++ B).flatMap lexC) 0) = some (Ex.normal, f13_S5 a A B s false p b12 q b14 (A ++ B).length ((A ++ B).flatMap lexC) 0) := by
          cases b14
          · exact f13_g7_f a A B s false p b12 X (callerOf (V13 a A B)) 0 _ _ _ _ _ _ _ _ _ _ (c26 oB eq _) rfl
          · exact f13_g7_t a A B s false p b12 X (callerOf (V13 a A B)) 0 _ _ _ _ _ _ _ _ _ _ (c26 oB eq _) rfl
        have r8 : vexec Tryd.prog X (callerOf (V13 a A B)) 0 0 fg13 (regN Tryd.f13 8) (f13_S5 a A B s false p b12 q b14 (A ++ B).length ((A ++ B).flatMap lexC) 0) = some (Ex.normal, f13_S6 a A B s false p b12 q b14 w b16 (A ++ B).length ((A ++ B).flatMap lexC) 0) := by
          cases b16
          · exact f13_g8_f a A B s false p b12 q b14 X (callerOf (V13 a A B)) 0 _ _ _ _ _ _ _ _ _ _ (c26 oAB ew _) rfl
          · exact f13_g8_t a A B s false p b12 q b14 X (callerOf (V13 a A B)) 0 _ _ _ _ _ _ _ _ _ _ (c26 oAB ew _) rfl
        have r9 : vexec Tryd.prog X (callerOf (V13 a A B)) 0 0 fg13 (regN Tryd.f13 9) (f13_S6 a A B s false p b12 q b14 w b16 (A ++ B).length ((A ++ B).flatMap lexC) 0) = some (Ex.normal, f13_S9 a A B s false p b12 q b14 w b16 false (A ++ B).length ((A ++ B).flatMap lexC) 0) := by
          rw [ep,eq,ew] at hfa
          cases b12 with
          | true =>
            simp only [if_true,Prod.mk.injEq] at hfa
            obtain ⟨rfl,rfl⟩:=hfa
            cases b14 with
            | true=>exact f13_g9_tttttt a A B s false w true q true w true X (callerOf (V13 a A B)) 0 _ _ _ rfl rfl rfl (c25 hwl _) rfl rfl
            | false=>exact f13_g9_ttttf a A B s false w true q false w true X (callerOf (V13 a A B)) 0 _ _ _ rfl rfl rfl (c25 hwl _) rfl
          | false =>
            simp only [Bool.false_eq_true,if_false,Prod.mk.injEq] at hfa
            obtain ⟨rfl,rfl⟩:=hfa
            cases b16 with
            | true=>exact f13_g9_tftftft a A B s false p false w true w true X (callerOf (V13 a A B)) 0 _ _ _ rfl rfl rfl rfl rfl rfl (c25 hwl _)
            | false=>exact f13_g9_fffff a A B s false p false w false w false X (callerOf (V13 a A B)) 0 _ _ _ rfl rfl rfl rfl rfl
        have r11 : vexec Tryd.prog X (callerOf (V13 a A B)) 0 0 fg13 (regN Tryd.f13 11) (f13_S9 a A B s false p b12 q b14 w b16 false (A ++ B).length ((A ++ B).flatMap lexC) 0) = some (Ex.normal, f13_S12 a A B s false p b12 q b14 w b16 false true (A ++ B).length ((A ++ B).flatMap lexC) 0) := by
          cases hvA:validLex a A with
          | false =>
            rw [hvA,Bool.false_and] at hv
            exact f13_g11_ff a A B s false p b12 q b14 w b16 false X (callerOf (V13 a A B)) 0 _ _ _ (c38 (.inr (.inr rfl)) hv _) (c38 (.inl rfl) hvA _)
          | true =>
            rw [hvA,Bool.true_and] at hv
            cases hvB:validLex a B with
            | false =>
              rw [hvB] at hv
              exact f13_g11_ftf a A B s false p b12 q b14 w b16 false X (callerOf (V13 a A B)) 0 _ _ _ (c38 (.inr (.inr rfl)) hv _) (c38 (.inl rfl) hvA _) (c38 (.inr (.inl rfl)) hvB _)
            | true =>
              rw [hvB] at hv
              exact f13_g11_ttt a A B s false p b12 q b14 w b16 false X (callerOf (V13 a A B)) 0 _ _ _ (c38 (.inr (.inr rfl)) hv _) (c38 (.inl rfl) hvA _) (c38 (.inr (.inl rfl)) hvB _)
        exact run_res (B:=aB) hX hC (hL.dom 13 rfl rfl) Tryd.func13 hb (f13_pfff a A B s false p b12 q b14 w b16 false true X (callerOf (V13 a A B)) 0 _ _ 0 r1 rfl (c36 e) rfl r6 r7 r8 r9 rfl r11) rfl
end
end Go.Proofs.Lex
end
