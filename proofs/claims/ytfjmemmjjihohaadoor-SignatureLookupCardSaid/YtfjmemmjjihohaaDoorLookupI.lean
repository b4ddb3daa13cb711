/- Part 9 of the texts of this claim: the evaluator, and what it says of the program's functions. -/
import Derived.Test.YtfjmemmjjihohaaDoorLookupH
set_option linter.unusedSectionVars false
set_option linter.unusedVariables false
set_option linter.unusedSimpArgs false
set_option linter.constructorNameAsVariable false
/- Signature: the law of Valid, walked (printed) -/
section
open Go Go.Vm Go.Proofs
namespace Go.Proofs.Sig
end Go.Proofs.Sig
end
/- Signature: the law of Valid. -/
section
open Go Go.Vm Go.Proofs
namespace Go.Proofs.Sig
variable [Fixed] {X:Ext}
end Go.Proofs.Sig
end
/- Signature: sameness of predicates, predicates found and copied. -/
section
open Go Go.Vm Go.Proofs
namespace Go.Proofs.Sig
/-- The predicate of a name. -/
def predOf (x:Sgn) (s:ByteArray):Prd × Bool:=match x.preds.find? (fun c=>c.name.toList == s.toList) with
  | some c=>(c,true)
  | none=>(d0P,false)
def eqSs (l m:List ByteArray):Bool:=decide (l=m)
def eqPr (p q:Prd):Bool:=decide (p=q)
variable [Fixed] {X:Ext}
def aPB:Arg (Prd × Bool):=Arg.tup2 aP aB
theorem equal42 {call:Caller} {lf:Nat} {l m:List ByteArray} (hl:l.length ≤ big) (hlf:l.length < lf):vbody Tryd.prog X call lf noFg Tryd.f42 (codeOf Tryd.f42) [strsV l,strsV m] [] 0=some (bo (eqSs l m),[]):=by
  by_cases he:l.length=m.length
  · have ho : ∀ i, (i < l.length → nS l i = nS m i → f42_o0 l i (nS l i) (nS m i) = 0) ∧ (i < l.length → ¬ nS l i = nS m i → f42_o0 l i (nS l i) (nS m i) = 1) ∧ (l.length ≤ i → f42_o0 l i (nS l i) (nS m i) = 2) := by
      intro i
      unfold f42_o0
      refine ⟨fun a b => ?_,fun a b => ?_,fun a => ?_⟩
      · rw [dt a,eqB_iff.2 b]; rfl
      · rw [dt a,eqB_ne.2 b]; rfl
      · rw [df a]
    rcases first_fail (p:=fun i=>nS l i=nS m i) l.length with hall | ⟨k,hk,hbad,hbef⟩
    · have M := f42_M l m X call lf l.length (fun i => nS l i) (fun i => tS l i) (fun i => nS m i) (fun i => tS m i) hlf (fun i _ h => at_strs (dlt h)) (fun i _ h => at_strs (he ▸ dlt h)) (fun i h _ => up h hl) (fun j hj => (ho j).1 hj (hall j hj))
      rw [show eqSs l m=true from decide_eq_true (list_ext (d:=emp) he hall)]
      exact M.2 ((ho _).2.2 (Nat.le_refl _)) (neq_false he)
    · have M := f42_M l m X call lf k (fun i => nS l i) (fun i => tS l i) (fun i => nS m i) (fun i => tS m i) (by omega) (fun i _ h => at_strs (dlt h)) (fun i _ h => at_strs (he ▸ dlt h)) (fun i h _ => up h (by omega)) (fun j hj => (ho j).1 (by omega) (hbef j hj))
      rw [show eqSs l m=false from decide_eq_false (fun e=>hbad (by rw [e]))]
      exact M.1 ((ho k).2.1 hk hbad) (neq_false he)
  · rw [show eqSs l m = false from decide_eq_false (fun e => he (by rw [e]))]
    exact f42_pt l m X call lf (neq_true he)
theorem same25 {call:Caller} {lf:Nat} {p q:Prd} (h42:∀ σ,callv X call false 42 [strsV p.args,strsV q.args] σ 0=some (bo (eqSs p.args q.args),σ)):∃ σ',vbody Tryd.prog X call lf noFg Tryd.f25 (codeOf Tryd.f25) [.agg (prdC p),.agg (prdC q)] [] 0=some (bo (eqPr p q),σ'):=by
  have M:=f25_P0 p q X call lf (eqSs p.args q.args) (fun _=>h42 _)
  unfold f25_q0 at M
  unfold eqPr
  cases hn:p.name.toList == q.name.toList with
  | false =>
    rw [hn] at M
    rw [show decide (p=q)=false from decide_eq_false (fun e=>eqB_ne.1 hn (by rw [e]))]
    exact ⟨_,M.2 rfl⟩
  | true =>
    rw [hn] at M
    cases hs:eqSs p.args q.args with
    | false =>
      rw [hs] at M
      rw [show decide (p=q)=false from decide_eq_false (fun e=>of_decide_eq_false hs (by rw [e]))]
      exact ⟨_,M.2 rfl⟩
    | true =>
      rw [hs] at M
      rw [show decide (p = q) = true from decide_eq_true (by
        have h1:=eqB_iff.1 hn
        have h2:=of_decide_eq_true hs
        cases p; cases q
        simp only at h1 h2
        rw [h1,h2])]
      exact ⟨_,M.1 rfl⟩
theorem pred22 {call:Caller} {lf:Nat} {x:Sgn} {s:ByteArray} (hk:okG x=true) (hlf:1000001 < lf):∃ r σ',vbody Tryd.prog X call lf fg22 Tryd.f22 (codeOf Tryd.f22) [.agg (sgnC x),st s] [] 0=some (r,σ')∧aPB.dec r=some (predOf x s):=by
  obtain ⟨hns,hnc,hnp,hss,hcc,hpp⟩:=okG_iff.1 hk
  have hbig:big=140737488355328:=rfl
  have ho : ∀ i, (i < x.preds.length → (nP x.preds i).name.toList == s.toList → f22_o0 x s i (nP x.preds i).name = 1) ∧ (i < x.preds.length → ((nP x.preds i).name.toList == s.toList) = false → f22_o0 x s i (nP x.preds i).name = 0) ∧ (x.preds.length ≤ i → f22_o0 x s i (nP x.preds i).name = 2) := by
    intro i
    unfold f22_o0
    refine ⟨fun a b => ?_,fun a b => ?_,fun a => ?_⟩
    · rw [dt a,b]
    · rw [dt a,b]
    · rw [df a]
  unfold predOf
  rcases first_fail (p:=fun i=>((nP x.preds i).name.toList == s.toList)=false) x.preds.length with hall | ⟨k,hk',hbad,hbef⟩
  · have M := f22_M x s X call lf x.preds.length (fun i => (nP x.preds i).name) (fun i => (nP x.preds i).args) (fun i => tP x.preds i) (by omega) (fun i _ h => at_prd (dlt h)) (fun i h _ => up h (by omega)) (fun j hj => (ho j).2.1 hj (hall j hj))
    rw [find_no d0P hall]
    exact ⟨_,_,M.2 ((ho _).2.2 (Nat.le_refl _)),rfl⟩
  · have M := f22_M x s X call lf k (fun i => (nP x.preds i).name) (fun i => (nP x.preds i).args) (fun i => tP x.preds i) (by omega) (fun i _ h => at_prd (dlt h)) (fun i h _ => up h (by omega)) (fun j hj => (ho j).2.1 (by omega) (hbef j hj))
    have hb:((nP x.preds k).name.toList == s.toList)=true:=by simpa using hbad
    rw [find_at d0P hk' hb hbef]
    refine ⟨_,_,M.1 ((ho k).1 hk' hb) _ _ (vend1_plain (by simp [AV.owns,AV.ownsAll,owns_strs])),?_⟩
    have:=aPB.de (nP x.preds k,true)
    rw [show aPB.enc (nP x.preds k,true) = .tup [.agg (prdC (nP x.preds k)),bo true] by show AV.tup [aP.enc _,_]=_; rw [aP_enc]; rfl] at this
    exact this
theorem copied43 {call:Caller} {lf:Nat} {p:Prd} (h48:callv X (call0 call) true 48 [strsV p.args] [] 0=some (strsV p.args,[])) (h55:callv X (call0 call) true 55 [strsV p.args] [] 0=some (strsV p.args,[])):∃ σ',vbody Tryd.prog X call lf fg43 Tryd.f43 (codeOf Tryd.f43) [.agg (prdC p)] [] 0=some (.agg (prdC p),σ') :=
  ⟨_,f43_p p X call lf p.args p.args _ _ h48 h55 (vend1_plain (by simp [AV.owns,AV.ownsAll,owns_strs]))⟩
theorem pred21 {call:Caller} {lf:Nat} {x:Sgn} {s:ByteArray} (hk:okG x=true) (hlf:1000001 < lf) (h43:∀ p,p ∈ x.preds→∀ σ,callv X call false 43 [.agg (prdC p)] σ 0=some (.agg (prdC p),σ)):∃ r σ',vbody Tryd.prog X call lf fg21 Tryd.f21 (codeOf Tryd.f21) [.agg (sgnC x),st s] [] 0=some (r,σ')∧aPB.dec r=some (predOf x s):=by
  obtain ⟨hns,hnc,hnp,hss,hcc,hpp⟩:=okG_iff.1 hk
  have hbig:big=140737488355328:=rfl
  have ho : ∀ i, (i < x.preds.length → (nP x.preds i).name.toList == s.toList → f21_o0 x s i (nP x.preds i).name = 1) ∧ (i < x.preds.length → ((nP x.preds i).name.toList == s.toList) = false → f21_o0 x s i (nP x.preds i).name = 0) ∧ (x.preds.length ≤ i → f21_o0 x s i (nP x.preds i).name = 2) := by
    intro i
    unfold f21_o0
    refine ⟨fun a b => ?_,fun a b => ?_,fun a => ?_⟩
    · rw [dt a,b]
    · rw [dt a,b]
    · rw [df a]
  unfold predOf
  rcases first_fail (p:=fun i=>((nP x.preds i).name.toList == s.toList)=false) x.preds.length with hall | ⟨k,hk',hbad,hbef⟩
  · have M := f21_M x s X call lf x.preds.length (fun i => (nP x.preds i).name) (fun i => (nP x.preds i).args) (fun i => tP x.preds i) (fun i => (nP x.preds i).name) (fun i => (nP x.preds i).args) (by omega) (fun i _ h => at_prd (dlt h)) (fun i _ h _ => h43 (nP x.preds i) (by rw [nP, getD_lt (dlt h)]; exact List.getElem_mem _) _) (fun i h _ => up h (by omega)) (fun j hj => (ho j).2.1 hj (hall j hj))
    rw [find_no d0P hall]
    exact ⟨_,_,M.2 ((ho _).2.2 (Nat.le_refl _)),rfl⟩
  · have M := f21_M x s X call lf k (fun i => (nP x.preds i).name) (fun i => (nP x.preds i).args) (fun i => tP x.preds i) (fun i => (nP x.preds i).name) (fun i => (nP x.preds i).args) (by omega) (fun i _ h => at_prd (dlt h)) (fun i _ h _ => h43 (nP x.preds i) (by rw [nP, getD_lt (dlt h)]; exact List.getElem_mem _) _) (fun i h _ => up h (by omega)) (fun j hj => (ho j).2.1 (by omega) (hbef j hj))
    have hb:((nP x.preds k).name.toList == s.toList)=true:=by simpa using hbad
    rw [find_at d0P hk' hb hbef]
    refine ⟨_,_,M.1 ((ho k).1 hk' hb) _ _ (vend1_plain (by simp [AV.owns,AV.ownsAll,owns_strs])),?_⟩
    have:=aPB.de (nP x.preds k,true)
    rw [show aPB.enc (nP x.preds k,true) = .tup [.agg (prdC (nP x.preds k)),bo true] by show AV.tup [aP.enc _,_]=_; rw [aP_enc]; rfl] at this
    exact this
def gEqS (l m:List ByteArray):Option AV:=if lenOk l.length then some (bo (eqSs l m)) else none
def gEqP (p q:Prd):Option AV:=if lenOk p.args.length then some (bo (eqPr p q)) else none
def gCop (p:Prd):Option AV:=if lenOk p.args.length then some (aP.enc p) else none
def gPre (x:Sgn) (s:ByteArray):Option AV:=if okG x then some (aPB.enc (predOf x s)) else none
def S5:Vm.Spec:=Vm.Spec.on (Vm.Spec.on (Vm.Spec.on S4 42 (sp2 aSs aSs gEqS)) 43 (sp1 aP gCop)) 22 (sp2 aG aS gPre)
def S6:Vm.Spec:=Vm.Spec.on (Vm.Spec.on S5 25 (sp2 aP aP gEqP)) 21 (sp2 aG aS gPre)
theorem ltPP (p q:Prd):AV.ltAll 0 [AV.agg (prdC p),AV.agg (prdC q)]=true:=by
  have h1:=aP.lt p
  have h2:=aP.lt q
  rw [aP_enc] at h1 h2
  simp only [AV.ltAll,h1,h2,Bool.and_self]
theorem ltP (p:Prd):AV.ltAll 0 [AV.agg (prdC p)]=true:=by
  have h1:=aP.lt p
  rw [aP_enc] at h1
  simp only [AV.ltAll,h1,Bool.and_self]
theorem ltLL (l m:List ByteArray):AV.ltAll 0 [strsV l,strsV m]=true:=by simp only [AV.ltAll,lt_strsV,Bool.and_self]
theorem ltL (l:List ByteArray):AV.ltAll 0 [strsV l]=true:=by simp only [AV.ltAll,lt_strsV,Bool.and_self]
theorem aP_dec (x:Prd):aP.dec (.agg (prdC x))=some x:=by rw [← aP_enc,aP.de]
section
variable (hX:ExtOk Tryd.prog X) (hM:XS X) (ha:∀ f,X.adopt f=false)
include hX hM ha
theorem S5_ok:SpecOk Tryd.prog S5:=by
  have hC:CallOk Tryd.prog (callerOf S4):=callerOf_ok (S4_ok hX hM ha)
  refine SpecOk.on2 (SpecOk.on1 (SpecOk.on2 (S4_ok hX hM ha) fun l m r h => ?_) fun p r h => ?_) fun x s r h => ?_
  · unfold gEqS at h
    split at h
    · rename_i hs
      simp only [Option.some.injEq] at h
      subst h
      rw [aSs_enc,aSs_enc]
      exact run_res (B:=aB) (y:=eqSs l m) hX hC (hM.dom 42 rfl rfl) Tryd.func42 (by kernel_rfl) (equal42 (lf:=l.length + 1) (lt_big (lenOk_le hs)) (by omega)) rfl
    · cases h
  · unfold gCop at h
    split at h
    · rename_i hs
      simp only [Option.some.injEq] at h
      subst h
      have h48:callerOf S4 48 [strsV p.args] [] 0=some (aSs.enc p.args,[]):=caller_at (S4_S3 (S3_S2 (S2_S1 (S1_S0 (S0_48 (lenOk_le hs)) rfl rfl) rfl rfl rfl rfl rfl rfl) rfl rfl rfl) rfl)
      have h55:callerOf S4 55 [strsV p.args] [] 0=some (aSs.enc p.args,[]):=caller_at (S4_S3 (S3_S2 (S2_S1 (S1_S0 (S0_55 p.args) rfl rfl) rfl rfl rfl rfl rfl rfl) rfl rfl rfl) rfl)
      have h0 : ∀ f, callerOf S4 f [strsV p.args] [] 0 = some (aSs.enc p.args, []) → sigW f = true → callv X (call0 (callerOf S4)) true f [strsV p.args] [] 0 = some (strsV p.args, []) := fun f hf hw => by
        have hc : call0 (callerOf S4) f [strsV p.args] [] 0 = some (aSs.enc p.args, []) := by
          unfold call0
          rw [if_pos (ltL p.args)]
          exact hf
        have:=cAt hM ha (call:=call0 (callerOf S4)) (B:=aSs) (dr:=true) (σ:=[]) hw (ltL p.args) hc
        rw [aSs_enc] at this
        exact this
      obtain ⟨σ',hv⟩:=copied43 (X:=X) (call:=callerOf S4) (lf:=0) (p:=p) (h0 48 h48 rfl) (h0 55 h55 rfl)
      have:=run_res (B:=aP) (y:=p) hX hC (hM.dom 43 rfl rfl) Tryd.func43 (by kernel_rfl) hv (aP_dec p)
      rw [aP_enc] at this ⊢
      exact this
    · cases h
  · unfold gPre at h
    split at h
    · rename_i hk
      simp only [Option.some.injEq] at h
      subst h
      rw [aG_enc]
      obtain ⟨r,σ',hv,hd⟩:=pred22 (X:=X) (call:=callerOf S4) (lf:=1000002) (s:=s) hk (by omega)
      exact run_res (B:=aPB) (y:=predOf x s) hX hC (hM.dom 22 rfl rfl) Tryd.func22 (by kernel_rfl) hv hd
    · cases h
omit hX hM ha in
theorem S5_42 {l:List ByteArray} (m:List ByteArray) (h:l.length ≤ 10000000):S5 42 [strsV l,strsV m]=some (bo (eqSs l m)):=by
  unfold S5
  rw [spec_off rfl,spec_off rfl,spec_on,sp2_at (A:=aSs) (B:=aSs) (x:=l) (y:=m) aSs_dec aSs_dec]
  exact if_pos (Nat.ble_eq_true_of_le h)
omit hX hM ha in
theorem S5_43 {p:Prd} (h:p.args.length ≤ 10000000):S5 43 [.agg (prdC p)]=some (aP.enc p):=by
  unfold S5
  rw [spec_off rfl,spec_on,sp1_at (A:=aP) (x:=p) (aP_dec p)]
  exact if_pos (Nat.ble_eq_true_of_le h)
omit hX hM ha in
theorem S5_22 {x:Sgn} (s:ByteArray) (h:okG x=true):S5 22 [.agg (sgnC x),st s]=some (aPB.enc (predOf x s)):=by
  unfold S5
  rw [spec_on,sp2_at (A:=aG) (B:=aS) (x:=x) (y:=s) (aG_dec x) rfl]
  exact if_pos h
theorem S6_ok:SpecOk Tryd.prog S6:=by
  have hC:CallOk Tryd.prog (callerOf S5):=callerOf_ok (S5_ok hX hM ha)
  refine SpecOk.on2 (SpecOk.on2 (S5_ok hX hM ha) fun p q r h => ?_) fun x s r h => ?_
  · unfold gEqP at h
    split at h
    · rename_i hs
      simp only [Option.some.injEq] at h
      subst h
      rw [aP_enc,aP_enc]
      obtain ⟨σ',hv⟩:=same25 (X:=X) (call:=callerOf S5) (lf:=0) (p:=p) (q:=q) (fun σ=>cAt hM ha (B:=aB) rfl (ltLL p.args q.args) (caller_at (S5_42 q.args (lenOk_le hs))))
      exact run_res (B:=aB) (y:=eqPr p q) hX hC (hM.dom 25 rfl rfl) Tryd.func25 (by kernel_rfl) hv rfl
    · cases h
  · unfold gPre at h
    split at h
    · rename_i hk
      simp only [Option.some.injEq] at h
      subst h
      rw [aG_enc]
      obtain ⟨r, σ', hv, hd⟩ := pred21 (X := X) (call := callerOf S5) (lf := 1000002) (s := s) hk (by omega) (fun p hp σ => by
        have:=cAt hM ha (call:=callerOf S5) (B:=aP) (dr:=false) (σ:=σ) (f:=43) rfl (ltP p) (caller_at (S5_43 (by have:=((okG_iff.1 hk).p p hp).2.1; omega)))
        rw [aP_enc] at this
        exact this)
      exact run_res (B:=aPB) (y:=predOf x s) hX hC (hM.dom 21 rfl rfl) Tryd.func21 (by kernel_rfl) hv hd
    · cases h
omit hX hM ha in
theorem S5_S4 {f:FuncId} {vs:List AV} {r:AV} (h:S4 f vs=some r) (h1:Nat.beq f 42=false) (h2:Nat.beq f 43=false) (h3:Nat.beq f 22=false):S5 f vs=some r:=by
  unfold S5
  rw [spec_off h3,spec_off h2,spec_off h1]
  exact h
omit hX hM ha in
theorem S6_S5 {f:FuncId} {vs:List AV} {r:AV} (h:S5 f vs=some r) (h1:Nat.beq f 25=false) (h2:Nat.beq f 21=false):S6 f vs=some r:=by
  unfold S6
  rw [spec_off h2,spec_off h1]
  exact h
omit hX hM ha in
theorem S6_25 {p:Prd} (q:Prd) (h:p.args.length ≤ 10000000):S6 25 [.agg (prdC p),.agg (prdC q)]=some (bo (eqPr p q)):=by
  unfold S6
  rw [spec_off rfl,spec_on,sp2_at (A:=aP) (B:=aP) (x:=p) (y:=q) (aP_dec p) (aP_dec q)]
  exact if_pos (Nat.ble_eq_true_of_le h)
omit hX hM ha in
theorem S6_21 {x:Sgn} (s:ByteArray) (h:okG x=true):S6 21 [.agg (sgnC x),st s]=some (aPB.enc (predOf x s)):=by
  unfold S6
  rw [spec_on,sp2_at (A:=aG) (B:=aS) (x:=x) (y:=s) (aG_dec x) rfl]
  exact if_pos h
end
end Go.Proofs.Sig
end
/- Signature: the law of lookups, walked (printed) -/
section
open Go Go.Vm Go.Proofs
namespace Go.Proofs.Sig
theorem f6_pt (x0:Sgn)(s1:ByteArray)(X:Ext)(call:Caller)(lf:Nat)
 (h0:cvq X call false 12 [] [Ob.cells [lro x0.sorts.length 1 (List.map st x0.sorts),lro x0.consts.length 2 (List.flatMap cstC x0.consts),lro x0.preds.length 2 (List.flatMap prdC x0.preds)]] (bo true))
 (h1:cvq X call false 13 [AV.agg [lro x0.sorts.length 1 (List.map st x0.sorts),lro x0.consts.length 2 (List.flatMap cstC x0.consts),lro x0.preds.length 2 (List.flatMap prdC x0.preds)]] [Ob.cells [lro x0.sorts.length 1 (List.map st x0.sorts),lro x0.consts.length 2 (List.flatMap cstC x0.consts),lro x0.preds.length 2 (List.flatMap prdC x0.preds)]] (bo (fewB x0)))
 (h2:(!fewB x0)=true)
 (h3:cvq X call false 12 [] [Ob.cells [lro x0.sorts.length 1 (List.map st x0.sorts),lro x0.consts.length 2 (List.flatMap cstC x0.consts),lro x0.preds.length 2 (List.flatMap prdC x0.preds)]] (bo true)):vbody Tryd.prog X call lf noFg Tryd.f6 (codeOf Tryd.f6) [AV.agg (sgnC x0),st s1] [] 0=some (bo true,[Ob.cells [lro x0.sorts.length 1 (List.map st x0.sorts),lro x0.consts.length 2 (List.flatMap cstC x0.consts),lro x0.preds.length 2 (List.flatMap prdC x0.preds)]]) :=
  along_sound (ans:=[(4,Ans.v (bo true)),(10,Ans.v (bo (fewB x0))),(12,Ans.b true),(21,Ans.v (bo true))]) (by kernel_rfl) (ai h0 (ai h1 (ai h2 (ai h3 trivial))))
theorem f6_pft (x0:Sgn)(s1:ByteArray)(X:Ext)(call:Caller)(lf:Nat)
 (h0:cvq X call false 12 [] [Ob.cells [lro x0.sorts.length 1 (List.map st x0.sorts),lro x0.consts.length 2 (List.flatMap cstC x0.consts),lro x0.preds.length 2 (List.flatMap prdC x0.preds)]] (bo true))
 (h1:cvq X call false 13 [AV.agg [lro x0.sorts.length 1 (List.map st x0.sorts),lro x0.consts.length 2 (List.flatMap cstC x0.consts),lro x0.preds.length 2 (List.flatMap prdC x0.preds)]] [Ob.cells [lro x0.sorts.length 1 (List.map st x0.sorts),lro x0.consts.length 2 (List.flatMap cstC x0.consts),lro x0.preds.length 2 (List.flatMap prdC x0.preds)]] (bo (fewB x0)))
 (h2:(!fewB x0)=false)
 (h3:decide ((↑(ByteArray.size s1):Int)>40)=true)
 (h4:cvq X call false 12 [] [Ob.cells [lro x0.sorts.length 1 (List.map st x0.sorts),lro x0.consts.length 2 (List.flatMap cstC x0.consts),lro x0.preds.length 2 (List.flatMap prdC x0.preds)]] (bo true)):vbody Tryd.prog X call lf noFg Tryd.f6 (codeOf Tryd.f6) [AV.agg (sgnC x0),st s1] [] 0=some (bo true,[Ob.cells [lro x0.sorts.length 1 (List.map st x0.sorts),lro x0.consts.length 2 (List.flatMap cstC x0.consts),lro x0.preds.length 2 (List.flatMap prdC x0.preds)]]) :=
  along_sound (ans:=[(4,Ans.v (bo true)),(10,Ans.v (bo (fewB x0))),(12,Ans.b false),(20,Ans.b true),(24,Ans.v (bo true))]) (by kernel_rfl) (ai h0 (ai h1 (ai h2 (ai h3 (ai h4 trivial)))))
theorem f6_pffttttttt (x0:Sgn)(s1 s2:ByteArray)(b3:Bool)(x4:Prd)(b5:Bool)(X:Ext)(call:Caller)(lf:Nat)
 (h0:cvq X call false 12 [] [Ob.cells [lro x0.sorts.length 1 (List.map st x0.sorts),lro x0.consts.length 2 (List.flatMap cstC x0.consts),lro x0.preds.length 2 (List.flatMap prdC x0.preds)]] (bo true))
 (h1:cvq X call false 13 [AV.agg [lro x0.sorts.length 1 (List.map st x0.sorts),lro x0.consts.length 2 (List.flatMap cstC x0.consts),lro x0.preds.length 2 (List.flatMap prdC x0.preds)]] [Ob.cells [lro x0.sorts.length 1 (List.map st x0.sorts),lro x0.consts.length 2 (List.flatMap cstC x0.consts),lro x0.preds.length 2 (List.flatMap prdC x0.preds)]] (bo (fewB x0)))
 (h2:(!fewB x0)=false)
 (h3:decide ((↑(ByteArray.size s1):Int)>40)=false)
 (h4:cvq X call false 19 [AV.agg [lro x0.sorts.length 1 (List.map st x0.sorts),lro x0.consts.length 2 (List.flatMap cstC x0.consts),lro x0.preds.length 2 (List.flatMap prdC x0.preds)],st s1] [Ob.cells [lro x0.sorts.length 1 (List.map st x0.sorts),lro x0.consts.length 2 (List.flatMap cstC x0.consts),lro x0.preds.length 2 (List.flatMap prdC x0.preds)]] (AV.tup [st s2,bo b3]))
 (h5:b3=true)
 (h6:cvq X call false 20 [AV.agg [lro x0.sorts.length 1 (List.map st x0.sorts),lro x0.consts.length 2 (List.flatMap cstC x0.consts),lro x0.preds.length 2 (List.flatMap prdC x0.preds)],st s1] [Ob.cells [lro x0.sorts.length 1 (List.map st x0.sorts),lro x0.consts.length 2 (List.flatMap cstC x0.consts),lro x0.preds.length 2 (List.flatMap prdC x0.preds)]] (AV.tup [st s2,bo b3]))
 (h7:b3=true)
 (h8:cvq X call false 21 [AV.agg [lro x0.sorts.length 1 (List.map st x0.sorts),lro x0.consts.length 2 (List.flatMap cstC x0.consts),lro x0.preds.length 2 (List.flatMap prdC x0.preds)],st s1] [Ob.cells [lro x0.sorts.length 1 (List.map st x0.sorts),lro x0.consts.length 2 (List.flatMap cstC x0.consts),lro x0.preds.length 2 (List.flatMap prdC x0.preds)]] (AV.tup [AV.agg [st x4.name,lro x4.args.length 1 (List.map st x4.args)],bo b5]))
 (h9:b5=true)
 (h10:cvq X call false 22 [AV.agg [lro x0.sorts.length 1 (List.map st x0.sorts),lro x0.consts.length 2 (List.flatMap cstC x0.consts),lro x0.preds.length 2 (List.flatMap prdC x0.preds)],st s1] [Ob.cells [lro x0.sorts.length 1 (List.map st x0.sorts),lro x0.consts.length 2 (List.flatMap cstC x0.consts),lro x0.preds.length 2 (List.flatMap prdC x0.preds)],Ob.cells [st x4.name,lro x4.args.length 1 (List.map st x4.args)]] (AV.tup [AV.agg [st x4.name,lro x4.args.length 1 (List.map st x4.args)],bo b5]))
 (h11:b5=true)
 (h12:cvq X call true 23 [AV.agg [lro x0.sorts.length 1 (List.map st x0.sorts),lro x0.consts.length 2 (List.flatMap cstC x0.consts),lro x0.preds.length 2 (List.flatMap prdC x0.preds)],st s1] [Ob.cells [lro x0.sorts.length 1 (List.map st x0.sorts),lro x0.consts.length 2 (List.flatMap cstC x0.consts),lro x0.preds.length 2 (List.flatMap prdC x0.preds)],Ob.cells [st x4.name,lro x4.args.length 1 (List.map st x4.args)],Ob.cells [st x4.name,lro x4.args.length 1 (List.map st x4.args)]] (bo true))
 (h13:cvq X call true 24 [AV.agg [lro x0.sorts.length 1 (List.map st x0.sorts),lro x0.consts.length 2 (List.flatMap cstC x0.consts),lro x0.preds.length 2 (List.flatMap prdC x0.preds)],st s1] [Ob.cells [lro x0.sorts.length 1 (List.map st x0.sorts),lro x0.consts.length 2 (List.flatMap cstC x0.consts),lro x0.preds.length 2 (List.flatMap prdC x0.preds)],Ob.cells [st x4.name,lro x4.args.length 1 (List.map st x4.args)],Ob.cells [st x4.name,lro x4.args.length 1 (List.map st x4.args)]] (bo true))
 (h14:(ByteArray.toList s2 == ByteArray.toList s2)=true)
 (h15:cvq X call true 25 [AV.agg [st x4.name,lro x4.args.length 1 (List.map st x4.args)],AV.agg [st x4.name,lro x4.args.length 1 (List.map st x4.args)]] [Ob.cells [lro x0.sorts.length 1 (List.map st x0.sorts),lro x0.consts.length 2 (List.flatMap cstC x0.consts),lro x0.preds.length 2 (List.flatMap prdC x0.preds)],Ob.cells [st x4.name,lro x4.args.length 1 (List.map st x4.args)],Ob.cells [st x4.name,lro x4.args.length 1 (List.map st x4.args)]] (bo true)):vbody Tryd.prog X call lf noFg Tryd.f6 (codeOf Tryd.f6) [AV.agg (sgnC x0),st s1] [] 0=some (bo true,[Ob.cells [lro x0.sorts.length 1 (List.map st x0.sorts),lro x0.consts.length 2 (List.flatMap cstC x0.consts),lro x0.preds.length 2 (List.flatMap prdC x0.preds)],Ob.cells [st x4.name,lro x4.args.length 1 (List.map st x4.args)],Ob.cells [st x4.name,lro x4.args.length 1 (List.map st x4.args)]]) :=
  along_sound (ans:=[(4,Ans.v (bo true)),(10,Ans.v (bo (fewB x0))),(12,Ans.b false),(20,Ans.b false),(26,Ans.v (AV.tup [st s2,bo b3])),(29,Ans.b true),(35,Ans.v (AV.tup [st s2,bo b3])),(38,Ans.b true),(44,Ans.v (AV.tup [AV.agg [st x4.name,lro x4.args.length 1 (List.map st x4.args)],bo b5])),(47,Ans.b true),(54,Ans.v (AV.tup [AV.agg [st x4.name,lro x4.args.length 1 (List.map st x4.args)],bo b5])),(57,Ans.b true),(64,Ans.v (bo true)),(67,Ans.v (bo true)),(75,Ans.b true),(99,Ans.v (bo true))]) (by kernel_rfl) (ai h0 (ai h1 (ai h2 (ai h3 (ai h4 (ai h5 (ai h6 (ai h7 (ai h8 (ai h9 (ai h10 (ai h11 (ai h12 (ai h13 (ai h14 (ai h15 trivial))))))))))))))))
theorem f6_pffttttfft (x0:Sgn)(s1 s2:ByteArray)(b3:Bool)(x4:Prd)(b5:Bool)(X:Ext)(call:Caller)(lf:Nat)
 (h0:cvq X call false 12 [] [Ob.cells [lro x0.sorts.length 1 (List.map st x0.sorts),lro x0.consts.length 2 (List.flatMap cstC x0.consts),lro x0.preds.length 2 (List.flatMap prdC x0.preds)]] (bo true))
 (h1:cvq X call false 13 [AV.agg [lro x0.sorts.length 1 (List.map st x0.sorts),lro x0.consts.length 2 (List.flatMap cstC x0.consts),lro x0.preds.length 2 (List.flatMap prdC x0.preds)]] [Ob.cells [lro x0.sorts.length 1 (List.map st x0.sorts),lro x0.consts.length 2 (List.flatMap cstC x0.consts),lro x0.preds.length 2 (List.flatMap prdC x0.preds)]] (bo (fewB x0)))
 (h2:(!fewB x0)=false)
 (h3:decide ((↑(ByteArray.size s1):Int)>40)=false)
 (h4:cvq X call false 19 [AV.agg [lro x0.sorts.length 1 (List.map st x0.sorts),lro x0.consts.length 2 (List.flatMap cstC x0.consts),lro x0.preds.length 2 (List.flatMap prdC x0.preds)],st s1] [Ob.cells [lro x0.sorts.length 1 (List.map st x0.sorts),lro x0.consts.length 2 (List.flatMap cstC x0.consts),lro x0.preds.length 2 (List.flatMap prdC x0.preds)]] (AV.tup [st s2,bo b3]))
 (h5:b3=true)
 (h6:cvq X call false 20 [AV.agg [lro x0.sorts.length 1 (List.map st x0.sorts),lro x0.consts.length 2 (List.flatMap cstC x0.consts),lro x0.preds.length 2 (List.flatMap prdC x0.preds)],st s1] [Ob.cells [lro x0.sorts.length 1 (List.map st x0.sorts),lro x0.consts.length 2 (List.flatMap cstC x0.consts),lro x0.preds.length 2 (List.flatMap prdC x0.preds)]] (AV.tup [st s2,bo b3]))
 (h7:b3=true)
 (h8:cvq X call false 21 [AV.agg [lro x0.sorts.length 1 (List.map st x0.sorts),lro x0.consts.length 2 (List.flatMap cstC x0.consts),lro x0.preds.length 2 (List.flatMap prdC x0.preds)],st s1] [Ob.cells [lro x0.sorts.length 1 (List.map st x0.sorts),lro x0.consts.length 2 (List.flatMap cstC x0.consts),lro x0.preds.length 2 (List.flatMap prdC x0.preds)]] (AV.tup [AV.agg [st x4.name,lro x4.args.length 1 (List.map st x4.args)],bo b5]))
 (h9:b5=true)
 (h10:cvq X call false 22 [AV.agg [lro x0.sorts.length 1 (List.map st x0.sorts),lro x0.consts.length 2 (List.flatMap cstC x0.consts),lro x0.preds.length 2 (List.flatMap prdC x0.preds)],st s1] [Ob.cells [lro x0.sorts.length 1 (List.map st x0.sorts),lro x0.consts.length 2 (List.flatMap cstC x0.consts),lro x0.preds.length 2 (List.flatMap prdC x0.preds)],Ob.cells [st x4.name,lro x4.args.length 1 (List.map st x4.args)]] (AV.tup [AV.agg [st x4.name,lro x4.args.length 1 (List.map st x4.args)],bo b5]))
 (h11:b5=true)
 (h12:cvq X call true 23 [AV.agg [lro x0.sorts.length 1 (List.map st x0.sorts),lro x0.consts.length 2 (List.flatMap cstC x0.consts),lro x0.preds.length 2 (List.flatMap prdC x0.preds)],st s1] [Ob.cells [lro x0.sorts.length 1 (List.map st x0.sorts),lro x0.consts.length 2 (List.flatMap cstC x0.consts),lro x0.preds.length 2 (List.flatMap prdC x0.preds)],Ob.cells [st x4.name,lro x4.args.length 1 (List.map st x4.args)],Ob.cells [st x4.name,lro x4.args.length 1 (List.map st x4.args)]] (bo false))
 (h13:cvq X call true 24 [AV.agg [lro x0.sorts.length 1 (List.map st x0.sorts),lro x0.consts.length 2 (List.flatMap cstC x0.consts),lro x0.preds.length 2 (List.flatMap prdC x0.preds)],st s1] [Ob.cells [lro x0.sorts.length 1 (List.map st x0.sorts),lro x0.consts.length 2 (List.flatMap cstC x0.consts),lro x0.preds.length 2 (List.flatMap prdC x0.preds)],Ob.cells [st x4.name,lro x4.args.length 1 (List.map st x4.args)],Ob.cells [st x4.name,lro x4.args.length 1 (List.map st x4.args)]] (bo false))
 (h14:(ByteArray.toList s2 == ByteArray.toList s2)=true)
 (h15:cvq X call true 25 [AV.agg [st x4.name,lro x4.args.length 1 (List.map st x4.args)],AV.agg [st x4.name,lro x4.args.length 1 (List.map st x4.args)]] [Ob.cells [lro x0.sorts.length 1 (List.map st x0.sorts),lro x0.consts.length 2 (List.flatMap cstC x0.consts),lro x0.preds.length 2 (List.flatMap prdC x0.preds)],Ob.cells [st x4.name,lro x4.args.length 1 (List.map st x4.args)],Ob.cells [st x4.name,lro x4.args.length 1 (List.map st x4.args)]] (bo true)):vbody Tryd.prog X call lf noFg Tryd.f6 (codeOf Tryd.f6) [AV.agg (sgnC x0),st s1] [] 0=some (bo true,[Ob.cells [lro x0.sorts.length 1 (List.map st x0.sorts),lro x0.consts.length 2 (List.flatMap cstC x0.consts),lro x0.preds.length 2 (List.flatMap prdC x0.preds)],Ob.cells [st x4.name,lro x4.args.length 1 (List.map st x4.args)],Ob.cells [st x4.name,lro x4.args.length 1 (List.map st x4.args)]]) :=
  along_sound (ans:=[(4,Ans.v (bo true)),(10,Ans.v (bo (fewB x0))),(12,Ans.b false),(20,Ans.b false),(26,Ans.v (AV.tup [st s2,bo b3])),(29,Ans.b true),(35,Ans.v (AV.tup [st s2,bo b3])),(38,Ans.b true),(44,Ans.v (AV.tup [AV.agg [st x4.name,lro x4.args.length 1 (List.map st x4.args)],bo b5])),(47,Ans.b true),(54,Ans.v (AV.tup [AV.agg [st x4.name,lro x4.args.length 1 (List.map st x4.args)],bo b5])),(57,Ans.b true),(64,Ans.v (bo false)),(67,Ans.v (bo false)),(75,Ans.b true),(99,Ans.v (bo true))]) (by kernel_rfl) (ai h0 (ai h1 (ai h2 (ai h3 (ai h4 (ai h5 (ai h6 (ai h7 (ai h8 (ai h9 (ai h10 (ai h11 (ai h12 (ai h13 (ai h14 (ai h15 trivial))))))))))))))))
theorem f6_pffttffttt (x0:Sgn)(s1 s2:ByteArray)(b3:Bool)(x4:Prd)(b5:Bool)(X:Ext)(call:Caller)(lf:Nat)
 (h0:cvq X call false 12 [] [Ob.cells [lro x0.sorts.length 1 (List.map st x0.sorts),lro x0.consts.length 2 (List.flatMap cstC x0.consts),lro x0.preds.length 2 (List.flatMap prdC x0.preds)]] (bo true))
 (h1:cvq X call false 13 [AV.agg [lro x0.sorts.length 1 (List.map st x0.sorts),lro x0.consts.length 2 (List.flatMap cstC x0.consts),lro x0.preds.length 2 (List.flatMap prdC x0.preds)]] [Ob.cells [lro x0.sorts.length 1 (List.map st x0.sorts),lro x0.consts.length 2 (List.flatMap cstC x0.consts),lro x0.preds.length 2 (List.flatMap prdC x0.preds)]] (bo (fewB x0)))
 (h2:(!fewB x0)=false)
 (h3:decide ((↑(ByteArray.size s1):Int)>40)=false)
 (h4:cvq X call false 19 [AV.agg [lro x0.sorts.length 1 (List.map st x0.sorts),lro x0.consts.length 2 (List.flatMap cstC x0.consts),lro x0.preds.length 2 (List.flatMap prdC x0.preds)],st s1] [Ob.cells [lro x0.sorts.length 1 (List.map st x0.sorts),lro x0.consts.length 2 (List.flatMap cstC x0.consts),lro x0.preds.length 2 (List.flatMap prdC x0.preds)]] (AV.tup [st s2,bo b3]))
 (h5:b3=true)
 (h6:cvq X call false 20 [AV.agg [lro x0.sorts.length 1 (List.map st x0.sorts),lro x0.consts.length 2 (List.flatMap cstC x0.consts),lro x0.preds.length 2 (List.flatMap prdC x0.preds)],st s1] [Ob.cells [lro x0.sorts.length 1 (List.map st x0.sorts),lro x0.consts.length 2 (List.flatMap cstC x0.consts),lro x0.preds.length 2 (List.flatMap prdC x0.preds)]] (AV.tup [st s2,bo b3]))
 (h7:b3=true)
 (h8:cvq X call false 21 [AV.agg [lro x0.sorts.length 1 (List.map st x0.sorts),lro x0.consts.length 2 (List.flatMap cstC x0.consts),lro x0.preds.length 2 (List.flatMap prdC x0.preds)],st s1] [Ob.cells [lro x0.sorts.length 1 (List.map st x0.sorts),lro x0.consts.length 2 (List.flatMap cstC x0.consts),lro x0.preds.length 2 (List.flatMap prdC x0.preds)]] (AV.tup [AV.agg [st x4.name,lro x4.args.length 1 (List.map st x4.args)],bo b5]))
 (h9:b5=false)
 (h10:cvq X call false 22 [AV.agg [lro x0.sorts.length 1 (List.map st x0.sorts),lro x0.consts.length 2 (List.flatMap cstC x0.consts),lro x0.preds.length 2 (List.flatMap prdC x0.preds)],st s1] [Ob.cells [lro x0.sorts.length 1 (List.map st x0.sorts),lro x0.consts.length 2 (List.flatMap cstC x0.consts),lro x0.preds.length 2 (List.flatMap prdC x0.preds)],Ob.cells [st x4.name,lro x4.args.length 1 (List.map st x4.args)]] (AV.tup [AV.agg [st x4.name,lro x4.args.length 1 (List.map st x4.args)],bo b5]))
 (h11:b5=false)
 (h12:cvq X call true 23 [AV.agg [lro x0.sorts.length 1 (List.map st x0.sorts),lro x0.consts.length 2 (List.flatMap cstC x0.consts),lro x0.preds.length 2 (List.flatMap prdC x0.preds)],st s1] [Ob.cells [lro x0.sorts.length 1 (List.map st x0.sorts),lro x0.consts.length 2 (List.flatMap cstC x0.consts),lro x0.preds.length 2 (List.flatMap prdC x0.preds)],Ob.cells [st x4.name,lro x4.args.length 1 (List.map st x4.args)],Ob.cells [st x4.name,lro x4.args.length 1 (List.map st x4.args)]] (bo true))
 (h13:cvq X call true 24 [AV.agg [lro x0.sorts.length 1 (List.map st x0.sorts),lro x0.consts.length 2 (List.flatMap cstC x0.consts),lro x0.preds.length 2 (List.flatMap prdC x0.preds)],st s1] [Ob.cells [lro x0.sorts.length 1 (List.map st x0.sorts),lro x0.consts.length 2 (List.flatMap cstC x0.consts),lro x0.preds.length 2 (List.flatMap prdC x0.preds)],Ob.cells [st x4.name,lro x4.args.length 1 (List.map st x4.args)],Ob.cells [st x4.name,lro x4.args.length 1 (List.map st x4.args)]] (bo true))
 (h14:(ByteArray.toList s2 == ByteArray.toList s2)=true)
 (h15:cvq X call true 25 [AV.agg [st x4.name,lro x4.args.length 1 (List.map st x4.args)],AV.agg [st x4.name,lro x4.args.length 1 (List.map st x4.args)]] [Ob.cells [lro x0.sorts.length 1 (List.map st x0.sorts),lro x0.consts.length 2 (List.flatMap cstC x0.consts),lro x0.preds.length 2 (List.flatMap prdC x0.preds)],Ob.cells [st x4.name,lro x4.args.length 1 (List.map st x4.args)],Ob.cells [st x4.name,lro x4.args.length 1 (List.map st x4.args)]] (bo true)):vbody Tryd.prog X call lf noFg Tryd.f6 (codeOf Tryd.f6) [AV.agg (sgnC x0),st s1] [] 0=some (bo true,[Ob.cells [lro x0.sorts.length 1 (List.map st x0.sorts),lro x0.consts.length 2 (List.flatMap cstC x0.consts),lro x0.preds.length 2 (List.flatMap prdC x0.preds)],Ob.cells [st x4.name,lro x4.args.length 1 (List.map st x4.args)],Ob.cells [st x4.name,lro x4.args.length 1 (List.map st x4.args)]]) :=
  along_sound (ans:=[(4,Ans.v (bo true)),(10,Ans.v (bo (fewB x0))),(12,Ans.b false),(20,Ans.b false),(26,Ans.v (AV.tup [st s2,bo b3])),(29,Ans.b true),(35,Ans.v (AV.tup [st s2,bo b3])),(38,Ans.b true),(44,Ans.v (AV.tup [AV.agg [st x4.name,lro x4.args.length 1 (List.map st x4.args)],bo b5])),(47,Ans.b false),(54,Ans.v (AV.tup [AV.agg [st x4.name,lro x4.args.length 1 (List.map st x4.args)],bo b5])),(57,Ans.b false),(64,Ans.v (bo true)),(67,Ans.v (bo true)),(75,Ans.b true),(99,Ans.v (bo true))]) (by kernel_rfl) (ai h0 (ai h1 (ai h2 (ai h3 (ai h4 (ai h5 (ai h6 (ai h7 (ai h8 (ai h9 (ai h10 (ai h11 (ai h12 (ai h13 (ai h14 (ai h15 trivial))))))))))))))))
theorem f6_pffttfffft (x0:Sgn)(s1 s2:ByteArray)(b3:Bool)(x4:Prd)(b5:Bool)(X:Ext)(call:Caller)(lf:Nat)
 (h0:cvq X call false 12 [] [Ob.cells [lro x0.sorts.length 1 (List.map st x0.sorts),lro x0.consts.length 2 (List.flatMap cstC x0.consts),lro x0.preds.length 2 (List.flatMap prdC x0.preds)]] (bo true))
 (h1:cvq X call false 13 [AV.agg [lro x0.sorts.length 1 (List.map st x0.sorts),lro x0.consts.length 2 (List.flatMap cstC x0.consts),lro x0.preds.length 2 (List.flatMap prdC x0.preds)]] [Ob.cells [lro x0.sorts.length 1 (List.map st x0.sorts),lro x0.consts.length 2 (List.flatMap cstC x0.consts),lro x0.preds.length 2 (List.flatMap prdC x0.preds)]] (bo (fewB x0)))
 (h2:(!fewB x0)=false)
 (h3:decide ((↑(ByteArray.size s1):Int)>40)=false)
 (h4:cvq X call false 19 [AV.agg [lro x0.sorts.length 1 (List.map st x0.sorts),lro x0.consts.length 2 (List.flatMap cstC x0.consts),lro x0.preds.length 2 (List.flatMap prdC x0.preds)],st s1] [Ob.cells [lro x0.sorts.length 1 (List.map st x0.sorts),lro x0.consts.length 2 (List.flatMap cstC x0.consts),lro x0.preds.length 2 (List.flatMap prdC x0.preds)]] (AV.tup [st s2,bo b3]))
 (h5:b3=true)
 (h6:cvq X call false 20 [AV.agg [lro x0.sorts.length 1 (List.map st x0.sorts),lro x0.consts.length 2 (List.flatMap cstC x0.consts),lro x0.preds.length 2 (List.flatMap prdC x0.preds)],st s1] [Ob.cells [lro x0.sorts.length 1 (List.map st x0.sorts),lro x0.consts.length 2 (List.flatMap cstC x0.consts),lro x0.preds.length 2 (List.flatMap prdC x0.preds)]] (AV.tup [st s2,bo b3]))
 (h7:b3=true)
 (h8:cvq X call false 21 [AV.agg [lro x0.sorts.length 1 (List.map st x0.sorts),lro x0.consts.length 2 (List.flatMap cstC x0.consts),lro x0.preds.length 2 (List.flatMap prdC x0.preds)],st s1] [Ob.cells [lro x0.sorts.length 1 (List.map st x0.sorts),lro x0.consts.length 2 (List.flatMap cstC x0.consts),lro x0.preds.length 2 (List.flatMap prdC x0.preds)]] (AV.tup [AV.agg [st x4.name,lro x4.args.length 1 (List.map st x4.args)],bo b5]))
 (h9:b5=false)
 (h10:cvq X call false 22 [AV.agg [lro x0.sorts.length 1 (List.map st x0.sorts),lro x0.consts.length 2 (List.flatMap cstC x0.consts),lro x0.preds.length 2 (List.flatMap prdC x0.preds)],st s1] [Ob.cells [lro x0.sorts.length 1 (List.map st x0.sorts),lro x0.consts.length 2 (List.flatMap cstC x0.consts),lro x0.preds.length 2 (List.flatMap prdC x0.preds)],Ob.cells [st x4.name,lro x4.args.length 1 (List.map st x4.args)]] (AV.tup [AV.agg [st x4.name,lro x4.args.length 1 (List.map st x4.args)],bo b5]))
 (h11:b5=false)
 (h12:cvq X call true 23 [AV.agg [lro x0.sorts.length 1 (List.map st x0.sorts),lro x0.consts.length 2 (List.flatMap cstC x0.consts),lro x0.preds.length 2 (List.flatMap prdC x0.preds)],st s1] [Ob.cells [lro x0.sorts.length 1 (List.map st x0.sorts),lro x0.consts.length 2 (List.flatMap cstC x0.consts),lro x0.preds.length 2 (List.flatMap prdC x0.preds)],Ob.cells [st x4.name,lro x4.args.length 1 (List.map st x4.args)],Ob.cells [st x4.name,lro x4.args.length 1 (List.map st x4.args)]] (bo false))
 (h13:cvq X call true 24 [AV.agg [lro x0.sorts.length 1 (List.map st x0.sorts),lro x0.consts.length 2 (List.flatMap cstC x0.consts),lro x0.preds.length 2 (List.flatMap prdC x0.preds)],st s1] [Ob.cells [lro x0.sorts.length 1 (List.map st x0.sorts),lro x0.consts.length 2 (List.flatMap cstC x0.consts),lro x0.preds.length 2 (List.flatMap prdC x0.preds)],Ob.cells [st x4.name,lro x4.args.length 1 (List.map st x4.args)],Ob.cells [st x4.name,lro x4.args.length 1 (List.map st x4.args)]] (bo false))
 (h14:(ByteArray.toList s2 == ByteArray.toList s2)=true)
 (h15:cvq X call true 25 [AV.agg [st x4.name,lro x4.args.length 1 (List.map st x4.args)],AV.agg [st x4.name,lro x4.args.length 1 (List.map st x4.args)]] [Ob.cells [lro x0.sorts.length 1 (List.map st x0.sorts),lro x0.consts.length 2 (List.flatMap cstC x0.consts),lro x0.preds.length 2 (List.flatMap prdC x0.preds)],Ob.cells [st x4.name,lro x4.args.length 1 (List.map st x4.args)],Ob.cells [st x4.name,lro x4.args.length 1 (List.map st x4.args)]] (bo true)):vbody Tryd.prog X call lf noFg Tryd.f6 (codeOf Tryd.f6) [AV.agg (sgnC x0),st s1] [] 0=some (bo true,[Ob.cells [lro x0.sorts.length 1 (List.map st x0.sorts),lro x0.consts.length 2 (List.flatMap cstC x0.consts),lro x0.preds.length 2 (List.flatMap prdC x0.preds)],Ob.cells [st x4.name,lro x4.args.length 1 (List.map st x4.args)],Ob.cells [st x4.name,lro x4.args.length 1 (List.map st x4.args)]]) :=
  along_sound (ans:=[(4,Ans.v (bo true)),(10,Ans.v (bo (fewB x0))),(12,Ans.b false),(20,Ans.b false),(26,Ans.v (AV.tup [st s2,bo b3])),(29,Ans.b true),(35,Ans.v (AV.tup [st s2,bo b3])),(38,Ans.b true),(44,Ans.v (AV.tup [AV.agg [st x4.name,lro x4.args.length 1 (List.map st x4.args)],bo b5])),(47,Ans.b false),(54,Ans.v (AV.tup [AV.agg [st x4.name,lro x4.args.length 1 (List.map st x4.args)],bo b5])),(57,Ans.b false),(64,Ans.v (bo false)),(67,Ans.v (bo false)),(75,Ans.b true),(99,Ans.v (bo true))]) (by kernel_rfl) (ai h0 (ai h1 (ai h2 (ai h3 (ai h4 (ai h5 (ai h6 (ai h7 (ai h8 (ai h9 (ai h10 (ai h11 (ai h12 (ai h13 (ai h14 (ai h15 trivial))))))))))))))))
theorem f6_pffffttttt (x0:Sgn)(s1 s2:ByteArray)(b3:Bool)(x4:Prd)(b5:Bool)(X:Ext)(call:Caller)(lf:Nat)
 (h0:cvq X call false 12 [] [Ob.cells [lro x0.sorts.length 1 (List.map st x0.sorts),lro x0.consts.length 2 (List.flatMap cstC x0.consts),lro x0.preds.length 2 (List.flatMap prdC x0.preds)]] (bo true))
 (h1:cvq X call false 13 [AV.agg [lro x0.sorts.length 1 (List.map st x0.sorts),lro x0.consts.length 2 (List.flatMap cstC x0.consts),lro x0.preds.length 2 (List.flatMap prdC x0.preds)]] [Ob.cells [lro x0.sorts.length 1 (List.map st x0.sorts),lro x0.consts.length 2 (List.flatMap cstC x0.consts),lro x0.preds.length 2 (List.flatMap prdC x0.preds)]] (bo (fewB x0)))
 (h2:(!fewB x0)=false)
 (h3:decide ((↑(ByteArray.size s1):Int)>40)=false)
 (h4:cvq X call false 19 [AV.agg [lro x0.sorts.length 1 (List.map st x0.sorts),lro x0.consts.length 2 (List.flatMap cstC x0.consts),lro x0.preds.length 2 (List.flatMap prdC x0.preds)],st s1] [Ob.cells [lro x0.sorts.length 1 (List.map st x0.sorts),lro x0.consts.length 2 (List.flatMap cstC x0.consts),lro x0.preds.length 2 (List.flatMap prdC x0.preds)]] (AV.tup [st s2,bo b3]))
 (h5:b3=false)
 (h6:cvq X call false 20 [AV.agg [lro x0.sorts.length 1 (List.map st x0.sorts),lro x0.consts.length 2 (List.flatMap cstC x0.consts),lro x0.preds.length 2 (List.flatMap prdC x0.preds)],st s1] [Ob.cells [lro x0.sorts.length 1 (List.map st x0.sorts),lro x0.consts.length 2 (List.flatMap cstC x0.consts),lro x0.preds.length 2 (List.flatMap prdC x0.preds)]] (AV.tup [st s2,bo b3]))
 (h7:b3=false)
 (h8:cvq X call false 21 [AV.agg [lro x0.sorts.length 1 (List.map st x0.sorts),lro x0.consts.length 2 (List.flatMap cstC x0.consts),lro x0.preds.length 2 (List.flatMap prdC x0.preds)],st s1] [Ob.cells [lro x0.sorts.length 1 (List.map st x0.sorts),lro x0.consts.length 2 (List.flatMap cstC x0.consts),lro x0.preds.length 2 (List.flatMap prdC x0.preds)]] (AV.tup [AV.agg [st x4.name,lro x4.args.length 1 (List.map st x4.args)],bo b5]))
 (h9:b5=true)
 (h10:cvq X call false 22 [AV.agg [lro x0.sorts.length 1 (List.map st x0.sorts),lro x0.consts.length 2 (List.flatMap cstC x0.consts),lro x0.preds.length 2 (List.flatMap prdC x0.preds)],st s1] [Ob.cells [lro x0.sorts.length 1 (List.map st x0.sorts),lro x0.consts.length 2 (List.flatMap cstC x0.consts),lro x0.preds.length 2 (List.flatMap prdC x0.preds)],Ob.cells [st x4.name,lro x4.args.length 1 (List.map st x4.args)]] (AV.tup [AV.agg [st x4.name,lro x4.args.length 1 (List.map st x4.args)],bo b5]))
 (h11:b5=true)
 (h12:cvq X call true 23 [AV.agg [lro x0.sorts.length 1 (List.map st x0.sorts),lro x0.consts.length 2 (List.flatMap cstC x0.consts),lro x0.preds.length 2 (List.flatMap prdC x0.preds)],st s1] [Ob.cells [lro x0.sorts.length 1 (List.map st x0.sorts),lro x0.consts.length 2 (List.flatMap cstC x0.consts),lro x0.preds.length 2 (List.flatMap prdC x0.preds)],Ob.cells [st x4.name,lro x4.args.length 1 (List.map st x4.args)],Ob.cells [st x4.name,lro x4.args.length 1 (List.map st x4.args)]] (bo true))
 (h13:cvq X call true 24 [AV.agg [lro x0.sorts.length 1 (List.map st x0.sorts),lro x0.consts.length 2 (List.flatMap cstC x0.consts),lro x0.preds.length 2 (List.flatMap prdC x0.preds)],st s1] [Ob.cells [lro x0.sorts.length 1 (List.map st x0.sorts),lro x0.consts.length 2 (List.flatMap cstC x0.consts),lro x0.preds.length 2 (List.flatMap prdC x0.preds)],Ob.cells [st x4.name,lro x4.args.length 1 (List.map st x4.args)],Ob.cells [st x4.name,lro x4.args.length 1 (List.map st x4.args)]] (bo true))
 (h14:(ByteArray.toList s2 == ByteArray.toList s2)=true)
 (h15:cvq X call true 25 [AV.agg [st x4.name,lro x4.args.length 1 (List.map st x4.args)],AV.agg [st x4.name,lro x4.args.length 1 (List.map st x4.args)]] [Ob.cells [lro x0.sorts.length 1 (List.map st x0.sorts),lro x0.consts.length 2 (List.flatMap cstC x0.consts),lro x0.preds.length 2 (List.flatMap prdC x0.preds)],Ob.cells [st x4.name,lro x4.args.length 1 (List.map st x4.args)],Ob.cells [st x4.name,lro x4.args.length 1 (List.map st x4.args)]] (bo true)):vbody Tryd.prog X call lf noFg Tryd.f6 (codeOf Tryd.f6) [AV.agg (sgnC x0),st s1] [] 0=some (bo true,[Ob.cells [lro x0.sorts.length 1 (List.map st x0.sorts),lro x0.consts.length 2 (List.flatMap cstC x0.consts),lro x0.preds.length 2 (List.flatMap prdC x0.preds)],Ob.cells [st x4.name,lro x4.args.length 1 (List.map st x4.args)],Ob.cells [st x4.name,lro x4.args.length 1 (List.map st x4.args)]]) :=
  along_sound (ans:=[(4,Ans.v (bo true)),(10,Ans.v (bo (fewB x0))),(12,Ans.b false),(20,Ans.b false),(26,Ans.v (AV.tup [st s2,bo b3])),(29,Ans.b false),(35,Ans.v (AV.tup [st s2,bo b3])),(38,Ans.b false),(44,Ans.v (AV.tup [AV.agg [st x4.name,lro x4.args.length 1 (List.map st x4.args)],bo b5])),(47,Ans.b true),(54,Ans.v (AV.tup [AV.agg [st x4.name,lro x4.args.length 1 (List.map st x4.args)],bo b5])),(57,Ans.b true),(64,Ans.v (bo true)),(67,Ans.v (bo true)),(75,Ans.b true),(99,Ans.v (bo true))]) (by kernel_rfl) (ai h0 (ai h1 (ai h2 (ai h3 (ai h4 (ai h5 (ai h6 (ai h7 (ai h8 (ai h9 (ai h10 (ai h11 (ai h12 (ai h13 (ai h14 (ai h15 trivial))))))))))))))))
theorem f6_pffffttfft (x0:Sgn)(s1 s2:ByteArray)(b3:Bool)(x4:Prd)(b5:Bool)(X:Ext)(call:Caller)(lf:Nat)
 (h0:cvq X call false 12 [] [Ob.cells [lro x0.sorts.length 1 (List.map st x0.sorts),lro x0.consts.length 2 (List.flatMap cstC x0.consts),lro x0.preds.length 2 (List.flatMap prdC x0.preds)]] (bo true))
 (h1:cvq X call false 13 [AV.agg [lro x0.sorts.length 1 (List.map st x0.sorts),lro x0.consts.length 2 (List.flatMap cstC x0.consts),lro x0.preds.length 2 (List.flatMap prdC x0.preds)]] [Ob.cells [lro x0.sorts.length 1 (List.map st x0.sorts),lro x0.consts.length 2 (List.flatMap cstC x0.consts),lro x0.preds.length 2 (List.flatMap prdC x0.preds)]] (bo (fewB x0)))
 (h2:(!fewB x0)=false)
 (h3:decide ((↑(ByteArray.size s1):Int)>40)=false)
 (h4:cvq X call false 19 [AV.agg [lro x0.sorts.length 1 (List.map st x0.sorts),lro x0.consts.length 2 (List.flatMap cstC x0.consts),lro x0.preds.length 2 (List.flatMap prdC x0.preds)],st s1] [Ob.cells [lro x0.sorts.length 1 (List.map st x0.sorts),lro x0.consts.length 2 (List.flatMap cstC x0.consts),lro x0.preds.length 2 (List.flatMap prdC x0.preds)]] (AV.tup [st s2,bo b3]))
 (h5:b3=false)
 (h6:cvq X call false 20 [AV.agg [lro x0.sorts.length 1 (List.map st x0.sorts),lro x0.consts.length 2 (List.flatMap cstC x0.consts),lro x0.preds.length 2 (List.flatMap prdC x0.preds)],st s1] [Ob.cells [lro x0.sorts.length 1 (List.map st x0.sorts),lro x0.consts.length 2 (List.flatMap cstC x0.consts),lro x0.preds.length 2 (List.flatMap prdC x0.preds)]] (AV.tup [st s2,bo b3]))
 (h7:b3=false)
 (h8:cvq X call false 21 [AV.agg [lro x0.sorts.length 1 (List.map st x0.sorts),lro x0.consts.length 2 (List.flatMap cstC x0.consts),lro x0.preds.length 2 (List.flatMap prdC x0.preds)],st s1] [Ob.cells [lro x0.sorts.length 1 (List.map st x0.sorts),lro x0.consts.length 2 (List.flatMap cstC x0.consts),lro x0.preds.length 2 (List.flatMap prdC x0.preds)]] (AV.tup [AV.agg [st x4.name,lro x4.args.length 1 (List.map st x4.args)],bo b5]))
 (h9:b5=true)
 (h10:cvq X call false 22 [AV.agg [lro x0.sorts.length 1 (List.map st x0.sorts),lro x0.consts.length 2 (List.flatMap cstC x0.consts),lro x0.preds.length 2 (List.flatMap prdC x0.preds)],st s1] [Ob.cells [lro x0.sorts.length 1 (List.map st x0.sorts),lro x0.consts.length 2 (List.flatMap cstC x0.consts),lro x0.preds.length 2 (List.flatMap prdC x0.preds)],Ob.cells [st x4.name,lro x4.args.length 1 (List.map st x4.args)]] (AV.tup [AV.agg [st x4.name,lro x4.args.length 1 (List.map st x4.args)],bo b5]))
 (h11:b5=true)
 (h12:cvq X call true 23 [AV.agg [lro x0.sorts.length 1 (List.map st x0.sorts),lro x0.consts.length 2 (List.flatMap cstC x0.consts),lro x0.preds.length 2 (List.flatMap prdC x0.preds)],st s1] [Ob.cells [lro x0.sorts.length 1 (List.map st x0.sorts),lro x0.consts.length 2 (List.flatMap cstC x0.consts),lro x0.preds.length 2 (List.flatMap prdC x0.preds)],Ob.cells [st x4.name,lro x4.args.length 1 (List.map st x4.args)],Ob.cells [st x4.name,lro x4.args.length 1 (List.map st x4.args)]] (bo false))
 (h13:cvq X call true 24 [AV.agg [lro x0.sorts.length 1 (List.map st x0.sorts),lro x0.consts.length 2 (List.flatMap cstC x0.consts),lro x0.preds.length 2 (List.flatMap prdC x0.preds)],st s1] [Ob.cells [lro x0.sorts.length 1 (List.map st x0.sorts),lro x0.consts.length 2 (List.flatMap cstC x0.consts),lro x0.preds.length 2 (List.flatMap prdC x0.preds)],Ob.cells [st x4.name,lro x4.args.length 1 (List.map st x4.args)],Ob.cells [st x4.name,lro x4.args.length 1 (List.map st x4.args)]] (bo false))
 (h14:(ByteArray.toList s2 == ByteArray.toList s2)=true)
 (h15:cvq X call true 25 [AV.agg [st x4.name,lro x4.args.length 1 (List.map st x4.args)],AV.agg [st x4.name,lro x4.args.length 1 (List.map st x4.args)]] [Ob.cells [lro x0.sorts.length 1 (List.map st x0.sorts),lro x0.consts.length 2 (List.flatMap cstC x0.consts),lro x0.preds.length 2 (List.flatMap prdC x0.preds)],Ob.cells [st x4.name,lro x4.args.length 1 (List.map st x4.args)],Ob.cells [st x4.name,lro x4.args.length 1 (List.map st x4.args)]] (bo true)):vbody Tryd.prog X call lf noFg Tryd.f6 (codeOf Tryd.f6) [AV.agg (sgnC x0),st s1] [] 0=some (bo true,[Ob.cells [lro x0.sorts.length 1 (List.map st x0.sorts),lro x0.consts.length 2 (List.flatMap cstC x0.consts),lro x0.preds.length 2 (List.flatMap prdC x0.preds)],Ob.cells [st x4.name,lro x4.args.length 1 (List.map st x4.args)],Ob.cells [st x4.name,lro x4.args.length 1 (List.map st x4.args)]]) :=
  along_sound (ans:=[(4,Ans.v (bo true)),(10,Ans.v (bo (fewB x0))),(12,Ans.b false),(20,Ans.b false),(26,Ans.v (AV.tup [st s2,bo b3])),(29,Ans.b false),(35,Ans.v (AV.tup [st s2,bo b3])),(38,Ans.b false),(44,Ans.v (AV.tup [AV.agg [st x4.name,lro x4.args.length 1 (List.map st x4.args)],bo b5])),(47,Ans.b true),(54,Ans.v (AV.tup [AV.agg [st x4.name,lro x4.args.length 1 (List.map st x4.args)],bo b5])),(57,Ans.b true),(64,Ans.v (bo false)),(67,Ans.v (bo false)),(75,Ans.b true),(99,Ans.v (bo true))]) (by kernel_rfl) (ai h0 (ai h1 (ai h2 (ai h3 (ai h4 (ai h5 (ai h6 (ai h7 (ai h8 (ai h9 (ai h10 (ai h11 (ai h12 (ai h13 (ai h14 (ai h15 trivial))))))))))))))))
theorem f6_pffffffttt (x0:Sgn)(s1 s2:ByteArray)(b3:Bool)(x4:Prd)(b5:Bool)(X:Ext)(call:Caller)(lf:Nat)
 (h0:cvq X call false 12 [] [Ob.cells [lro x0.sorts.length 1 (List.map st x0.sorts),lro x0.consts.length 2 (List.flatMap cstC x0.consts),lro x0.preds.length 2 (List.flatMap prdC x0.preds)]] (bo true))
 (h1:cvq X call false 13 [AV.agg [lro x0.sorts.length 1 (List.map st x0.sorts),lro x0.consts.length 2 (List.flatMap cstC x0.consts),lro x0.preds.length 2 (List.flatMap prdC x0.preds)]] [Ob.cells [lro x0.sorts.length 1 (List.map st x0.sorts),lro x0.consts.length 2 (List.flatMap cstC x0.consts),lro x0.preds.length 2 (List.flatMap prdC x0.preds)]] (bo (fewB x0)))
 (h2:(!fewB x0)=false)
 (h3:decide ((↑(ByteArray.size s1):Int)>40)=false)
 (h4:cvq X call false 19 [AV.agg [lro x0.sorts.length 1 (List.map st x0.sorts),lro x0.consts.length 2 (List.flatMap cstC x0.consts),lro x0.preds.length 2 (List.flatMap prdC x0.preds)],st s1] [Ob.cells [lro x0.sorts.length 1 (List.map st x0.sorts),lro x0.consts.length 2 (List.flatMap cstC x0.consts),lro x0.preds.length 2 (List.flatMap prdC x0.preds)]] (AV.tup [st s2,bo b3]))
 (h5:b3=false)
 (h6:cvq X call false 20 [AV.agg [lro x0.sorts.length 1 (List.map st x0.sorts),lro x0.consts.length 2 (List.flatMap cstC x0.consts),lro x0.preds.length 2 (List.flatMap prdC x0.preds)],st s1] [Ob.cells [lro x0.sorts.length 1 (List.map st x0.sorts),lro x0.consts.length 2 (List.flatMap cstC x0.consts),lro x0.preds.length 2 (List.flatMap prdC x0.preds)]] (AV.tup [st s2,bo b3]))
 (h7:b3=false)
 (h8:cvq X call false 21 [AV.agg [lro x0.sorts.length 1 (List.map st x0.sorts),lro x0.consts.length 2 (List.flatMap cstC x0.consts),lro x0.preds.length 2 (List.flatMap prdC x0.preds)],st s1] [Ob.cells [lro x0.sorts.length 1 (List.map st x0.sorts),lro x0.consts.length 2 (List.flatMap cstC x0.consts),lro x0.preds.length 2 (List.flatMap prdC x0.preds)]] (AV.tup [AV.agg [st x4.name,lro x4.args.length 1 (List.map st x4.args)],bo b5]))
 (h9:b5=false)
 (h10:cvq X call false 22 [AV.agg [lro x0.sorts.length 1 (List.map st x0.sorts),lro x0.consts.length 2 (List.flatMap cstC x0.consts),lro x0.preds.length 2 (List.flatMap prdC x0.preds)],st s1] [Ob.cells [lro x0.sorts.length 1 (List.map st x0.sorts),lro x0.consts.length 2 (List.flatMap cstC x0.consts),lro x0.preds.length 2 (List.flatMap prdC x0.preds)],Ob.cells [st x4.name,lro x4.args.length 1 (List.map st x4.args)]] (AV.tup [AV.agg [st x4.name,lro x4.args.length 1 (List.map st x4.args)],bo b5]))
 (h11:b5=false)
 (h12:cvq X call true 23 [AV.agg [lro x0.sorts.length 1 (List.map st x0.sorts),lro x0.consts.length 2 (List.flatMap cstC x0.consts),lro x0.preds.length 2 (List.flatMap prdC x0.preds)],st s1] [Ob.cells [lro x0.sorts.length 1 (List.map st x0.sorts),lro x0.consts.length 2 (List.flatMap cstC x0.consts),lro x0.preds.length 2 (List.flatMap prdC x0.preds)],Ob.cells [st x4.name,lro x4.args.length 1 (List.map st x4.args)],Ob.cells [st x4.name,lro x4.args.length 1 (List.map st x4.args)]] (bo true))
 (h13:cvq X call true 24 [AV.agg [lro x0.sorts.length 1 (List.map st x0.sorts),lro x0.consts.length 2 (List.flatMap cstC x0.consts),lro x0.preds.length 2 (List.flatMap prdC x0.preds)],st s1] [Ob.cells [lro x0.sorts.length 1 (List.map st x0.sorts),lro x0.consts.length 2 (List.flatMap cstC x0.consts),lro x0.preds.length 2 (List.flatMap prdC x0.preds)],Ob.cells [st x4.name,lro x4.args.length 1 (List.map st x4.args)],Ob.cells [st x4.name,lro x4.args.length 1 (List.map st x4.args)]] (bo true))
 (h14:(ByteArray.toList s2 == ByteArray.toList s2)=true)
 (h15:cvq X call true 25 [AV.agg [st x4.name,lro x4.args.length 1 (List.map st x4.args)],AV.agg [st x4.name,lro x4.args.length 1 (List.map st x4.args)]] [Ob.cells [lro x0.sorts.length 1 (List.map st x0.sorts),lro x0.consts.length 2 (List.flatMap cstC x0.consts),lro x0.preds.length 2 (List.flatMap prdC x0.preds)],Ob.cells [st x4.name,lro x4.args.length 1 (List.map st x4.args)],Ob.cells [st x4.name,lro x4.args.length 1 (List.map st x4.args)]] (bo true)):vbody Tryd.prog X call lf noFg Tryd.f6 (codeOf Tryd.f6) [AV.agg (sgnC x0),st s1] [] 0=some (bo true,[Ob.cells [lro x0.sorts.length 1 (List.map st x0.sorts),lro x0.consts.length 2 (List.flatMap cstC x0.consts),lro x0.preds.length 2 (List.flatMap prdC x0.preds)],Ob.cells [st x4.name,lro x4.args.length 1 (List.map st x4.args)],Ob.cells [st x4.name,lro x4.args.length 1 (List.map st x4.args)]]) :=
  along_sound (ans:=[(4,Ans.v (bo true)),(10,Ans.v (bo (fewB x0))),(12,Ans.b false),(20,Ans.b false),(26,Ans.v (AV.tup [st s2,bo b3])),(29,Ans.b false),(35,Ans.v (AV.tup [st s2,bo b3])),(38,Ans.b false),(44,Ans.v (AV.tup [AV.agg [st x4.name,lro x4.args.length 1 (List.map st x4.args)],bo b5])),(47,Ans.b false),(54,Ans.v (AV.tup [AV.agg [st x4.name,lro x4.args.length 1 (List.map st x4.args)],bo b5])),(57,Ans.b false),(64,Ans.v (bo true)),(67,Ans.v (bo true)),(75,Ans.b true),(99,Ans.v (bo true))]) (by kernel_rfl) (ai h0 (ai h1 (ai h2 (ai h3 (ai h4 (ai h5 (ai h6 (ai h7 (ai h8 (ai h9 (ai h10 (ai h11 (ai h12 (ai h13 (ai h14 (ai h15 trivial))))))))))))))))
theorem f6_pfffffffft (x0:Sgn)(s1 s2:ByteArray)(b3:Bool)(x4:Prd)(b5:Bool)(X:Ext)(call:Caller)(lf:Nat)
 (h0:cvq X call false 12 [] [Ob.cells [lro x0.sorts.length 1 (List.map st x0.sorts),lro x0.consts.length 2 (List.flatMap cstC x0.consts),lro x0.preds.length 2 (List.flatMap prdC x0.preds)]] (bo true))
 (h1:cvq X call false 13 [AV.agg [lro x0.sorts.length 1 (List.map st x0.sorts),lro x0.consts.length 2 (List.flatMap cstC x0.consts),lro x0.preds.length 2 (List.flatMap prdC x0.preds)]] [Ob.cells [lro x0.sorts.length 1 (List.map st x0.sorts),lro x0.consts.length 2 (List.flatMap cstC x0.consts),lro x0.preds.length 2 (List.flatMap prdC x0.preds)]] (bo (fewB x0)))
 (h2:(!fewB x0)=false)
 (h3:decide ((↑(ByteArray.size s1):Int)>40)=false)
 (h4:cvq X call false 19 [AV.agg [lro x0.sorts.length 1 (List.map st x0.sorts),lro x0.consts.length 2 (List.flatMap cstC x0.consts),lro x0.preds.length 2 (List.flatMap prdC x0.preds)],st s1] [Ob.cells [lro x0.sorts.length 1 (List.map st x0.sorts),lro x0.consts.length 2 (List.flatMap cstC x0.consts),lro x0.preds.length 2 (List.flatMap prdC x0.preds)]] (AV.tup [st s2,bo b3]))
 (h5:b3=false)
 (h6:cvq X call false 20 [AV.agg [lro x0.sorts.length 1 (List.map st x0.sorts),lro x0.consts.length 2 (List.flatMap cstC x0.consts),lro x0.preds.length 2 (List.flatMap prdC x0.preds)],st s1] [Ob.cells [lro x0.sorts.length 1 (List.map st x0.sorts),lro x0.consts.length 2 (List.flatMap cstC x0.consts),lro x0.preds.length 2 (List.flatMap prdC x0.preds)]] (AV.tup [st s2,bo b3]))
 (h7:b3=false)
 (h8:cvq X call false 21 [AV.agg [lro x0.sorts.length 1 (List.map st x0.sorts),lro x0.consts.length 2 (List.flatMap cstC x0.consts),lro x0.preds.length 2 (List.flatMap prdC x0.preds)],st s1] [Ob.cells [lro x0.sorts.length 1 (List.map st x0.sorts),lro x0.consts.length 2 (List.flatMap cstC x0.consts),lro x0.preds.length 2 (List.flatMap prdC x0.preds)]] (AV.tup [AV.agg [st x4.name,lro x4.args.length 1 (List.map st x4.args)],bo b5]))
 (h9:b5=false)
 (h10:cvq X call false 22 [AV.agg [lro x0.sorts.length 1 (List.map st x0.sorts),lro x0.consts.length 2 (List.flatMap cstC x0.consts),lro x0.preds.length 2 (List.flatMap prdC x0.preds)],st s1] [Ob.cells [lro x0.sorts.length 1 (List.map st x0.sorts),lro x0.consts.length 2 (List.flatMap cstC x0.consts),lro x0.preds.length 2 (List.flatMap prdC x0.preds)],Ob.cells [st x4.name,lro x4.args.length 1 (List.map st x4.args)]] (AV.tup [AV.agg [st x4.name,lro x4.args.length 1 (List.map st x4.args)],bo b5]))
 (h11:b5=false)
 (h12:cvq X call true 23 [AV.agg [lro x0.sorts.length 1 (List.map st x0.sorts),lro x0.consts.length 2 (List.flatMap cstC x0.consts),lro x0.preds.length 2 (List.flatMap prdC x0.preds)],st s1] [Ob.cells [lro x0.sorts.length 1 (List.map st x0.sorts),lro x0.consts.length 2 (List.flatMap cstC x0.consts),lro x0.preds.length 2 (List.flatMap prdC x0.preds)],Ob.cells [st x4.name,lro x4.args.length 1 (List.map st x4.args)],Ob.cells [st x4.name,lro x4.args.length 1 (List.map st x4.args)]] (bo false))
 (h13:cvq X call true 24 [AV.agg [lro x0.sorts.length 1 (List.map st x0.sorts),lro x0.consts.length 2 (List.flatMap cstC x0.consts),lro x0.preds.length 2 (List.flatMap prdC x0.preds)],st s1] [Ob.cells [lro x0.sorts.length 1 (List.map st x0.sorts),lro x0.consts.length 2 (List.flatMap cstC x0.consts),lro x0.preds.length 2 (List.flatMap prdC x0.preds)],Ob.cells [st x4.name,lro x4.args.length 1 (List.map st x4.args)],Ob.cells [st x4.name,lro x4.args.length 1 (List.map st x4.args)]] (bo false))
 (h14:(ByteArray.toList s2 == ByteArray.toList s2)=true)
 (h15:cvq X call true 25 [AV.agg [st x4.name,lro x4.args.length 1 (List.map st x4.args)],AV.agg [st x4.name,lro x4.args.length 1 (List.map st x4.args)]] [Ob.cells [lro x0.sorts.length 1 (List.map st x0.sorts),lro x0.consts.length 2 (List.flatMap cstC x0.consts),lro x0.preds.length 2 (List.flatMap prdC x0.preds)],Ob.cells [st x4.name,lro x4.args.length 1 (List.map st x4.args)],Ob.cells [st x4.name,lro x4.args.length 1 (List.map st x4.args)]] (bo true)):vbody Tryd.prog X call lf noFg Tryd.f6 (codeOf Tryd.f6) [AV.agg (sgnC x0),st s1] [] 0=some (bo true,[Ob.cells [lro x0.sorts.length 1 (List.map st x0.sorts),lro x0.consts.length 2 (List.flatMap cstC x0.consts),lro x0.preds.length 2 (List.flatMap prdC x0.preds)],Ob.cells [st x4.name,lro x4.args.length 1 (List.map st x4.args)],Ob.cells [st x4.name,lro x4.args.length 1 (List.map st x4.args)]]) :=
  along_sound (ans:=[(4,Ans.v (bo true)),(10,Ans.v (bo (fewB x0))),(12,Ans.b false),(20,Ans.b false),(26,Ans.v (AV.tup [st s2,bo b3])),(29,Ans.b false),(35,Ans.v (AV.tup [st s2,bo b3])),(38,Ans.b false),(44,Ans.v (AV.tup [AV.agg [st x4.name,lro x4.args.length 1 (List.map st x4.args)],bo b5])),(47,Ans.b false),(54,Ans.v (AV.tup [AV.agg [st x4.name,lro x4.args.length 1 (List.map st x4.args)],bo b5])),(57,Ans.b false),(64,Ans.v (bo false)),(67,Ans.v (bo false)),(75,Ans.b true),(99,Ans.v (bo true))]) (by kernel_rfl) (ai h0 (ai h1 (ai h2 (ai h3 (ai h4 (ai h5 (ai h6 (ai h7 (ai h8 (ai h9 (ai h10 (ai h11 (ai h12 (ai h13 (ai h14 (ai h15 trivial))))))))))))))))
end Go.Proofs.Sig
end
/- Signature: the law of lookups. -/
section
open Go Go.Vm Go.Proofs
namespace Go.Proofs.Sig
variable [Fixed] {X:Ext}
theorem S2_20 {x:Sgn} (s:ByteArray) (h:okG x=true):S2 20 [.agg (sgnC x),st s]=some (aSB.enc (sortOfF x s)):=by
  unfold S2
  rw [spec_on,sp2_at (A:=aG) (B:=aS) (x:=x) (y:=s) (aG_dec x) rfl]
  exact if_pos h
theorem S6_S4 {f:FuncId} {vs:List AV} {r:AV} (h:S4 f vs=some r) (h1:Nat.beq f 42=false) (h2:Nat.beq f 43=false) (h3:Nat.beq f 22=false) (h4:Nat.beq f 25=false) (h5:Nat.beq f 21=false):S6 f vs=some r:=S6_S5 (S5_S4 h h1 h2 h3) h4 h5
theorem S4_S2 {f:FuncId} {vs:List AV} {r:AV} (h:S2 f vs=some r) (h1:Nat.beq f 15=false) (h2:Nat.beq f 14=false) (h3:Nat.beq f 16=false) (h4:Nat.beq f 12=false):S4 f vs=some r:=S4_S3 (S3_S2 h h1 h2 h3) h4
theorem aSB_enc (a:ByteArray × Bool):aSB.enc a = .tup [st a.1,bo a.2]:=rfl
theorem aPB_enc (a:Prd × Bool):aPB.enc a = .tup [.agg (prdC a.1),bo a.2]:=by show AV.tup [aP.enc _,_]=_; rw [aP_enc]; rfl
theorem predOf_few {x:Sgn} (s:ByteArray) (h:okG x=true):(predOf x s).1.args.length ≤ 10000000:=by
  unfold predOf
  split
  · rename_i c hc
    have:=((okG_iff.1 h).p c (List.mem_of_find?_eq_some hc)).2.1
    show c.args.length ≤ _
    omega
  · show 0 ≤ _; omega
theorem law6 (hX:ExtOk Tryd.prog X) (hM:XS X) (ha:∀ f,X.adopt f=false) (x:Sgn) (s:ByteArray):CallAt Tryd.prog 6 [.agg (sgnC x),st s] [] 0 (bo true) []:=by
  have hC:CallOk Tryd.prog (callerOf S6):=callerOf_ok (S6_ok hX hM ha)
  have c12:=cAt hM ha (call:=callerOf S6) (B:=aB) (dr:=false) (σ:=[Ob.cells (sgnC x)]) rfl rfl (caller_at (S6_S4 S4_12 rfl rfl rfl rfl rfl))
  have c13:=cAt hM ha (call:=callerOf S6) (B:=aB) (dr:=false) (σ:=[Ob.cells (sgnC x)]) rfl (ltG x) (caller_at (S6_S4 (S4_S2 (S2_13 x) rfl rfl rfl rfl) rfl rfl rfl rfl rfl))
  suffices hv : ∃ σ', vbody Tryd.prog X (callerOf S6) 0 noFg Tryd.f6 (codeOf Tryd.f6) [.agg (sgnC x), st s] [] 0 = some (bo true, σ') by
    obtain ⟨σ',hv⟩:=hv
    exact run_res (B:=aB) (y:=true) hX hC (hM.dom 6 rfl rfl) Tryd.func6 (by kernel_rfl) hv rfl
  cases hf:fewB x with
  | false=>exact ⟨_,f6_pt x s X (callerOf S6) 0 c12 c13 (by rw [hf]; rfl) c12⟩
  | true =>
    have hk:=few_ok hf
    cases hs:decide ((↑s.size:Int) > 40) with
    | true=>exact ⟨_,f6_pft x s X (callerOf S6) 0 c12 c13 (by rw [hf]; rfl) hs c12⟩
    | false =>
      have c19:=cAt hM ha (call:=callerOf S6) (B:=aSB) (dr:=false) (σ:=[Ob.cells (sgnC x)]) rfl (ltGs x s) (caller_at (S6_S4 (S4_S2 (S2_19 s hk) rfl rfl rfl rfl) rfl rfl rfl rfl rfl))
      have c20:=cAt hM ha (call:=callerOf S6) (B:=aSB) (dr:=false) (σ:=[Ob.cells (sgnC x)]) rfl (ltGs x s) (caller_at (S6_S4 (S4_S2 (S2_20 s hk) rfl rfl rfl rfl) rfl rfl rfl rfl rfl))
      rw [aSB_enc] at c19 c20
      have c21:=cAt hM ha (call:=callerOf S6) (B:=aPB) (dr:=false) (σ:=[Ob.cells (sgnC x)]) rfl (ltGs x s) (caller_at (S6_21 s hk))
      have c22:=cAt hM ha (call:=callerOf S6) (B:=aPB) (dr:=false) (σ:=[Ob.cells (sgnC x),Ob.cells (prdC (predOf x s).1)]) rfl (ltGs x s) (caller_at (S6_S5 (S5_22 s hk) rfl rfl))
      rw [aPB_enc] at c21 c22
      have c23:=cAt hM ha (call:=callerOf S6) (B:=aB) (dr:=true) (σ:=[Ob.cells (sgnC x),Ob.cells (prdC (predOf x s).1),Ob.cells (prdC (predOf x s).1)]) rfl (ltGs x s) (caller_at (S6_S4 (S4_S2 (S2_23 s hk) rfl rfl rfl rfl) rfl rfl rfl rfl rfl))
      have c24:=cAt hM ha (call:=callerOf S6) (B:=aB) (dr:=true) (σ:=[Ob.cells (sgnC x),Ob.cells (prdC (predOf x s).1),Ob.cells (prdC (predOf x s).1)]) rfl (ltGs x s) (caller_at (S6_S4 (S4_S2 (S2_S1 (S1_24 s hk) rfl rfl rfl rfl rfl rfl) rfl rfl rfl rfl) rfl rfl rfl rfl rfl))
      have c25:=cAt hM ha (call:=callerOf S6) (B:=aB) (dr:=true) (σ:=[Ob.cells (sgnC x),Ob.cells (prdC (predOf x s).1),Ob.cells (prdC (predOf x s).1)]) rfl (ltPP (predOf x s).1 (predOf x s).1) (caller_at (S6_25 (predOf x s).1 (predOf_few s hk)))
      rw [show eqPr (predOf x s).1 (predOf x s).1=true from decide_eq_true rfl] at c25
      have hn:(!fewB x)=false:=by rw [hf]; rfl
      have he:((sortOfF x s).1.toList == (sortOfF x s).1.toList)=true:=eqB_iff.2 rfl
      cases h3:(sortOfF x s).2 <;> cases h5:(predOf x s).2 <;> cases h6:hasSortB x s <;> rw [h3] at c19 c20 <;> rw [h5] at c21 c22 <;> rw [h6] at c23 c24
      · exact ⟨_,f6_pfffffffft x s (sortOfF x s).1 false (predOf x s).1 false X (callerOf S6) 0 c12 c13 hn hs c19 rfl c20 rfl c21 rfl c22 rfl c23 c24 he c25⟩
      · exact ⟨_,f6_pffffffttt x s (sortOfF x s).1 false (predOf x s).1 false X (callerOf S6) 0 c12 c13 hn hs c19 rfl c20 rfl c21 rfl c22 rfl c23 c24 he c25⟩
      · exact ⟨_,f6_pffffttfft x s (sortOfF x s).1 false (predOf x s).1 true X (callerOf S6) 0 c12 c13 hn hs c19 rfl c20 rfl c21 rfl c22 rfl c23 c24 he c25⟩
      · exact ⟨_,f6_pffffttttt x s (sortOfF x s).1 false (predOf x s).1 true X (callerOf S6) 0 c12 c13 hn hs c19 rfl c20 rfl c21 rfl c22 rfl c23 c24 he c25⟩
      · exact ⟨_,f6_pffttfffft x s (sortOfF x s).1 true (predOf x s).1 false X (callerOf S6) 0 c12 c13 hn hs c19 rfl c20 rfl c21 rfl c22 rfl c23 c24 he c25⟩
      · exact ⟨_,f6_pffttffttt x s (sortOfF x s).1 true (predOf x s).1 false X (callerOf S6) 0 c12 c13 hn hs c19 rfl c20 rfl c21 rfl c22 rfl c23 c24 he c25⟩
      · exact ⟨_,f6_pffttttfft x s (sortOfF x s).1 true (predOf x s).1 true X (callerOf S6) 0 c12 c13 hn hs c19 rfl c20 rfl c21 rfl c22 rfl c23 c24 he c25⟩
      · exact ⟨_,f6_pffttttttt x s (sortOfF x s).1 true (predOf x s).1 true X (callerOf S6) 0 c12 c13 hn hs c19 rfl c20 rfl c21 rfl c22 rfl c23 c24 he c25⟩
end Go.Proofs.Sig
end
