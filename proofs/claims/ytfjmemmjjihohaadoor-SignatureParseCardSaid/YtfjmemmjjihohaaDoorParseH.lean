/- Part 8 of the texts of this claim: the evaluator, and what it says of the program's functions. -/
import Derived.Test.YtfjmemmjjihohaaDoorParseG
import Derived.Test.YtfjmemmjjihohaaDoorParseD
import Derived.Test.YtfjmemmjjihohaaDoorParseC
set_option linter.unusedSectionVars false
set_option linter.unusedVariables false
set_option linter.unusedSimpArgs false
set_option linter.constructorNameAsVariable false
/- Signature: the law of Valid, walked (printed) -/
section
open Go Go.Vm Go.Proofs
namespace Go.Proofs.Sig
end Go.Proofs.Sig
end
/- Signature: the law of Valid. -/
section
open Go Go.Vm Go.Proofs
namespace Go.Proofs.Sig
variable [Fixed] {X:Ext}
end Go.Proofs.Sig
end
/- Signature: sameness of predicates, predicates found and copied. -/
section
open Go Go.Vm Go.Proofs
namespace Go.Proofs.Sig
/-- The predicate of a name. -/
def predOf (x:Sgn) (s:ByteArray):Prd × Bool:=match x.preds.find? (fun c=>c.name.toList == s.toList) with
  | some c=>(c,true)
  | none=>(d0P,false)
def eqSs (l m:List ByteArray):Bool:=decide (l=m)
def eqPr (p q:Prd):Bool:=decide (p=q)
variable [Fixed] {X:Ext}
def aPB:Arg (Prd × Bool):=Arg.tup2 aP aB
theorem equal42 {call:Caller} {lf:Nat} {l m:List ByteArray} (hl:l.length ≤ big) (hlf:l.length < lf):vbody Tryd.prog X call lf noFg Tryd.f42 (codeOf Tryd.f42) [strsV l,strsV m] [] 0=some (bo (eqSs l m),[]):=by
  by_cases he:l.length=m.length
  · have ho : ∀ i, (i < l.length → nS l i = nS m i → f42_o0 l i (nS l i) (nS m i) = 0) ∧ (i < l.length → ¬ nS l i = nS m i → f42_o0 l i (nS l i) (nS m i) = 1) ∧ (l.length ≤ i → f42_o0 l i (nS l i) (nS m i) = 2) := by
      intro i
      unfold f42_o0
      refine ⟨fun a b => ?_,fun a b => ?_,fun a => ?_⟩
      · rw [dt a,eqB_iff.2 b]; rfl
      · rw [dt a,eqB_ne.2 b]; rfl
      · rw [df a]
    rcases first_fail (p:=fun i=>nS l i=nS m i) l.length with hall | ⟨k,hk,hbad,hbef⟩
    · have M := f42_M l m X call lf l.length (fun i => nS l i) (fun i => tS l i) (fun i => nS m i) (fun i => tS m i) hlf (fun i _ h => at_strs (dlt h)) (fun i _ h => at_strs (he ▸ dlt h)) (fun i h _ => up h hl) (fun j hj => (ho j).1 hj (hall j hj))
      rw [show eqSs l m=true from decide_eq_true (list_ext (d:=emp) he hall)]
      exact M.2 ((ho _).2.2 (Nat.le_refl _)) (neq_false he)
    · have M := f42_M l m X call lf k (fun i => nS l i) (fun i => tS l i) (fun i => nS m i) (fun i => tS m i) (by omega) (fun i _ h => at_strs (dlt h)) (fun i _ h => at_strs (he ▸ dlt h)) (fun i h _ => up h (by omega)) (fun j hj => (ho j).1 (by omega) (hbef j hj))
      rw [show eqSs l m=false from decide_eq_false (fun e=>hbad (by rw [e]))]
      exact M.1 ((ho k).2.1 hk hbad) (neq_false he)
  · rw [show eqSs l m = false from decide_eq_false (fun e => he (by rw [e]))]
    exact f42_pt l m X call lf (neq_true he)
theorem same25 {call:Caller} {lf:Nat} {p q:Prd} (h42:∀ σ,callv X call false 42 [strsV p.args,strsV q.args] σ 0=some (bo (eqSs p.args q.args),σ)):∃ σ',vbody Tryd.prog X call lf noFg Tryd.f25 (codeOf Tryd.f25) [.agg (prdC p),.agg (prdC q)] [] 0=some (bo (eqPr p q),σ'):=by
  have M:=f25_P0 p q X call lf (eqSs p.args q.args) (fun _=>h42 _)
  unfold f25_q0 at M
  unfold eqPr
  cases hn:p.name.toList == q.name.toList with
  | false =>
    rw [hn] at M
    rw [show decide (p=q)=false from decide_eq_false (fun e=>eqB_ne.1 hn (by rw [e]))]
    exact ⟨_,M.2 rfl⟩
  | true =>
    rw [hn] at M
    cases hs:eqSs p.args q.args with
    | false =>
      rw [hs] at M
      rw [show decide (p=q)=false from decide_eq_false (fun e=>of_decide_eq_false hs (by rw [e]))]
      exact ⟨_,M.2 rfl⟩
    | true =>
      rw [hs] at M
      rw [show decide (p = q) = true from decide_eq_true (by
        have h1:=eqB_iff.1 hn
        have h2:=of_decide_eq_true hs
        cases p; cases q
        simp only at h1 h2
        rw [h1,h2])]
      exact ⟨_,M.1 rfl⟩
theorem pred22 {call:Caller} {lf:Nat} {x:Sgn} {s:ByteArray} (hk:okG x=true) (hlf:1000001 < lf):∃ r σ',vbody Tryd.prog X call lf fg22 Tryd.f22 (codeOf Tryd.f22) [.agg (sgnC x),st s] [] 0=some (r,σ')∧aPB.dec r=some (predOf x s):=by
  obtain ⟨hns,hnc,hnp,hss,hcc,hpp⟩:=okG_iff.1 hk
  have hbig:big=140737488355328:=rfl
  have ho : ∀ i, (i < x.preds.length → (nP x.preds i).name.toList == s.toList → f22_o0 x s i (nP x.preds i).name = 1) ∧ (i < x.preds.length → ((nP x.preds i).name.toList == s.toList) = false → f22_o0 x s i (nP x.preds i).name = 0) ∧ (x.preds.length ≤ i → f22_o0 x s i (nP x.preds i).name = 2) := by
    intro i
    unfold f22_o0
    refine ⟨fun a b => ?_,fun a b => ?_,fun a => ?_⟩
    · rw [dt a,b]
    · rw [dt a,b]
    · rw [df a]
  unfold predOf
  rcases first_fail (p:=fun i=>((nP x.preds i).name.toList == s.toList)=false) x.preds.length with hall | ⟨k,hk',hbad,hbef⟩
  · have M := f22_M x s X call lf x.preds.length (fun i => (nP x.preds i).name) (fun i => (nP x.preds i).args) (fun i => tP x.preds i) (by omega) (fun i _ h => at_prd (dlt h)) (fun i h _ => up h (by omega)) (fun j hj => (ho j).2.1 hj (hall j hj))
    rw [find_no d0P hall]
    exact ⟨_,_,M.2 ((ho _).2.2 (Nat.le_refl _)),rfl⟩
  · have M := f22_M x s X call lf k (fun i => (nP x.preds i).name) (fun i => (nP x.preds i).args) (fun i => tP x.preds i) (by omega) (fun i _ h => at_prd (dlt h)) (fun i h _ => up h (by omega)) (fun j hj => (ho j).2.1 (by omega) (hbef j hj))
    have hb:((nP x.preds k).name.toList == s.toList)=true:=by simpa using hbad
    rw [find_at d0P hk' hb hbef]
    refine ⟨_,_,M.1 ((ho k).1 hk' hb) _ _ (vend1_plain (by simp [AV.owns,AV.ownsAll,owns_strs])),?_⟩
    have:=aPB.de (nP x.preds k,true)
    rw [show aPB.enc (nP x.preds k,true) = .tup [.agg (prdC (nP x.preds k)),bo true] by show AV.tup [aP.enc _,_]=_; rw [aP_enc]; rfl] at this
    exact this
theorem copied43 {call:Caller} {lf:Nat} {p:Prd} (h48:callv X (call0 call) true 48 [strsV p.args] [] 0=some (strsV p.args,[])) (h55:callv X (call0 call) true 55 [strsV p.args] [] 0=some (strsV p.args,[])):∃ σ',vbody Tryd.prog X call lf fg43 Tryd.f43 (codeOf Tryd.f43) [.agg (prdC p)] [] 0=some (.agg (prdC p),σ') :=
  ⟨_,f43_p p X call lf p.args p.args _ _ h48 h55 (vend1_plain (by simp [AV.owns,AV.ownsAll,owns_strs]))⟩
theorem pred21 {call:Caller} {lf:Nat} {x:Sgn} {s:ByteArray} (hk:okG x=true) (hlf:1000001 < lf) (h43:∀ p,p ∈ x.preds→∀ σ,callv X call false 43 [.agg (prdC p)] σ 0=some (.agg (prdC p),σ)):∃ r σ',vbody Tryd.prog X call lf fg21 Tryd.f21 (codeOf Tryd.f21) [.agg (sgnC x),st s] [] 0=some (r,σ')∧aPB.dec r=some (predOf x s):=by
  obtain ⟨hns,hnc,hnp,hss,hcc,hpp⟩:=okG_iff.1 hk
  have hbig:big=140737488355328:=rfl
  have ho : ∀ i, (i < x.preds.length → (nP x.preds i).name.toList == s.toList → f21_o0 x s i (nP x.preds i).name = 1) ∧ (i < x.preds.length → ((nP x.preds i).name.toList == s.toList) = false → f21_o0 x s i (nP x.preds i).name = 0) ∧ (x.preds.length ≤ i → f21_o0 x s i (nP x.preds i).name = 2) := by
    intro i
    unfold f21_o0
    refine ⟨fun a b => ?_,fun a b => ?_,fun a => ?_⟩
    · rw [dt a,b]
    · rw [dt a,b]
    · rw [df a]
  unfold predOf
  rcases first_fail (p:=fun i=>((nP x.preds i).name.toList == s.toList)=false) x.preds.length with hall | ⟨k,hk',hbad,hbef⟩
  · have M := f21_M x s X call lf x.preds.length (fun i => (nP x.preds i).name) (fun i => (nP x.preds i).args) (fun i => tP x.preds i) (fun i => (nP x.preds i).name) (fun i => (nP x.preds i).args) (by omega) (fun i _ h => at_prd (dlt h)) (fun i _ h _ => h43 (nP x.preds i) (by rw [nP, getD_lt (dlt h)]; exact List.getElem_mem _) _) (fun i h _ => up h (by omega)) (fun j hj => (ho j).2.1 hj (hall j hj))
    rw [find_no d0P hall]
    exact ⟨_,_,M.2 ((ho _).2.2 (Nat.le_refl _)),rfl⟩
  · have M := f21_M x s X call lf k (fun i => (nP x.preds i).name) (fun i => (nP x.preds i).args) (fun i => tP x.preds i) (fun i => (nP x.preds i).name) (fun i => (nP x.preds i).args) (by omega) (fun i _ h => at_prd (dlt h)) (fun i _ h _ => h43 (nP x.preds i) (by rw [nP, getD_lt (dlt h)]; exact List.getElem_mem _) _) (fun i h _ => up h (by omega)) (fun j hj => (ho j).2.1 (by omega) (hbef j hj))
    have hb:((nP x.preds k).name.toList == s.toList)=true:=by simpa using hbad
    rw [find_at d0P hk' hb hbef]
    refine ⟨_,_,M.1 ((ho k).1 hk' hb) _ _ (vend1_plain (by simp [AV.owns,AV.ownsAll,owns_strs])),?_⟩
    have:=aPB.de (nP x.preds k,true)
    rw [show aPB.enc (nP x.preds k,true) = .tup [.agg (prdC (nP x.preds k)),bo true] by show AV.tup [aP.enc _,_]=_; rw [aP_enc]; rfl] at this
    exact this
def gEqS (l m:List ByteArray):Option AV:=if lenOk l.length then some (bo (eqSs l m)) else none
def gEqP (p q:Prd):Option AV:=if lenOk p.args.length then some (bo (eqPr p q)) else none
def gCop (p:Prd):Option AV:=if lenOk p.args.length then some (aP.enc p) else none
def gPre (x:Sgn) (s:ByteArray):Option AV:=if okG x then some (aPB.enc (predOf x s)) else none
def S5:Vm.Spec:=Vm.Spec.on (Vm.Spec.on (Vm.Spec.on S4 42 (sp2 aSs aSs gEqS)) 43 (sp1 aP gCop)) 22 (sp2 aG aS gPre)
def S6:Vm.Spec:=Vm.Spec.on (Vm.Spec.on S5 25 (sp2 aP aP gEqP)) 21 (sp2 aG aS gPre)
theorem ltPP (p q:Prd):AV.ltAll 0 [AV.agg (prdC p),AV.agg (prdC q)]=true:=by
  have h1:=aP.lt p
  have h2:=aP.lt q
  rw [aP_enc] at h1 h2
  simp only [AV.ltAll,h1,h2,Bool.and_self]
theorem ltP (p:Prd):AV.ltAll 0 [AV.agg (prdC p)]=true:=by
  have h1:=aP.lt p
  rw [aP_enc] at h1
  simp only [AV.ltAll,h1,Bool.and_self]
theorem ltLL (l m:List ByteArray):AV.ltAll 0 [strsV l,strsV m]=true:=by simp only [AV.ltAll,lt_strsV,Bool.and_self]
theorem ltL (l:List ByteArray):AV.ltAll 0 [strsV l]=true:=by simp only [AV.ltAll,lt_strsV,Bool.and_self]
theorem aP_dec (x:Prd):aP.dec (.agg (prdC x))=some x:=by rw [← aP_enc,aP.de]
section
variable (hX:ExtOk Tryd.prog X) (hM:XS X) (ha:∀ f,X.adopt f=false)
include hX hM ha
theorem S5_ok:SpecOk Tryd.prog S5:=by
  have hC:CallOk Tryd.prog (callerOf S4):=callerOf_ok (S4_ok hX hM ha)
  refine SpecOk.on2 (SpecOk.on1 (SpecOk.on2 (S4_ok hX hM ha) fun l m r h => ?_) fun p r h => ?_) fun x s r h => ?_
  · unfold gEqS at h
    split at h
    · rename_i hs
      simp only [Option.some.injEq] at h
      subst h
      rw [aSs_enc,aSs_enc]
      exact run_res (B:=aB) (y:=eqSs l m) hX hC (hM.dom 42 rfl rfl) Tryd.func42 (by kernel_rfl) (equal42 (lf:=l.length + 1) (lt_big (lenOk_le hs)) (by omega)) rfl
    · cases h
  · unfold gCop at h
    split at h
    · rename_i hs
      simp only [Option.some.injEq] at h
      subst h
      have h48:callerOf S4 48 [strsV p.args] [] 0=some (aSs.enc p.args,[]):=caller_at (S4_S3 (S3_S2 (S2_S1 (S1_S0 (S0_48 (lenOk_le hs)) rfl rfl) rfl rfl rfl rfl rfl rfl) rfl rfl rfl) rfl)
      have h55:callerOf S4 55 [strsV p.args] [] 0=some (aSs.enc p.args,[]):=caller_at (S4_S3 (S3_S2 (S2_S1 (S1_S0 (S0_55 p.args) rfl rfl) rfl rfl rfl rfl rfl rfl) rfl rfl rfl) rfl)
      have h0 : ∀ f, callerOf S4 f [strsV p.args] [] 0 = some (aSs.enc p.args, []) → sigW f = true → callv X (call0 (callerOf S4)) true f [strsV p.args] [] 0 = some (strsV p.args, []) := fun f hf hw => by
        have hc : call0 (callerOf S4) f [strsV p.args] [] 0 = some (aSs.enc p.args, []) := by
          unfold call0
          rw [if_pos (ltL p.args)]
          exact hf
        have:=cAt hM ha (call:=call0 (callerOf S4)) (B:=aSs) (dr:=true) (σ:=[]) hw (ltL p.args) hc
        rw [aSs_enc] at this
        exact this
      obtain ⟨σ',hv⟩:=copied43 (X:=X) (call:=callerOf S4) (lf:=0) (p:=p) (h0 48 h48 rfl) (h0 55 h55 rfl)
      have:=run_res (B:=aP) (y:=p) hX hC (hM.dom 43 rfl rfl) Tryd.func43 (by kernel_rfl) hv (aP_dec p)
      rw [aP_enc] at this ⊢
      exact this
    · cases h
  · unfold gPre at h
    split at h
    · rename_i hk
      simp only [Option.some.injEq] at h
      subst h
      rw [aG_enc]
      obtain ⟨r,σ',hv,hd⟩:=pred22 (X:=X) (call:=callerOf S4) (lf:=1000002) (s:=s) hk (by omega)
      exact run_res (B:=aPB) (y:=predOf x s) hX hC (hM.dom 22 rfl rfl) Tryd.func22 (by kernel_rfl) hv hd
    · cases h
omit hX hM ha in
theorem S5_42 {l:List ByteArray} (m:List ByteArray) (h:l.length ≤ 10000000):S5 42 [strsV l,strsV m]=some (bo (eqSs l m)):=by
  unfold S5
  rw [spec_off rfl,spec_off rfl,spec_on,sp2_at (A:=aSs) (B:=aSs) (x:=l) (y:=m) aSs_dec aSs_dec]
  exact if_pos (Nat.ble_eq_true_of_le h)
omit hX hM ha in
theorem S5_43 {p:Prd} (h:p.args.length ≤ 10000000):S5 43 [.agg (prdC p)]=some (aP.enc p):=by
  unfold S5
  rw [spec_off rfl,spec_on,sp1_at (A:=aP) (x:=p) (aP_dec p)]
  exact if_pos (Nat.ble_eq_true_of_le h)
theorem S6_ok:SpecOk Tryd.prog S6:=by
  have hC:CallOk Tryd.prog (callerOf S5):=callerOf_ok (S5_ok hX hM ha)
  refine SpecOk.on2 (SpecOk.on2 (S5_ok hX hM ha) fun p q r h => ?_) fun x s r h => ?_
  · unfold gEqP at h
    split at h
    · rename_i hs
      simp only [Option.some.injEq] at h
      subst h
      rw [aP_enc,aP_enc]
      obtain ⟨σ',hv⟩:=same25 (X:=X) (call:=callerOf S5) (lf:=0) (p:=p) (q:=q) (fun σ=>cAt hM ha (B:=aB) rfl (ltLL p.args q.args) (caller_at (S5_42 q.args (lenOk_le hs))))
      exact run_res (B:=aB) (y:=eqPr p q) hX hC (hM.dom 25 rfl rfl) Tryd.func25 (by kernel_rfl) hv rfl
    · cases h
  · unfold gPre at h
    split at h
    · rename_i hk
      simp only [Option.some.injEq] at h
      subst h
      rw [aG_enc]
      obtain ⟨r, σ', hv, hd⟩ := pred21 (X := X) (call := callerOf S5) (lf := 1000002) (s := s) hk (by omega) (fun p hp σ => by
        have:=cAt hM ha (call:=callerOf S5) (B:=aP) (dr:=false) (σ:=σ) (f:=43) rfl (ltP p) (caller_at (S5_43 (by have:=((okG_iff.1 hk).p p hp).2.1; omega)))
        rw [aP_enc] at this
        exact this)
      exact run_res (B:=aPB) (y:=predOf x s) hX hC (hM.dom 21 rfl rfl) Tryd.func21 (by kernel_rfl) hv hd
    · cases h
omit hX hM ha in
theorem S5_S4 {f:FuncId} {vs:List AV} {r:AV} (h:S4 f vs=some r) (h1:Nat.beq f 42=false) (h2:Nat.beq f 43=false) (h3:Nat.beq f 22=false):S5 f vs=some r:=by
  unfold S5
  rw [spec_off h3,spec_off h2,spec_off h1]
  exact h
omit hX hM ha in
theorem S6_S5 {f:FuncId} {vs:List AV} {r:AV} (h:S5 f vs=some r) (h1:Nat.beq f 25=false) (h2:Nat.beq f 21=false):S6 f vs=some r:=by
  unfold S6
  rw [spec_off h2,spec_off h1]
  exact h
omit hX hM ha in
theorem S6_25 {p:Prd} (q:Prd) (h:p.args.length ≤ 10000000):S6 25 [.agg (prdC p),.agg (prdC q)]=some (bo (eqPr p q)):=by
  unfold S6
  rw [spec_off rfl,spec_on,sp2_at (A:=aP) (B:=aP) (x:=p) (y:=q) (aP_dec p) (aP_dec q)]
  exact if_pos (Nat.ble_eq_true_of_le h)
end
end Go.Proofs.Sig
end
/- Signature: the law of lookups, walked (printed) -/
section
open Go Go.Vm Go.Proofs
namespace Go.Proofs.Sig
end Go.Proofs.Sig
end
/- Signature: the law of lookups. -/
section
open Go Go.Vm Go.Proofs
namespace Go.Proofs.Sig
variable [Fixed] {X:Ext}
theorem S6_S4 {f:FuncId} {vs:List AV} {r:AV} (h:S4 f vs=some r) (h1:Nat.beq f 42=false) (h2:Nat.beq f 43=false) (h3:Nat.beq f 22=false) (h4:Nat.beq f 25=false) (h5:Nat.beq f 21=false):S6 f vs=some r:=S6_S5 (S5_S4 h h1 h2 h3) h4 h5
end Go.Proofs.Sig
end
/- Signature: the reference's cut, with and Text, walked (printed) -/
section
open Go Go.Vm Go.Proofs
namespace Go.Proofs.Sig
def fg41:Nat→List Nat
  | 2003=>[1000000,1000001,1000002]
  | 2005=>[1000000,1000001,1000002]
  | 2007=>[1000000,1000001,1000002]
  | _=>[]
theorem f41_ptt (x0:Sgn)(s1:ByteArray)(l2:List ByteArray)(z3:AV) (τ3:List Ob)(i4 n4:Nat) (τ4:List Ob)(X:Ext)(call:Caller)(lf:Nat)(a:ByteArray)(r10:List AV)(d:ByteArray)(r23:List AV)(rE:AV)(sE:List Ob)
 (h0:cvq X call false 40 [st s1,AV.int IntKind.u8 32] [Ob.cells (gQ x0),Ob.cells [AV.list LK.nil 0 0 [],AV.list LK.nil 0 0 [],AV.list LK.nil 0 0 []]] (sQ l2))
 (h1:kiq 22 [Ob.cells (gQ x0),Ob.cells [AV.list LK.nil 0 0 [],AV.list LK.nil 0 0 [],AV.list LK.nil 0 0 []]] (sQ l2) (i6 0) (st a::r10))
 (h2:(ByteArray.toList a == ByteArray.toList (ByteArray.mk #[115,111,114,116]))=true)
 (h3:((↑l2.length:Int) == 2)=true)
 (h4:appendv Tryd.prog 22 [Ob.cells (gQ x0),Ob.cells [AV.list LK.nil 0 0 [],AV.list LK.nil 0 0 [],AV.list LK.nil 0 0 []]] 0 (AV.list LK.clip 0 1 []) (sQ x0.sorts)=some (z3,Ob.cells (sgnC x0)::Ob.cells [AV.list LK.nil 0 0 [],AV.list LK.nil 0 0 [],AV.list LK.nil 0 0 []]::τ3))
 (h5:kiq 22 [] (sQ l2) (i6 1) (st d::r23))
 (h6:appendv Tryd.prog 22 (Ob.cells (gQ x0)::Ob.cells [AV.list LK.nil 0 0 [],AV.list LK.nil 0 0 [],AV.list LK.nil 0 0 []]::τ3) 0 z3 (AV.list LK.clip 1 1 [st d])=some (AV.own i4 n4,Ob.cells (sgnC x0)::Ob.cells [AV.list LK.nil 0 0 [],AV.list LK.nil 0 0 [],AV.list LK.nil 0 0 []]::τ4))
 (h7:vend1 [] 0 (Ob.cells [AV.own i4 n4,cQ x0.consts,pQ x0.preds]::Ob.cells [AV.own i4 n4,cQ x0.consts,pQ x0.preds]::τ4) [AV.agg [AV.own i4 n4,cQ x0.consts,pQ x0.preds]]=some (rE,sE)):vbody Tryd.prog X call lf fg41 Tryd.f41 (codeOf Tryd.f41) [AV.agg (sgnC x0),st s1] [] 0=some (rE,sE) :=
  along_sound (ans:=[(5,Ans.v (sQ l2)),(9,Ans.v (AV.eaddr (st a::r10))),(11,Ans.b true),(18,Ans.b true),(26,Ans.c z3 (Ob.cells (sgnC x0)::Ob.cells [AV.list LK.nil 0 0 [],AV.list LK.nil 0 0 [],AV.list LK.nil 0 0 []]::τ3)),(28,Ans.v (AV.eaddr (st d::r23))),(31,Ans.c (AV.own i4 n4) (Ob.cells (sgnC x0)::Ob.cells [AV.list LK.nil 0 0 [],AV.list LK.nil 0 0 [],AV.list LK.nil 0 0 []]::τ4)),(37,Ans.c rE sE)]) (by kernel_rfl) (ai h0 (ai h1 (ai h2 (ai h3 (ai h4 (ai h5 (ai h6 (ai h7 trivial))))))))
theorem f41_ptfff (x0:Sgn)(s1:ByteArray)(l2:List ByteArray)(X:Ext)(call:Caller)(lf:Nat)(a:ByteArray)(r10:List AV)(d:ByteArray)(r30:List AV)(e:ByteArray)(r54:List AV)(rE:AV)(sE:List Ob)
 (h0:cvq X call false 40 [st s1,AV.int IntKind.u8 32] [Ob.cells (gQ x0),Ob.cells [AV.list LK.nil 0 0 [],AV.list LK.nil 0 0 [],AV.list LK.nil 0 0 []]] (sQ l2))
 (h1:kiq 22 [Ob.cells (gQ x0),Ob.cells [AV.list LK.nil 0 0 [],AV.list LK.nil 0 0 [],AV.list LK.nil 0 0 []]] (sQ l2) (i6 0) (st a::r10))
 (h2:(ByteArray.toList a == ByteArray.toList (ByteArray.mk #[115,111,114,116]))=true)
 (h3:((↑l2.length:Int) == 2)=false)
 (h4:kiq 22 [Ob.cells (gQ x0),Ob.cells [AV.list LK.nil 0 0 [],AV.list LK.nil 0 0 [],AV.list LK.nil 0 0 []]] (sQ l2) (i6 0) (st d::r30))
 (h5:(ByteArray.toList d == ByteArray.toList (ByteArray.mk #[99,111,110,115,116,97,110,116]))=false)
 (h6:kiq 22 [Ob.cells (gQ x0),Ob.cells [AV.list LK.nil 0 0 [],AV.list LK.nil 0 0 [],AV.list LK.nil 0 0 []]] (sQ l2) (i6 0) (st e::r54))
 (h7:(ByteArray.toList e == ByteArray.toList (ByteArray.mk #[112,114,101,100,105,99,97,116,101]))=false)
 (h8:vend1 [] 0 [Ob.cells (gQ x0),Ob.cells (gQ x0)] [AV.agg (gQ x0)]=some (rE,sE)):vbody Tryd.prog X call lf fg41 Tryd.f41 (codeOf Tryd.f41) [AV.agg (sgnC x0),st s1] [] 0=some (rE,sE) :=
  along_sound (ans:=[(5,Ans.v (sQ l2)),(9,Ans.v (AV.eaddr (st a::r10))),(11,Ans.b true),(18,Ans.b false),(24,Ans.v (AV.eaddr (st d::r30))),(26,Ans.b false),(36,Ans.v (AV.eaddr (st e::r54))),(38,Ans.b false),(49,Ans.c rE sE)]) (by kernel_rfl) (ai h0 (ai h1 (ai h2 (ai h3 (ai h4 (ai h5 (ai h6 (ai h7 (ai h8 trivial)))))))))
theorem f41_pftt (x0:Sgn)(s1:ByteArray)(l2:List ByteArray)(z3:AV) (τ3:List Ob)(i4 n4:Nat) (τ4:List Ob)(X:Ext)(call:Caller)(lf:Nat)(a:ByteArray)(r10:List AV)(d:ByteArray)(r30:List AV)(e:ByteArray)(r43:List AV)(g:ByteArray)(r46:List AV)(rE:AV)(sE:List Ob)
 (h0:cvq X call false 40 [st s1,AV.int IntKind.u8 32] [Ob.cells (gQ x0),Ob.cells [AV.list LK.nil 0 0 [],AV.list LK.nil 0 0 [],AV.list LK.nil 0 0 []]] (sQ l2))
 (h1:kiq 22 [Ob.cells (gQ x0),Ob.cells [AV.list LK.nil 0 0 [],AV.list LK.nil 0 0 [],AV.list LK.nil 0 0 []]] (sQ l2) (i6 0) (st a::r10))
 (h2:(ByteArray.toList a == ByteArray.toList (ByteArray.mk #[115,111,114,116]))=false)
 (h3:kiq 22 [Ob.cells (gQ x0),Ob.cells [AV.list LK.nil 0 0 [],AV.list LK.nil 0 0 [],AV.list LK.nil 0 0 []]] (sQ l2) (i6 0) (st d::r30))
 (h4:(ByteArray.toList d == ByteArray.toList (ByteArray.mk #[99,111,110,115,116,97,110,116]))=true)
 (h5:((↑l2.length:Int) == 3)=true)
 (h6:appendv Tryd.prog 23 [Ob.cells (gQ x0),Ob.cells [AV.list LK.nil 0 0 [],AV.list LK.nil 0 0 [],AV.list LK.nil 0 0 []]] 0 (AV.list LK.clip 0 2 []) (cQ x0.consts)=some (z3,Ob.cells (sgnC x0)::Ob.cells [AV.list LK.nil 0 0 [],AV.list LK.nil 0 0 [],AV.list LK.nil 0 0 []]::τ3))
 (h7:kiq 22 [] (sQ l2) (i6 1) (st e::r43))
 (h8:kiq 22 [] (sQ l2) (i6 2) (st g::r46))
 (h9:appendv Tryd.prog 23 (Ob.cells (gQ x0)::Ob.cells [AV.list LK.nil 0 0 [],AV.list LK.nil 0 0 [],AV.list LK.nil 0 0 []]::τ3) 0 z3 (AV.list LK.clip 1 2 [st e,st g])=some (AV.own i4 n4,Ob.cells (sgnC x0)::Ob.cells [AV.list LK.nil 0 0 [],AV.list LK.nil 0 0 [],AV.list LK.nil 0 0 []]::τ4))
 (h10:vend1 [] 0 (Ob.cells [sQ x0.sorts,AV.own i4 n4,pQ x0.preds]::Ob.cells [sQ x0.sorts,AV.own i4 n4,pQ x0.preds]::τ4) [AV.agg [sQ x0.sorts,AV.own i4 n4,pQ x0.preds]]=some (rE,sE)):vbody Tryd.prog X call lf fg41 Tryd.f41 (codeOf Tryd.f41) [AV.agg (sgnC x0),st s1] [] 0=some (rE,sE) :=
  along_sound (ans:=[(5,Ans.v (sQ l2)),(9,Ans.v (AV.eaddr (st a::r10))),(11,Ans.b false),(21,Ans.v (AV.eaddr (st d::r30))),(23,Ans.b true),(30,Ans.b true),(38,Ans.c z3 (Ob.cells (sgnC x0)::Ob.cells [AV.list LK.nil 0 0 [],AV.list LK.nil 0 0 [],AV.list LK.nil 0 0 []]::τ3)),(40,Ans.v (AV.eaddr (st e::r43))),(43,Ans.v (AV.eaddr (st g::r46))),(47,Ans.c (AV.own i4 n4) (Ob.cells (sgnC x0)::Ob.cells [AV.list LK.nil 0 0 [],AV.list LK.nil 0 0 [],AV.list LK.nil 0 0 []]::τ4)),(53,Ans.c rE sE)]) (by kernel_rfl) (ai h0 (ai h1 (ai h2 (ai h3 (ai h4 (ai h5 (ai h6 (ai h7 (ai h8 (ai h9 (ai h10 trivial)))))))))))
theorem f41_pftff (x0:Sgn)(s1:ByteArray)(l2:List ByteArray)(X:Ext)(call:Caller)(lf:Nat)(a:ByteArray)(r10:List AV)(d:ByteArray)(r30:List AV)(e:ByteArray)(r54:List AV)(rE:AV)(sE:List Ob)
 (h0:cvq X call false 40 [st s1,AV.int IntKind.u8 32] [Ob.cells (gQ x0),Ob.cells [AV.list LK.nil 0 0 [],AV.list LK.nil 0 0 [],AV.list LK.nil 0 0 []]] (sQ l2))
 (h1:kiq 22 [Ob.cells (gQ x0),Ob.cells [AV.list LK.nil 0 0 [],AV.list LK.nil 0 0 [],AV.list LK.nil 0 0 []]] (sQ l2) (i6 0) (st a::r10))
 (h2:(ByteArray.toList a == ByteArray.toList (ByteArray.mk #[115,111,114,116]))=false)
 (h3:kiq 22 [Ob.cells (gQ x0),Ob.cells [AV.list LK.nil 0 0 [],AV.list LK.nil 0 0 [],AV.list LK.nil 0 0 []]] (sQ l2) (i6 0) (st d::r30))
 (h4:(ByteArray.toList d == ByteArray.toList (ByteArray.mk #[99,111,110,115,116,97,110,116]))=true)
 (h5:((↑l2.length:Int) == 3)=false)
 (h6:kiq 22 [Ob.cells (gQ x0),Ob.cells [AV.list LK.nil 0 0 [],AV.list LK.nil 0 0 [],AV.list LK.nil 0 0 []]] (sQ l2) (i6 0) (st e::r54))
 (h7:(ByteArray.toList e == ByteArray.toList (ByteArray.mk #[112,114,101,100,105,99,97,116,101]))=false)
 (h8:vend1 [] 0 [Ob.cells (gQ x0),Ob.cells (gQ x0)] [AV.agg (gQ x0)]=some (rE,sE)):vbody Tryd.prog X call lf fg41 Tryd.f41 (codeOf Tryd.f41) [AV.agg (sgnC x0),st s1] [] 0=some (rE,sE) :=
  along_sound (ans:=[(5,Ans.v (sQ l2)),(9,Ans.v (AV.eaddr (st a::r10))),(11,Ans.b false),(21,Ans.v (AV.eaddr (st d::r30))),(23,Ans.b true),(30,Ans.b false),(36,Ans.v (AV.eaddr (st e::r54))),(38,Ans.b false),(49,Ans.c rE sE)]) (by kernel_rfl) (ai h0 (ai h1 (ai h2 (ai h3 (ai h4 (ai h5 (ai h6 (ai h7 (ai h8 trivial)))))))))
theorem f41_pfftt (x0:Sgn)(s1:ByteArray)(l2:List ByteArray)(z3:AV) (τ3:List Ob)(i4 n4:Nat) (τ4:List Ob)(X:Ext)(call:Caller)(lf:Nat)(a:ByteArray)(r10:List AV)(d:ByteArray)(r30:List AV)(e:ByteArray)(r54:List AV)(g:ByteArray)(r67:List AV)(l70:List ByteArray)(k70:LK)(m72:Nat)(c72:List AV)(k72:LK)(rE:AV)(sE:List Ob)
 (h0:cvq X call false 40 [st s1,AV.int IntKind.u8 32] [Ob.cells (gQ x0),Ob.cells [AV.list LK.nil 0 0 [],AV.list LK.nil 0 0 [],AV.list LK.nil 0 0 []]] (sQ l2))
 (h1:kiq 22 [Ob.cells (gQ x0),Ob.cells [AV.list LK.nil 0 0 [],AV.list LK.nil 0 0 [],AV.list LK.nil 0 0 []]] (sQ l2) (i6 0) (st a::r10))
 (h2:(ByteArray.toList a == ByteArray.toList (ByteArray.mk #[115,111,114,116]))=false)
 (h3:kiq 22 [Ob.cells (gQ x0),Ob.cells [AV.list LK.nil 0 0 [],AV.list LK.nil 0 0 [],AV.list LK.nil 0 0 []]] (sQ l2) (i6 0) (st d::r30))
 (h4:(ByteArray.toList d == ByteArray.toList (ByteArray.mk #[99,111,110,115,116,97,110,116]))=false)
 (h5:kiq 22 [Ob.cells (gQ x0),Ob.cells [AV.list LK.nil 0 0 [],AV.list LK.nil 0 0 [],AV.list LK.nil 0 0 []]] (sQ l2) (i6 0) (st e::r54))
 (h6:(ByteArray.toList e == ByteArray.toList (ByteArray.mk #[112,114,101,100,105,99,97,116,101]))=true)
 (h7:decide ((↑l2.length:Int)>2)=true)
 (h8:appendv Tryd.prog 24 [Ob.cells (gQ x0),Ob.cells [AV.list LK.nil 0 0 [],AV.list LK.nil 0 0 [],AV.list LK.nil 0 0 []]] 0 (AV.list LK.clip 0 2 []) (pQ x0.preds)=some (z3,Ob.cells (sgnC x0)::Ob.cells [AV.list LK.nil 0 0 [],AV.list LK.nil 0 0 [],AV.list LK.nil 0 0 []]::τ3))
 (h9:kiq 22 [] (sQ l2) (i6 1) (st g::r67))
 (h10:slc Tryd.prog 22 [] true 0 (sQ l2) (some (i6 2)) none none=some (AV.list k70 l70.length 1 (List.map st l70),[]))
 (h11:bsl Tryd.prog 24 1 [] true 0 [(0,AV.agg [st g,AV.list k70 l70.length 1 (List.map st l70)])]=some (AV.list k72 m72 2 c72,[]))
 (h12:appendv Tryd.prog 24 (Ob.cells (gQ x0)::Ob.cells [AV.list LK.nil 0 0 [],AV.list LK.nil 0 0 [],AV.list LK.nil 0 0 []]::τ3) 0 z3 (AV.list k72 m72 2 c72)=some (AV.own i4 n4,Ob.cells (sgnC x0)::Ob.cells [AV.list LK.nil 0 0 [],AV.list LK.nil 0 0 [],AV.list LK.nil 0 0 []]::τ4))
 (h13:vend1 [] 0 (Ob.cells [sQ x0.sorts,cQ x0.consts,AV.own i4 n4]::Ob.cells [sQ x0.sorts,cQ x0.consts,AV.own i4 n4]::τ4) [AV.agg [sQ x0.sorts,cQ x0.consts,AV.own i4 n4]]=some (rE,sE)):vbody Tryd.prog X call lf fg41 Tryd.f41 (codeOf Tryd.f41) [AV.agg (sgnC x0),st s1] [] 0=some (rE,sE) :=
  along_sound (ans:=[(5,Ans.v (sQ l2)),(9,Ans.v (AV.eaddr (st a::r10))),(11,Ans.b false),(21,Ans.v (AV.eaddr (st d::r30))),(23,Ans.b false),(33,Ans.v (AV.eaddr (st e::r54))),(35,Ans.b true),(42,Ans.b true),(50,Ans.c z3 (Ob.cells (sgnC x0)::Ob.cells [AV.list LK.nil 0 0 [],AV.list LK.nil 0 0 [],AV.list LK.nil 0 0 []]::τ3)),(52,Ans.v (AV.eaddr (st g::r67))),(55,Ans.v (AV.list k70 l70.length 1 (List.map st l70))),(57,Ans.v (AV.list k72 m72 2 c72)),(58,Ans.c (AV.own i4 n4) (Ob.cells (sgnC x0)::Ob.cells [AV.list LK.nil 0 0 [],AV.list LK.nil 0 0 [],AV.list LK.nil 0 0 []]::τ4)),(64,Ans.c rE sE)]) (by kernel_rfl) (ai h0 (ai h1 (ai h2 (ai h3 (ai h4 (ai h5 (ai h6 (ai h7 (ai h8 (ai h9 (ai h10 (ai h11 (ai h12 (ai h13 trivial))))))))))))))
theorem f41_pfftf (x0:Sgn)(s1:ByteArray)(l2:List ByteArray)(X:Ext)(call:Caller)(lf:Nat)(a:ByteArray)(r10:List AV)(d:ByteArray)(r30:List AV)(e:ByteArray)(r54:List AV)(rE:AV)(sE:List Ob)
 (h0:cvq X call false 40 [st s1,AV.int IntKind.u8 32] [Ob.cells (gQ x0),Ob.cells [AV.list LK.nil 0 0 [],AV.list LK.nil 0 0 [],AV.list LK.nil 0 0 []]] (sQ l2))
 (h1:kiq 22 [Ob.cells (gQ x0),Ob.cells [AV.list LK.nil 0 0 [],AV.list LK.nil 0 0 [],AV.list LK.nil 0 0 []]] (sQ l2) (i6 0) (st a::r10))
 (h2:(ByteArray.toList a == ByteArray.toList (ByteArray.mk #[115,111,114,116]))=false)
 (h3:kiq 22 [Ob.cells (gQ x0),Ob.cells [AV.list LK.nil 0 0 [],AV.list LK.nil 0 0 [],AV.list LK.nil 0 0 []]] (sQ l2) (i6 0) (st d::r30))
 (h4:(ByteArray.toList d == ByteArray.toList (ByteArray.mk #[99,111,110,115,116,97,110,116]))=false)
 (h5:kiq 22 [Ob.cells (gQ x0),Ob.cells [AV.list LK.nil 0 0 [],AV.list LK.nil 0 0 [],AV.list LK.nil 0 0 []]] (sQ l2) (i6 0) (st e::r54))
 (h6:(ByteArray.toList e == ByteArray.toList (ByteArray.mk #[112,114,101,100,105,99,97,116,101]))=true)
 (h7:decide ((↑l2.length:Int)>2)=false)
 (h8:vend1 [] 0 [Ob.cells (gQ x0),Ob.cells (gQ x0)] [AV.agg (gQ x0)]=some (rE,sE)):vbody Tryd.prog X call lf fg41 Tryd.f41 (codeOf Tryd.f41) [AV.agg (sgnC x0),st s1] [] 0=some (rE,sE) :=
  along_sound (ans:=[(5,Ans.v (sQ l2)),(9,Ans.v (AV.eaddr (st a::r10))),(11,Ans.b false),(21,Ans.v (AV.eaddr (st d::r30))),(23,Ans.b false),(33,Ans.v (AV.eaddr (st e::r54))),(35,Ans.b true),(42,Ans.b false),(49,Ans.c rE sE)]) (by kernel_rfl) (ai h0 (ai h1 (ai h2 (ai h3 (ai h4 (ai h5 (ai h6 (ai h7 (ai h8 trivial)))))))))
theorem f41_pfff (x0:Sgn)(s1:ByteArray)(l2:List ByteArray)(X:Ext)(call:Caller)(lf:Nat)(a:ByteArray)(r10:List AV)(d:ByteArray)(r30:List AV)(e:ByteArray)(r54:List AV)(rE:AV)(sE:List Ob)
 (h0:cvq X call false 40 [st s1,AV.int IntKind.u8 32] [Ob.cells (gQ x0),Ob.cells [AV.list LK.nil 0 0 [],AV.list LK.nil 0 0 [],AV.list LK.nil 0 0 []]] (sQ l2))
 (h1:kiq 22 [Ob.cells (gQ x0),Ob.cells [AV.list LK.nil 0 0 [],AV.list LK.nil 0 0 [],AV.list LK.nil 0 0 []]] (sQ l2) (i6 0) (st a::r10))
 (h2:(ByteArray.toList a == ByteArray.toList (ByteArray.mk #[115,111,114,116]))=false)
 (h3:kiq 22 [Ob.cells (gQ x0),Ob.cells [AV.list LK.nil 0 0 [],AV.list LK.nil 0 0 [],AV.list LK.nil 0 0 []]] (sQ l2) (i6 0) (st d::r30))
 (h4:(ByteArray.toList d == ByteArray.toList (ByteArray.mk #[99,111,110,115,116,97,110,116]))=false)
 (h5:kiq 22 [Ob.cells (gQ x0),Ob.cells [AV.list LK.nil 0 0 [],AV.list LK.nil 0 0 [],AV.list LK.nil 0 0 []]] (sQ l2) (i6 0) (st e::r54))
 (h6:(ByteArray.toList e == ByteArray.toList (ByteArray.mk #[112,114,101,100,105,99,97,116,101]))=false)
 (h7:vend1 [] 0 [Ob.cells (gQ x0),Ob.cells (gQ x0)] [AV.agg (gQ x0)]=some (rE,sE)):vbody Tryd.prog X call lf fg41 Tryd.f41 (codeOf Tryd.f41) [AV.agg (sgnC x0),st s1] [] 0=some (rE,sE) :=
  along_sound (ans:=[(5,Ans.v (sQ l2)),(9,Ans.v (AV.eaddr (st a::r10))),(11,Ans.b false),(21,Ans.v (AV.eaddr (st d::r30))),(23,Ans.b false),(33,Ans.v (AV.eaddr (st e::r54))),(35,Ans.b false),(46,Ans.c rE sE)]) (by kernel_rfl) (ai h0 (ai h1 (ai h2 (ai h3 (ai h4 (ai h5 (ai h6 (ai h7 trivial))))))))
def f40_F0 (s0:ByteArray)(k1:Int)(z5:Nat→AV)(b6:Nat→Int)(w0:Nat→List Ob)(i0:Nat):St :=
  stOf 35 [9,10,11,12,13,14,15,16,17,18,19,20,21,22,23,24,25,26,27,28] [(0,st s0),(1,AV.int IntKind.u8 k1),(4,AV.list LK.nil 0 0 []),(5,z5 i0),(6,i6 (b6 i0)),(7,i6 (↑i0:Int)),(8,AV.list LK.clip 0 1 [])] (w0 i0)
def f40_S0 (s0:ByteArray)(k1:Int):St :=
  stOf 35 [] [(0,st s0),(1,AV.int IntKind.u8 k1),(4,AV.list LK.nil 0 0 []),(5,AV.list LK.clip 0 1 []),(6,i6 0),(7,i6 0),(8,AV.list LK.clip 0 1 [])] []
abbrev f40_D0:List Nat:=[14,13,28,27,26,25,24,23,22,21,20,19,18,17,16,15,12,11,10,9]
theorem f40_L0 (s0:ByteArray)(k1:Int)(z5:Nat→AV)(b6:Nat→Int)(w0:Nat→List Ob)(X:Ext)(call:Caller)(lf n:Nat)(x:Ex) (S' : St)
 (e0:z5 0=AV.list LK.clip 0 1 [])
 (e1:b6 0=0)
 (e2:w0 0=[])
 (hn:n<lf)
 (hs:∀ j,j<n→∃ Sx,vexec Tryd.prog X call lf 0 noFg (loopN Tryd.f40 0) (f40_F0 s0 k1 z5 b6 w0 j)=some (Ex.normal,Sx)∧forget f40_D0 Sx=(f40_F0 s0 k1 z5 b6 w0 (j + 1)))
 (he:vexec Tryd.prog X call lf 0 noFg (loopN Tryd.f40 0) (f40_F0 s0 k1 z5 b6 w0 n)=some (x,S'))
 (hx:x ≠ Ex.normal):vexec Tryd.prog X call lf 0 noFg (Go.Code.loop (loopN Tryd.f40 0)) (f40_S0 s0 k1)=some (x,S') :=
  loop_runK (by kernel_rfl) (fun j=>(f40_F0 s0 k1 z5 b6 w0 j)) n hn (by show forget f40_D0 (f40_S0 s0 k1)=(f40_F0 s0 k1 z5 b6 w0 0); unfold f40_F0; rw [e0,e1,e2]; show _=_; kernel_rfl) hs he hx
theorem f40_s0_tt (s0:ByteArray)(k1:Int)(z5:Nat→AV)(b6:Nat→Int)(w0:Nat→List Ob)(X:Ext)(call:Caller)(lf i0:Nat)(n17:Int)(x24:ByteArray)(v26:AV)(s26:List Ob)
 (h0:decide ((↑i0:Int)<(↑(ByteArray.size s0):Int))=true)
 (h1:keep (w0 i0) (indexv Tryd.prog 9 (st s0) (i6 (↑i0:Int)))=some (AV.int IntKind.u8 n17,w0 i0))
 (h2:(n17 == k1)=true)
 (h3:slc Tryd.prog 9 (w0 i0) false 0 (st s0) (some (i6 (b6 i0))) (some (i6 (↑i0:Int))) none=some (st x24,w0 i0))
 (h4:appendv Tryd.prog 22 (w0 i0) 0 (z5 i0) (AV.list LK.clip 1 1 [st x24])=some (v26,s26))
 (e0:z5 (i0 + 1)=v26)
 (e1:b6 (i0 + 1)=w6 ((↑i0:Int) + 1))
 (e2:(↑(i0 + 1):Int)=w6 ((↑i0:Int) + 1))
 (e3:w0 (i0 + 1)=s26):∃ Sx,vexec Tryd.prog X call lf 0 noFg (loopN Tryd.f40 0) (f40_F0 s0 k1 z5 b6 w0 i0)=some (Ex.normal,Sx)∧forget f40_D0 Sx=(f40_F0 s0 k1 z5 b6 w0 (i0 + 1)) :=
  ⟨stOf 35 [] [(0,st s0),(1,AV.int IntKind.u8 k1),(4,AV.list LK.nil 0 0 []),(5,v26),(6,i6 (w6 ((↑i0:Int) + 1))),(7,i6 (w6 ((↑i0:Int) + 1))),(8,AV.list LK.clip 0 1 []),(9,i6 (↑i0:Int)),(10,st s0),(11,i6 (↑(ByteArray.size s0):Int)),(12,bo true),(13,i6 (↑i0:Int)),(14,i6 (w6 ((↑i0:Int) + 1))),(15,st s0),(16,i6 (↑i0:Int)),(17,AV.int IntKind.u8 n17),(18,AV.int IntKind.u8 k1),(19,bo true),(20,z5 i0),(21,st s0),(22,i6 (b6 i0)),(23,i6 (↑i0:Int)),(24,st x24),(25,AV.list LK.clip 1 1 [st x24]),(26,v26),(27,i6 (↑i0:Int)),(28,i6 (w6 ((↑i0:Int) + 1)))] s26,around_sound (ans:=[(4,Ans.b true),(9,Ans.v (AV.int IntKind.u8 n17)),(11,Ans.b true),(18,Ans.v (st x24)),(20,Ans.c v26 s26)]) (by kernel_rfl) (ai h0 (ai h1 (ai h2 (ai h3 (ai h4 trivial))))),by unfold f40_F0; rw [e0,e1,e2,e3]; show _=_; kernel_rfl⟩
theorem f40_s0_tf (s0:ByteArray)(k1:Int)(z5:Nat→AV)(b6:Nat→Int)(w0:Nat→List Ob)(X:Ext)(call:Caller)(lf i0:Nat)(n17:Int)
 (h0:decide ((↑i0:Int)<(↑(ByteArray.size s0):Int))=true)
 (h1:keep (w0 i0) (indexv Tryd.prog 9 (st s0) (i6 (↑i0:Int)))=some (AV.int IntKind.u8 n17,w0 i0))
 (h2:(n17 == k1)=false)
 (e0:z5 (i0 + 1)=z5 i0)
 (e1:b6 (i0 + 1)=b6 i0)
 (e2:(↑(i0 + 1):Int)=w6 ((↑i0:Int) + 1))
 (e3:w0 (i0 + 1)=w0 i0):∃ Sx,vexec Tryd.prog X call lf 0 noFg (loopN Tryd.f40 0) (f40_F0 s0 k1 z5 b6 w0 i0)=some (Ex.normal,Sx)∧forget f40_D0 Sx=(f40_F0 s0 k1 z5 b6 w0 (i0 + 1)) :=
  ⟨stOf 35 [20,21,22,23,24,25,26,27,28] [(0,st s0),(1,AV.int IntKind.u8 k1),(4,AV.list LK.nil 0 0 []),(5,z5 i0),(6,i6 (b6 i0)),(7,i6 (w6 ((↑i0:Int) + 1))),(8,AV.list LK.clip 0 1 []),(9,i6 (↑i0:Int)),(10,st s0),(11,i6 (↑(ByteArray.size s0):Int)),(12,bo true),(13,i6 (↑i0:Int)),(14,i6 (w6 ((↑i0:Int) + 1))),(15,st s0),(16,i6 (↑i0:Int)),(17,AV.int IntKind.u8 n17),(18,AV.int IntKind.u8 k1),(19,bo false)] (w0 i0),around_sound (ans:=[(4,Ans.b true),(9,Ans.v (AV.int IntKind.u8 n17)),(11,Ans.b false)]) (by kernel_rfl) (ai h0 (ai h1 (ai h2 trivial))),by unfold f40_F0; rw [e0,e1,e2,e3]; show _=_; kernel_rfl⟩
def f40_S1 (s0:ByteArray)(k1:Int)(z5:Nat→AV)(b6:Nat→Int)(w0:Nat→List Ob)(i0:Nat):St :=
  stOf 35 [13,14,15,16,17,18,19,20,21,22,23,24,25,26,27,28] [(0,st s0),(1,AV.int IntKind.u8 k1),(4,AV.list LK.nil 0 0 []),(5,z5 i0),(6,i6 (b6 i0)),(7,i6 (↑i0:Int)),(8,AV.list LK.clip 0 1 []),(9,i6 (↑i0:Int)),(10,st s0),(11,i6 (↑(ByteArray.size s0):Int)),(12,bo false)] (w0 i0)
theorem f40_r0_f (s0:ByteArray)(k1:Int)(z5:Nat→AV)(b6:Nat→Int)(w0:Nat→List Ob)(X:Ext)(call:Caller)(lf i0:Nat)
 (h0:decide ((↑i0:Int)<(↑(ByteArray.size s0):Int))=false):vexec Tryd.prog X call lf 0 noFg (loopN Tryd.f40 0) (f40_F0 s0 k1 z5 b6 w0 i0)=some (Ex.exit 0,(f40_S1 s0 k1 z5 b6 w0 i0)) :=
  around_sound (ans:=[(4,Ans.b false)]) (by kernel_rfl) (ai h0 trivial)
theorem f40_plf (s0:ByteArray)(k1:Int)(z5:Nat→AV)(b6:Nat→Int)(w0:Nat→List Ob)(X:Ext)(call:Caller)(lf i0:Nat)(x32:ByteArray)(v34:AV)(s34:List Ob)(rE:AV)(sE:List Ob)
 (h0:vexec Tryd.prog X call lf 0 noFg (Code.loop (loopN Tryd.f40 0)) (f40_S0 s0 k1)=some (Ex.exit 0,(f40_S1 s0 k1 z5 b6 w0 i0)))
 (h1:slc Tryd.prog 9 (w0 i0) false 0 (st s0) (some (i6 (b6 i0))) none none=some (st x32,w0 i0))
 (h2:appendv Tryd.prog 22 (w0 i0) 0 (z5 i0) (AV.list LK.clip 1 1 [st x32])=some (v34,s34))
 (h3:vend1 [] 0 s34 [v34]=some (rE,sE)):vbody Tryd.prog X call lf noFg Tryd.f40 (codeOf Tryd.f40) [st s0,AV.int IntKind.u8 k1] [] 0=some (rE,sE) :=
  along_sound (ans:=[(9,Ans.l (Ex.exit 0) (f40_S1 s0 k1 z5 b6 w0 i0)),(14,Ans.v (st x32)),(16,Ans.c v34 s34),(18,Ans.c rE sE)]) (by kernel_rfl) (ai h0 (ai h1 (ai h2 (ai h3 trivial))))
def f40_o0 (s0:ByteArray)(k1:Int)(i0:Nat)(n17:Int):Nat :=
  (match decide ((↑i0:Int)<(↑(ByteArray.size s0):Int)) with
  | true=>(match (n17 == k1) with
    | true=>0
    | false=>0)
  | false=>1)
theorem f40_B0 (s0:ByteArray)(k1:Int)(z5:Nat→AV)(b6:Nat→Int)(w0:Nat→List Ob)(X:Ext)(call:Caller)(lf i0:Nat)(n17:Int)(x24:ByteArray)(v26:AV)(s26:List Ob)
 (g0:decide ((↑i0:Int)<(↑(ByteArray.size s0):Int))=true→keep (w0 i0) (indexv Tryd.prog 9 (st s0) (i6 (↑i0:Int)))=some (AV.int IntKind.u8 n17,w0 i0))
 (g1:decide ((↑i0:Int)<(↑(ByteArray.size s0):Int))=true→(n17 == k1)=true→slc Tryd.prog 9 (w0 i0) false 0 (st s0) (some (i6 (b6 i0))) (some (i6 (↑i0:Int))) none=some (st x24,w0 i0))
 (g2:decide ((↑i0:Int)<(↑(ByteArray.size s0):Int))=true→(n17 == k1)=true→appendv Tryd.prog 22 (w0 i0) 0 (z5 i0) (AV.list LK.clip 1 1 [st x24])=some (v26,s26))
 (e0:decide ((↑i0:Int)<(↑(ByteArray.size s0):Int))=true→(n17 == k1)=true→z5 (i0 + 1)=v26)
 (e1:decide ((↑i0:Int)<(↑(ByteArray.size s0):Int))=true→(n17 == k1)=true→b6 (i0 + 1)=w6 ((↑i0:Int) + 1))
 (e2:decide ((↑i0:Int)<(↑(ByteArray.size s0):Int))=true→(↑(i0 + 1):Int)=w6 ((↑i0:Int) + 1))
 (e3:decide ((↑i0:Int)<(↑(ByteArray.size s0):Int))=true→(n17 == k1)=true→w0 (i0 + 1)=s26)
 (e4:decide ((↑i0:Int)<(↑(ByteArray.size s0):Int))=true→(n17 == k1)=false→z5 (i0 + 1)=z5 i0)
 (e5:decide ((↑i0:Int)<(↑(ByteArray.size s0):Int))=true→(n17 == k1)=false→b6 (i0 + 1)=b6 i0)
 (e6:decide ((↑i0:Int)<(↑(ByteArray.size s0):Int))=true→(n17 == k1)=false→w0 (i0 + 1)=w0 i0) :
    (f40_o0 s0 k1 i0 n17=0→∃ Sx,vexec Tryd.prog X call lf 0 noFg (loopN Tryd.f40 0) (f40_F0 s0 k1 z5 b6 w0 i0)=some (Ex.normal,Sx)∧forget f40_D0 Sx=(f40_F0 s0 k1 z5 b6 w0 (i0 + 1)))∧(f40_o0 s0 k1 i0 n17=1→vexec Tryd.prog X call lf 0 noFg (loopN Tryd.f40 0) (f40_F0 s0 k1 z5 b6 w0 i0)=some (Ex.exit 0,(f40_S1 s0 k1 z5 b6 w0 i0))):=by
  unfold f40_o0
  cases c0:decide ((↑i0:Int)<(↑(ByteArray.size s0):Int)) with
  | true =>
    cases c1:(n17 == k1) with
    | true =>
      exact ⟨fun _=>f40_s0_tt s0 k1 z5 b6 w0 X call lf i0 n17 x24 v26 s26 c0 (g0 c0) c1 (g1 c0 c1) (g2 c0 c1) (e0 c0 c1) (e1 c0 c1) (e2 c0) (e3 c0 c1),fun h=>nq h⟩
    | false =>
      exact ⟨fun _=>f40_s0_tf s0 k1 z5 b6 w0 X call lf i0 n17 c0 (g0 c0) c1 (e4 c0 c1) (e5 c0 c1) (e2 c0) (e6 c0 c1),fun h=>nq h⟩
  | false =>
    exact ⟨fun h=>nq h,fun _=>f40_r0_f s0 k1 z5 b6 w0 X call lf i0 c0⟩
theorem f40_X0 (s0:ByteArray)(k1:Int)(z5:Nat→AV)(b6:Nat→Int)(w0:Nat→List Ob)(X:Ext)(call:Caller)(lf i0:Nat)(n17:Int)(x24:ByteArray)(v26:AV)(s26:List Ob)
 (g0:decide ((↑i0:Int)<(↑(ByteArray.size s0):Int))=true→keep (w0 i0) (indexv Tryd.prog 9 (st s0) (i6 (↑i0:Int)))=some (AV.int IntKind.u8 n17,w0 i0))
 (g1:decide ((↑i0:Int)<(↑(ByteArray.size s0):Int))=true→(n17 == k1)=true→slc Tryd.prog 9 (w0 i0) false 0 (st s0) (some (i6 (b6 i0))) (some (i6 (↑i0:Int))) none=some (st x24,w0 i0))
 (g2:decide ((↑i0:Int)<(↑(ByteArray.size s0):Int))=true→(n17 == k1)=true→appendv Tryd.prog 22 (w0 i0) 0 (z5 i0) (AV.list LK.clip 1 1 [st x24])=some (v26,s26)) :
    (f40_o0 s0 k1 i0 n17=1→vexec Tryd.prog X call lf 0 noFg (loopN Tryd.f40 0) (f40_F0 s0 k1 z5 b6 w0 i0)=some (Ex.exit 0,(f40_S1 s0 k1 z5 b6 w0 i0))):=by
  unfold f40_o0
  cases c0:decide ((↑i0:Int)<(↑(ByteArray.size s0):Int)) with
  | true =>
    cases c1:(n17 == k1) with
    | true =>
      exact fun h=>nq h
    | false =>
      exact fun h=>nq h
  | false =>
    exact fun _=>f40_r0_f s0 k1 z5 b6 w0 X call lf i0 c0
theorem f40_M (s0:ByteArray)(k1:Int)(z5:Nat→AV)(b6:Nat→Int)(w0:Nat→List Ob)(X:Ext)(call:Caller)(lf n:Nat)(n17:Nat→Int)(x24:Nat→ByteArray)(v26:Nat→AV)(s26:Nat→List Ob)
 (z0:z5 0=AV.list LK.clip 0 1 [])
 (z1:b6 0=0)
 (z2:w0 0=[])
 (hn:n<lf)
 (g0:∀ i0,i0 ≤ n→decide ((↑i0:Int)<(↑(ByteArray.size s0):Int))=true→keep (w0 i0) (indexv Tryd.prog 9 (st s0) (i6 (↑i0:Int)))=some (AV.int IntKind.u8 (n17 i0),w0 i0))
 (g1:∀ i0,i0 ≤ n→decide ((↑i0:Int)<(↑(ByteArray.size s0):Int))=true→((n17 i0) == k1)=true→slc Tryd.prog 9 (w0 i0) false 0 (st s0) (some (i6 (b6 i0))) (some (i6 (↑i0:Int))) none=some (st (x24 i0),w0 i0))
 (g2:∀ i0,i0 ≤ n→decide ((↑i0:Int)<(↑(ByteArray.size s0):Int))=true→((n17 i0) == k1)=true→appendv Tryd.prog 22 (w0 i0) 0 (z5 i0) (AV.list LK.clip 1 1 [st (x24 i0)])=some ((v26 i0),(s26 i0)))
 (e0:∀ i0,i0<n→decide ((↑i0:Int)<(↑(ByteArray.size s0):Int))=true→((n17 i0) == k1)=true→z5 (i0 + 1)=(v26 i0))
 (e1:∀ i0,i0<n→decide ((↑i0:Int)<(↑(ByteArray.size s0):Int))=true→((n17 i0) == k1)=true→b6 (i0 + 1)=w6 ((↑i0:Int) + 1))
 (e2:∀ i0,i0<n→decide ((↑i0:Int)<(↑(ByteArray.size s0):Int))=true→(↑(i0 + 1):Int)=w6 ((↑i0:Int) + 1))
 (e3:∀ i0,i0<n→decide ((↑i0:Int)<(↑(ByteArray.size s0):Int))=true→((n17 i0) == k1)=true→w0 (i0 + 1)=(s26 i0))
 (e4:∀ i0,i0<n→decide ((↑i0:Int)<(↑(ByteArray.size s0):Int))=true→((n17 i0) == k1)=false→z5 (i0 + 1)=z5 i0)
 (e5:∀ i0,i0<n→decide ((↑i0:Int)<(↑(ByteArray.size s0):Int))=true→((n17 i0) == k1)=false→b6 (i0 + 1)=b6 i0)
 (e6:∀ i0,i0<n→decide ((↑i0:Int)<(↑(ByteArray.size s0):Int))=true→((n17 i0) == k1)=false→w0 (i0 + 1)=w0 i0)
 (hz:∀ j,j<n→f40_o0 s0 k1 j (n17 j)=0) :
    (f40_o0 s0 k1 n (n17 n)=1→∀ (x32:ByteArray),∀ (v34:AV),∀ (s34:List Ob),∀ (rE:AV),∀ (sE:List Ob),slc Tryd.prog 9 (w0 n) false 0 (st s0) (some (i6 (b6 n))) none none=some (st x32,w0 n)→appendv Tryd.prog 22 (w0 n) 0 (z5 n) (AV.list LK.clip 1 1 [st x32])=some (v34,s34)→vend1 [] 0 s34 [v34]=some (rE,sE)→vbody Tryd.prog X call lf noFg Tryd.f40 (codeOf Tryd.f40) [st s0,AV.int IntKind.u8 k1] [] 0=some (rE,sE)):=by
  have key:∀ j,j<n→_:=fun j hj=>(f40_B0 s0 k1 z5 b6 w0 X call lf j (n17 j) (x24 j) (v26 j) (s26 j) (g0 j (Nat.le_of_lt hj)) (g1 j (Nat.le_of_lt hj)) (g2 j (Nat.le_of_lt hj)) (e0 j hj) (e1 j hj) (e2 j hj) (e3 j hj) (e4 j hj) (e5 j hj) (e6 j hj)).1 (hz j hj)
  have kn:=f40_X0 s0 k1 z5 b6 w0 X call lf n (n17 n) (x24 n) (v26 n) (s26 n) (g0 n (Nat.le_refl n)) (g1 n (Nat.le_refl n)) (g2 n (Nat.le_refl n))
  exact fun hk x32 v34 s34 rE sE q0 q1 q2=>f40_plf s0 k1 z5 b6 w0 X call lf n x32 v34 s34 rE sE (f40_L0 s0 k1 z5 b6 w0 X call lf n _ _ z0 z1 z2 hn key (kn hk) (by simp)) q0 q1 q2
def fg29:Nat→List Nat
  | 5009=>[1]
  | 5014=>[1]
  | _=>[]
def f29_F0 (x0:Sgn)(s3:Nat→ByteArray)(i0:Nat):St :=
  stOf 71 [5,16,17,18,19,20,21,22,23,24] [(0,AV.agg (gQ x0)),(1,AV.ref 0 0),(2,st (ByteArray.mk #[])),(3,st (s3 i0)),(12,AV.ref 0 0),(13,sQ x0.sorts),(14,i6 (↑x0.sorts.length:Int)),(15,i6 (↑i0:Int))] [Ob.cells (gQ x0)]
def f29_S0 (x0:Sgn):St :=
  stOf 71 [] [(0,AV.agg (gQ x0)),(1,AV.ref 0 0),(2,st (ByteArray.mk #[])),(3,st (ByteArray.mk #[])),(12,AV.ref 0 0),(13,sQ x0.sorts),(14,i6 (↑x0.sorts.length:Int)),(15,i6 0)] [Ob.cells (gQ x0)]
abbrev f29_D0:List Nat:=[24,23,22,21,20,19,5,18,17,16]
theorem f29_L0 (x0:Sgn)(s3:Nat→ByteArray)(X:Ext)(call:Caller)(lf n:Nat)(x:Ex) (S' : St)
 (e0:s3 0=ByteArray.mk #[])
 (hn:n<lf)
 (hs:∀ j,j<n→∃ Sx,vexec Tryd.prog X call lf 0 fg29 (loopN Tryd.f29 0) (f29_F0 x0 s3 j)=some (Ex.normal,Sx)∧forget f29_D0 Sx=(f29_F0 x0 s3 (j + 1)))
 (he:vexec Tryd.prog X call lf 0 fg29 (loopN Tryd.f29 0) (f29_F0 x0 s3 n)=some (x,S'))
 (hx:x ≠ Ex.normal):vexec Tryd.prog X call lf 0 fg29 (Go.Code.loop (loopN Tryd.f29 0)) (f29_S0 x0)=some (x,S') :=
  loop_runK (by kernel_rfl) (fun j=>(f29_F0 x0 s3 j)) n hn (by show forget f29_D0 (f29_S0 x0)=(f29_F0 x0 s3 0); unfold f29_F0; rw [e0]; show _=_; kernel_rfl) hs he hx
theorem f29_s0_t (x0:Sgn)(X:Ext)(call:Caller)(lf:Nat)(s3:Nat→ByteArray)(i0:Nat)(a:ByteArray)(r17:List AV)(x21 x22 x23:ByteArray)
 (h0:decide ((↑i0:Int)<(↑x0.sorts.length:Int))=true)
 (h1:kiq 22 [Ob.cells (gQ x0)] (sQ x0.sorts) (i6 (↑i0:Int)) (st a::r17))
 (h2:kpq [Ob.cells (gQ x0)] (binv Tryd.prog BinOp.add 9 (st (ByteArray.mk #[115,111,114,116,32])) (st a)) (st x21))
 (h3:kpq [Ob.cells (gQ x0)] (binv Tryd.prog BinOp.add 9 (st x21) (st (ByteArray.mk #[10]))) (st x22))
 (h4:kpq [Ob.cells (gQ x0)] (binv Tryd.prog BinOp.add 9 (st (s3 i0)) (st x22)) (st x23))
 (e0:s3 (i0 + 1)=x23)
 (e1:(↑(i0 + 1):Int)=w6 ((↑i0:Int) + 1)):∃ Sx,vexec Tryd.prog X call lf 0 fg29 (loopN Tryd.f29 0) (f29_F0 x0 s3 i0)=some (Ex.normal,Sx)∧forget f29_D0 Sx=(f29_F0 x0 s3 (i0 + 1)) :=
  ⟨stOf 71 [] [(0,AV.agg (gQ x0)),(1,AV.ref 0 0),(2,st (ByteArray.mk #[])),(3,st x23),(5,st a),(12,AV.ref 0 0),(13,sQ x0.sorts),(14,i6 (↑x0.sorts.length:Int)),(15,i6 (w6 ((↑i0:Int) + 1))),(16,bo true),(17,AV.eaddr (st a::r17)),(18,st a),(19,st (s3 i0)),(20,st a),(21,st x21),(22,st x22),(23,st x23),(24,i6 (w6 ((↑i0:Int) + 1)))] [Ob.cells (gQ x0)],around_sound (ans:=[(1,Ans.b true),(4,Ans.v (AV.eaddr (st a::r17))),(10,Ans.v (st x21)),(11,Ans.v (st x22)),(12,Ans.v (st x23))]) (by kernel_rfl) (ai h0 (ai h1 (ai h2 (ai h3 (ai h4 trivial))))),by unfold f29_F0; rw [e0,e1]; show _=_; kernel_rfl⟩
def f29_S1 (x0:Sgn)(s3:Nat→ByteArray)(i0:Nat):St :=
  stOf 71 [5,17,18,19,20,21,22,23,24] [(0,AV.agg (gQ x0)),(1,AV.ref 0 0),(2,st (ByteArray.mk #[])),(3,st (s3 i0)),(12,AV.ref 0 0),(13,sQ x0.sorts),(14,i6 (↑x0.sorts.length:Int)),(15,i6 (↑i0:Int)),(16,bo false)] [Ob.cells (gQ x0)]
theorem f29_r0_f (x0:Sgn)(X:Ext)(call:Caller)(lf:Nat)(s3:Nat→ByteArray)(i0:Nat)
 (h0:decide ((↑i0:Int)<(↑x0.sorts.length:Int))=false):vexec Tryd.prog X call lf 0 fg29 (loopN Tryd.f29 0) (f29_F0 x0 s3 i0)=some (Ex.exit 0,(f29_S1 x0 s3 i0)) :=
  around_sound (ans:=[(1,Ans.b false)]) (by kernel_rfl) (ai h0 trivial)
def f29_F1 (x0:Sgn)(i0:Nat)(s3q1:Nat→ByteArray)(i1:Nat):St :=
  stOf 71 [5,7,17,18,19,20,21,22,23,24,29,30,31,32,33,34,35,36,37,38,39,40,41,42] [(0,AV.agg (gQ x0)),(1,AV.ref 0 0),(2,st (ByteArray.mk #[])),(3,st (s3q1 i1)),(12,AV.ref 0 0),(13,sQ x0.sorts),(14,i6 (↑x0.sorts.length:Int)),(15,i6 (↑i0:Int)),(16,bo false),(25,AV.ref 0 1),(26,cQ x0.consts),(27,i6 (↑x0.consts.length:Int)),(28,i6 (↑i1:Int))] [Ob.cells (gQ x0)]
def f29_S2 (x0:Sgn)(s3:Nat→ByteArray)(i0:Nat):St :=
  stOf 71 [5,17,18,19,20,21,22,23,24] [(0,AV.agg (gQ x0)),(1,AV.ref 0 0),(2,st (ByteArray.mk #[])),(3,st (s3 i0)),(12,AV.ref 0 0),(13,sQ x0.sorts),(14,i6 (↑x0.sorts.length:Int)),(15,i6 (↑i0:Int)),(16,bo false),(25,AV.ref 0 1),(26,cQ x0.consts),(27,i6 (↑x0.consts.length:Int)),(28,i6 0)] [Ob.cells (gQ x0)]
abbrev f29_D1:List Nat:=[42,41,40,39,38,37,36,35,34,33,32,7,31,30,29]
theorem f29_L1 (x0:Sgn)(s3:Nat→ByteArray)(i0:Nat)(s3q1:Nat→ByteArray)(X:Ext)(call:Caller)(lf n:Nat)(x:Ex) (S' : St)
 (e0:s3q1 0=s3 i0)
 (hn:n<lf)
 (hs:∀ j,j<n→∃ Sx,vexec Tryd.prog X call lf 0 fg29 (loopN Tryd.f29 1) (f29_F1 x0 i0 s3q1 j)=some (Ex.normal,Sx)∧forget f29_D1 Sx=(f29_F1 x0 i0 s3q1 (j + 1)))
 (he:vexec Tryd.prog X call lf 0 fg29 (loopN Tryd.f29 1) (f29_F1 x0 i0 s3q1 n)=some (x,S'))
 (hx:x ≠ Ex.normal):vexec Tryd.prog X call lf 0 fg29 (Go.Code.loop (loopN Tryd.f29 1)) (f29_S2 x0 s3 i0)=some (x,S') :=
  loop_runK (by kernel_rfl) (fun j=>(f29_F1 x0 i0 s3q1 j)) n hn (by show forget f29_D1 (f29_S2 x0 s3 i0)=(f29_F1 x0 i0 s3q1 0); unfold f29_F1; rw [e0]; show _=_; kernel_rfl) hs he hx
theorem f29_s1_t (x0:Sgn)(X:Ext)(call:Caller)(lf i0:Nat)(s3q1:Nat→ByteArray)(i1:Nat)(a c:ByteArray)(r30:List AV)(x35 x36 x39 x40 x41:ByteArray)
 (h0:decide ((↑i1:Int)<(↑x0.consts.length:Int))=true)
 (h1:kiq 23 [Ob.cells (gQ x0)] (cQ x0.consts) (i6 (↑i1:Int)) (st a::st c::r30))
 (h2:kpq [Ob.cells (gQ x0)] (binv Tryd.prog BinOp.add 9 (st (ByteArray.mk #[99,111,110,115,116,97,110,116,32])) (st a)) (st x35))
 (h3:kpq [Ob.cells (gQ x0)] (binv Tryd.prog BinOp.add 9 (st x35) (st (ByteArray.mk #[32]))) (st x36))
 (h4:kpq [Ob.cells (gQ x0)] (binv Tryd.prog BinOp.add 9 (st x36) (st c)) (st x39))
 (h5:kpq [Ob.cells (gQ x0)] (binv Tryd.prog BinOp.add 9 (st x39) (st (ByteArray.mk #[10]))) (st x40))
 (h6:kpq [Ob.cells (gQ x0)] (binv Tryd.prog BinOp.add 9 (st (s3q1 i1)) (st x40)) (st x41))
 (e0:s3q1 (i1 + 1)=x41)
 (e1:(↑(i1 + 1):Int)=w6 ((↑i1:Int) + 1)):∃ Sx,vexec Tryd.prog X call lf 0 fg29 (loopN Tryd.f29 1) (f29_F1 x0 i0 s3q1 i1)=some (Ex.normal,Sx)∧forget f29_D1 Sx=(f29_F1 x0 i0 s3q1 (i1 + 1)) :=
  ⟨stOf 71 [5,17,18,19,20,21,22,23,24] [(0,AV.agg (gQ x0)),(1,AV.ref 0 0),(2,st (ByteArray.mk #[])),(3,st x41),(7,AV.eaddr [st a,st c]),(12,AV.ref 0 0),(13,sQ x0.sorts),(14,i6 (↑x0.sorts.length:Int)),(15,i6 (↑i0:Int)),(16,bo false),(25,AV.ref 0 1),(26,cQ x0.consts),(27,i6 (↑x0.consts.length:Int)),(28,i6 (w6 ((↑i1:Int) + 1))),(29,bo true),(30,AV.eaddr (st a::st c::r30)),(31,AV.agg [st a,st c]),(32,st (s3q1 i1)),(33,AV.eaddr [st a,st c]),(34,st a),(35,st x35),(36,st x36),(37,AV.eaddr [st c]),(38,st c),(39,st x39),(40,st x40),(41,st x41),(42,i6 (w6 ((↑i1:Int) + 1)))] [Ob.cells (gQ x0)],around_sound (ans:=[(1,Ans.b true),(4,Ans.v (AV.eaddr (st a::st c::r30))),(10,Ans.v (st x35)),(11,Ans.v (st x36)),(14,Ans.v (st x39)),(15,Ans.v (st x40)),(16,Ans.v (st x41))]) (by kernel_rfl) (ai h0 (ai h1 (ai h2 (ai h3 (ai h4 (ai h5 (ai h6 trivial))))))),by unfold f29_F1; rw [e0,e1]; show _=_; kernel_rfl⟩
def f29_S3 (x0:Sgn)(i0:Nat)(s3q1:Nat→ByteArray)(i1:Nat):St :=
  stOf 71 [5,7,17,18,19,20,21,22,23,24,30,31,32,33,34,35,36,37,38,39,40,41,42] [(0,AV.agg (gQ x0)),(1,AV.ref 0 0),(2,st (ByteArray.mk #[])),(3,st (s3q1 i1)),(12,AV.ref 0 0),(13,sQ x0.sorts),(14,i6 (↑x0.sorts.length:Int)),(15,i6 (↑i0:Int)),(16,bo false),(25,AV.ref 0 1),(26,cQ x0.consts),(27,i6 (↑x0.consts.length:Int)),(28,i6 (↑i1:Int)),(29,bo false)] [Ob.cells (gQ x0)]
theorem f29_r1_f (x0:Sgn)(X:Ext)(call:Caller)(lf i0:Nat)(s3q1:Nat→ByteArray)(i1:Nat)
 (h0:decide ((↑i1:Int)<(↑x0.consts.length:Int))=false):vexec Tryd.prog X call lf 0 fg29 (loopN Tryd.f29 1) (f29_F1 x0 i0 s3q1 i1)=some (Ex.exit 2,(f29_S3 x0 i0 s3q1 i1)) :=
  around_sound (ans:=[(1,Ans.b false)]) (by kernel_rfl) (ai h0 trivial)
def f29_F2 (x0:Sgn)(i0 i1:Nat)(s3q2:Nat→ByteArray)(i2:Nat):St :=
  stOf 71 [5,7,9,11,17,18,19,20,21,22,23,24,30,31,32,33,34,35,36,37,38,39,40,41,42,47,48,49,50,51,52,53,54,55,56,57,58,59,60,61,62,63,64,65,66,67,68,69] [(0,AV.agg (gQ x0)),(1,AV.ref 0 0),(2,st (ByteArray.mk #[])),(3,st (s3q2 i2)),(12,AV.ref 0 0),(13,sQ x0.sorts),(14,i6 (↑x0.sorts.length:Int)),(15,i6 (↑i0:Int)),(16,bo false),(25,AV.ref 0 1),(26,cQ x0.consts),(27,i6 (↑x0.consts.length:Int)),(28,i6 (↑i1:Int)),(29,bo false),(43,AV.ref 0 2),(44,pQ x0.preds),(45,i6 (↑x0.preds.length:Int)),(46,i6 (↑i2:Int))] [Ob.cells (gQ x0)]
def f29_S4 (x0:Sgn)(i0:Nat)(s3q1:Nat→ByteArray)(i1:Nat):St :=
  stOf 71 [5,7,17,18,19,20,21,22,23,24,30,31,32,33,34,35,36,37,38,39,40,41,42] [(0,AV.agg (gQ x0)),(1,AV.ref 0 0),(2,st (ByteArray.mk #[])),(3,st (s3q1 i1)),(12,AV.ref 0 0),(13,sQ x0.sorts),(14,i6 (↑x0.sorts.length:Int)),(15,i6 (↑i0:Int)),(16,bo false),(25,AV.ref 0 1),(26,cQ x0.consts),(27,i6 (↑x0.consts.length:Int)),(28,i6 (↑i1:Int)),(29,bo false),(43,AV.ref 0 2),(44,pQ x0.preds),(45,i6 (↑x0.preds.length:Int)),(46,i6 0)] [Ob.cells (gQ x0)]
abbrev f29_D2:List Nat:=[69,68,67,66,65,64,63,62,11,61,60,59,58,57,56,55,54,53,52,51,50,9,49,48,47]
theorem f29_L2 (x0:Sgn)(i0:Nat)(s3q1:Nat→ByteArray)(i1:Nat)(s3q2:Nat→ByteArray)(X:Ext)(call:Caller)(lf n:Nat)(x:Ex) (S' : St)
 (e0:s3q2 0=s3q1 i1)
 (hn:n<lf)
 (hs:∀ j,j<n→∃ Sx,vexec Tryd.prog X call lf 0 fg29 (loopN Tryd.f29 2) (f29_F2 x0 i0 i1 s3q2 j)=some (Ex.normal,Sx)∧forget f29_D2 Sx=(f29_F2 x0 i0 i1 s3q2 (j + 1)))
 (he:vexec Tryd.prog X call lf 0 fg29 (loopN Tryd.f29 2) (f29_F2 x0 i0 i1 s3q2 n)=some (x,S'))
 (hx:x ≠ Ex.normal):vexec Tryd.prog X call lf 0 fg29 (Go.Code.loop (loopN Tryd.f29 2)) (f29_S4 x0 i0 s3q1 i1)=some (x,S') :=
  loop_runK (by kernel_rfl) (fun j=>(f29_F2 x0 i0 i1 s3q2 j)) n hn (by show forget f29_D2 (f29_S4 x0 i0 s3q1 i1)=(f29_F2 x0 i0 i1 s3q2 0); unfold f29_F2; rw [e0]; show _=_; kernel_rfl) hs he hx
def f29_F3 (x0:Sgn)(i0 i1:Nat)(s3q2:Nat→ByteArray)(i2:Nat)(a:ByteArray)(b:List ByteArray)(r48:List AV)(x53 x54:ByteArray)(s3q3:Nat→ByteArray)(i3:Nat):St :=
  stOf 71 [5,7,11,17,18,19,20,21,22,23,24,30,31,32,33,34,35,36,37,38,39,40,41,42,59,60,61,62,63,64,65,66,67,68,69] [(0,AV.agg (gQ x0)),(1,AV.ref 0 0),(2,st (ByteArray.mk #[])),(3,st (s3q3 i3)),(9,AV.eaddr [st a,sQ b]),(12,AV.ref 0 0),(13,sQ x0.sorts),(14,i6 (↑x0.sorts.length:Int)),(15,i6 (↑i0:Int)),(16,bo false),(25,AV.ref 0 1),(26,cQ x0.consts),(27,i6 (↑x0.consts.length:Int)),(28,i6 (↑i1:Int)),(29,bo false),(43,AV.ref 0 2),(44,pQ x0.preds),(45,i6 (↑x0.preds.length:Int)),(46,i6 (↑i2:Int)),(47,bo true),(48,AV.eaddr (st a::sQ b::r48)),(49,AV.agg [st a,sQ b]),(50,st (s3q2 i2)),(51,AV.eaddr [st a,sQ b]),(52,st a),(53,st x53),(54,st x54),(55,AV.eaddr [sQ b]),(56,sQ b),(57,i6 (↑b.length:Int)),(58,i6 (↑i3:Int))] [Ob.cells (gQ x0)]
def f29_S5 (x0:Sgn)(i0 i1:Nat)(s3q2:Nat→ByteArray)(i2:Nat)(a:ByteArray)(b:List ByteArray)(r48:List AV)(x53 x54:ByteArray):St :=
  stOf 71 [5,7,11,17,18,19,20,21,22,23,24,30,31,32,33,34,35,36,37,38,39,40,41,42,59,60,61,62,63,64,65,66,67,68,69] [(0,AV.agg (gQ x0)),(1,AV.ref 0 0),(2,st (ByteArray.mk #[])),(3,st x54),(9,AV.eaddr [st a,sQ b]),(12,AV.ref 0 0),(13,sQ x0.sorts),(14,i6 (↑x0.sorts.length:Int)),(15,i6 (↑i0:Int)),(16,bo false),(25,AV.ref 0 1),(26,cQ x0.consts),(27,i6 (↑x0.consts.length:Int)),(28,i6 (↑i1:Int)),(29,bo false),(43,AV.ref 0 2),(44,pQ x0.preds),(45,i6 (↑x0.preds.length:Int)),(46,i6 (↑i2:Int)),(47,bo true),(48,AV.eaddr (st a::sQ b::r48)),(49,AV.agg [st a,sQ b]),(50,st (s3q2 i2)),(51,AV.eaddr [st a,sQ b]),(52,st a),(53,st x53),(54,st x54),(55,AV.eaddr [sQ b]),(56,sQ b),(57,i6 (↑b.length:Int)),(58,i6 0)] [Ob.cells (gQ x0)]
abbrev f29_D3:List Nat:=[66,65,64,63,62,11,61,60,59]
theorem f29_L3 (x0:Sgn)(i0 i1:Nat)(s3q2:Nat→ByteArray)(i2:Nat)(a:ByteArray)(b:List ByteArray)(r48:List AV)(x53 x54:ByteArray)(s3q3:Nat→ByteArray)(X:Ext)(call:Caller)(lf n:Nat)(x:Ex) (S' : St)
 (e0:s3q3 0=x54)
 (hn:n<lf)
 (hs:∀ j,j<n→∃ Sx,vexec Tryd.prog X call lf 0 fg29 (loopN Tryd.f29 3) (f29_F3 x0 i0 i1 s3q2 i2 a b r48 x53 x54 s3q3 j)=some (Ex.normal,Sx)∧forget f29_D3 Sx=(f29_F3 x0 i0 i1 s3q2 i2 a b r48 x53 x54 s3q3 (j + 1)))
 (he:vexec Tryd.prog X call lf 0 fg29 (loopN Tryd.f29 3) (f29_F3 x0 i0 i1 s3q2 i2 a b r48 x53 x54 s3q3 n)=some (x,S'))
 (hx:x ≠ Ex.normal):vexec Tryd.prog X call lf 0 fg29 (Go.Code.loop (loopN Tryd.f29 3)) (f29_S5 x0 i0 i1 s3q2 i2 a b r48 x53 x54)=some (x,S') :=
  loop_runK (by kernel_rfl) (fun j=>(f29_F3 x0 i0 i1 s3q2 i2 a b r48 x53 x54 s3q3 j)) n hn (by show forget f29_D3 (f29_S5 x0 i0 i1 s3q2 i2 a b r48 x53 x54)=(f29_F3 x0 i0 i1 s3q2 i2 a b r48 x53 x54 s3q3 0); unfold f29_F3; rw [e0]; show _=_; kernel_rfl) hs he hx
theorem f29_s3_t (x0:Sgn)(X:Ext)(call:Caller)(lf i0 i1:Nat)(s3q2:Nat→ByteArray)(i2:Nat)(a:ByteArray)(c:List ByteArray)(r48:List AV)(x53 x54:ByteArray)(s3q3:Nat→ByteArray)(i3:Nat)(d:ByteArray)(r60:List AV)(x64 x65:ByteArray)
 (h0:decide ((↑i3:Int)<(↑c.length:Int))=true)
 (h1:kiq 22 [Ob.cells (gQ x0)] (sQ c) (i6 (↑i3:Int)) (st d::r60))
 (h2:kpq [Ob.cells (gQ x0)] (binv Tryd.prog BinOp.add 9 (st (ByteArray.mk #[32])) (st d)) (st x64))
 (h3:kpq [Ob.cells (gQ x0)] (binv Tryd.prog BinOp.add 9 (st (s3q3 i3)) (st x64)) (st x65))
 (e0:s3q3 (i3 + 1)=x65)
 (e1:(↑(i3 + 1):Int)=w6 ((↑i3:Int) + 1)):∃ Sx,vexec Tryd.prog X call lf 0 fg29 (loopN Tryd.f29 3) (f29_F3 x0 i0 i1 s3q2 i2 a c r48 x53 x54 s3q3 i3)=some (Ex.normal,Sx)∧forget f29_D3 Sx=(f29_F3 x0 i0 i1 s3q2 i2 a c r48 x53 x54 s3q3 (i3 + 1)) :=
  ⟨stOf 71 [5,7,17,18,19,20,21,22,23,24,30,31,32,33,34,35,36,37,38,39,40,41,42,67,68,69] [(0,AV.agg (gQ x0)),(1,AV.ref 0 0),(2,st (ByteArray.mk #[])),(3,st x65),(9,AV.eaddr [st a,sQ c]),(11,st d),(12,AV.ref 0 0),(13,sQ x0.sorts),(14,i6 (↑x0.sorts.length:Int)),(15,i6 (↑i0:Int)),(16,bo false),(25,AV.ref 0 1),(26,cQ x0.consts),(27,i6 (↑x0.consts.length:Int)),(28,i6 (↑i1:Int)),(29,bo false),(43,AV.ref 0 2),(44,pQ x0.preds),(45,i6 (↑x0.preds.length:Int)),(46,i6 (↑i2:Int)),(47,bo true),(48,AV.eaddr (st a::sQ c::r48)),(49,AV.agg [st a,sQ c]),(50,st (s3q2 i2)),(51,AV.eaddr [st a,sQ c]),(52,st a),(53,st x53),(54,st x54),(55,AV.eaddr [sQ c]),(56,sQ c),(57,i6 (↑c.length:Int)),(58,i6 (w6 ((↑i3:Int) + 1))),(59,bo true),(60,AV.eaddr (st d::r60)),(61,st d),(62,st (s3q3 i3)),(63,st d),(64,st x64),(65,st x65),(66,i6 (w6 ((↑i3:Int) + 1)))] [Ob.cells (gQ x0)],around_sound (ans:=[(1,Ans.b true),(4,Ans.v (AV.eaddr (st d::r60))),(10,Ans.v (st x64)),(11,Ans.v (st x65))]) (by kernel_rfl) (ai h0 (ai h1 (ai h2 (ai h3 trivial)))),by unfold f29_F3; rw [e0,e1]; show _=_; kernel_rfl⟩
def f29_S6 (x0:Sgn)(i0 i1:Nat)(s3q2:Nat→ByteArray)(i2:Nat)(a:ByteArray)(b:List ByteArray)(r48:List AV)(x53 x54:ByteArray)(s3q3:Nat→ByteArray)(i3:Nat):St :=
  stOf 71 [5,7,11,17,18,19,20,21,22,23,24,30,31,32,33,34,35,36,37,38,39,40,41,42,60,61,62,63,64,65,66,67,68,69] [(0,AV.agg (gQ x0)),(1,AV.ref 0 0),(2,st (ByteArray.mk #[])),(3,st (s3q3 i3)),(9,AV.eaddr [st a,sQ b]),(12,AV.ref 0 0),(13,sQ x0.sorts),(14,i6 (↑x0.sorts.length:Int)),(15,i6 (↑i0:Int)),(16,bo false),(25,AV.ref 0 1),(26,cQ x0.consts),(27,i6 (↑x0.consts.length:Int)),(28,i6 (↑i1:Int)),(29,bo false),(43,AV.ref 0 2),(44,pQ x0.preds),(45,i6 (↑x0.preds.length:Int)),(46,i6 (↑i2:Int)),(47,bo true),(48,AV.eaddr (st a::sQ b::r48)),(49,AV.agg [st a,sQ b]),(50,st (s3q2 i2)),(51,AV.eaddr [st a,sQ b]),(52,st a),(53,st x53),(54,st x54),(55,AV.eaddr [sQ b]),(56,sQ b),(57,i6 (↑b.length:Int)),(58,i6 (↑i3:Int)),(59,bo false)] [Ob.cells (gQ x0)]
theorem f29_r3_f (x0:Sgn)(X:Ext)(call:Caller)(lf i0 i1:Nat)(s3q2:Nat→ByteArray)(i2:Nat)(a:ByteArray)(c:List ByteArray)(r48:List AV)(x53 x54:ByteArray)(s3q3:Nat→ByteArray)(i3:Nat)
 (h0:decide ((↑i3:Int)<(↑c.length:Int))=false):vexec Tryd.prog X call lf 0 fg29 (loopN Tryd.f29 3) (f29_F3 x0 i0 i1 s3q2 i2 a c r48 x53 x54 s3q3 i3)=some (Ex.exit 6,(f29_S6 x0 i0 i1 s3q2 i2 a c r48 x53 x54 s3q3 i3)) :=
  around_sound (ans:=[(1,Ans.b false)]) (by kernel_rfl) (ai h0 trivial)
theorem f29_s2_tlf (x0:Sgn)(X:Ext)(call:Caller)(lf i0 i1:Nat)(s3q2:Nat→ByteArray)(i2:Nat)(a:ByteArray)(c:List ByteArray)(r48:List AV)(x53 x54:ByteArray)(s3q3:Nat→ByteArray)(i3:Nat)(x68:ByteArray)
 (h0:decide ((↑i2:Int)<(↑x0.preds.length:Int))=true)
 (h1:kiq 24 [Ob.cells (gQ x0)] (pQ x0.preds) (i6 (↑i2:Int)) (st a::sQ c::r48))
 (h2:kpq [Ob.cells (gQ x0)] (binv Tryd.prog BinOp.add 9 (st (ByteArray.mk #[112,114,101,100,105,99,97,116,101,32])) (st a)) (st x53))
 (h3:kpq [Ob.cells (gQ x0)] (binv Tryd.prog BinOp.add 9 (st (s3q2 i2)) (st x53)) (st x54))
 (h4:vexec Tryd.prog X call lf 0 fg29 (Code.loop (loopN Tryd.f29 3)) (f29_S5 x0 i0 i1 s3q2 i2 a c r48 x53 x54)=some (Ex.exit 6,(f29_S6 x0 i0 i1 s3q2 i2 a c r48 x53 x54 s3q3 i3)))
 (h5:kpq [Ob.cells (gQ x0)] (binv Tryd.prog BinOp.add 9 (st (s3q3 i3)) (st (ByteArray.mk #[10]))) (st x68))
 (e0:s3q2 (i2 + 1)=x68)
 (e1:(↑(i2 + 1):Int)=w6 ((↑i2:Int) + 1)):∃ Sx,vexec Tryd.prog X call lf 0 fg29 (loopN Tryd.f29 2) (f29_F2 x0 i0 i1 s3q2 i2)=some (Ex.normal,Sx)∧forget f29_D2 Sx=(f29_F2 x0 i0 i1 s3q2 (i2 + 1)) :=
  ⟨stOf 71 [5,7,11,17,18,19,20,21,22,23,24,30,31,32,33,34,35,36,37,38,39,40,41,42,60,61,62,63,64,65,66] [(0,AV.agg (gQ x0)),(1,AV.ref 0 0),(2,st (ByteArray.mk #[])),(3,st x68),(9,AV.eaddr [st a,sQ c]),(12,AV.ref 0 0),(13,sQ x0.sorts),(14,i6 (↑x0.sorts.length:Int)),(15,i6 (↑i0:Int)),(16,bo false),(25,AV.ref 0 1),(26,cQ x0.consts),(27,i6 (↑x0.consts.length:Int)),(28,i6 (↑i1:Int)),(29,bo false),(43,AV.ref 0 2),(44,pQ x0.preds),(45,i6 (↑x0.preds.length:Int)),(46,i6 (w6 ((↑i2:Int) + 1))),(47,bo true),(48,AV.eaddr (st a::sQ c::r48)),(49,AV.agg [st a,sQ c]),(50,st (s3q2 i2)),(51,AV.eaddr [st a,sQ c]),(52,st a),(53,st x53),(54,st x54),(55,AV.eaddr [sQ c]),(56,sQ c),(57,i6 (↑c.length:Int)),(58,i6 (↑i3:Int)),(59,bo false),(67,st (s3q3 i3)),(68,st x68),(69,i6 (w6 ((↑i2:Int) + 1)))] [Ob.cells (gQ x0)],around_sound (ans:=[(1,Ans.b true),(4,Ans.v (AV.eaddr (st a::sQ c::r48))),(10,Ans.v (st x53)),(11,Ans.v (st x54)),(18,Ans.l (Ex.exit 6) (f29_S6 x0 i0 i1 s3q2 i2 a c r48 x53 x54 s3q3 i3)),(21,Ans.v (st x68))]) (by kernel_rfl) (ai h0 (ai h1 (ai h2 (ai h3 (ai h4 (ai h5 trivial)))))),by unfold f29_F2; rw [e0,e1]; show _=_; kernel_rfl⟩
def f29_S7 (x0:Sgn)(i0 i1:Nat)(s3q2:Nat→ByteArray)(i2:Nat):St :=
  stOf 71 [5,7,9,11,17,18,19,20,21,22,23,24,30,31,32,33,34,35,36,37,38,39,40,41,42,48,49,50,51,52,53,54,55,56,57,58,59,60,61,62,63,64,65,66,67,68,69] [(0,AV.agg (gQ x0)),(1,AV.ref 0 0),(2,st (ByteArray.mk #[])),(3,st (s3q2 i2)),(12,AV.ref 0 0),(13,sQ x0.sorts),(14,i6 (↑x0.sorts.length:Int)),(15,i6 (↑i0:Int)),(16,bo false),(25,AV.ref 0 1),(26,cQ x0.consts),(27,i6 (↑x0.consts.length:Int)),(28,i6 (↑i1:Int)),(29,bo false),(43,AV.ref 0 2),(44,pQ x0.preds),(45,i6 (↑x0.preds.length:Int)),(46,i6 (↑i2:Int)),(47,bo false)] [Ob.cells (gQ x0)]
theorem f29_r2_f (x0:Sgn)(X:Ext)(call:Caller)(lf i0 i1:Nat)(s3q2:Nat→ByteArray)(i2:Nat)
 (h0:decide ((↑i2:Int)<(↑x0.preds.length:Int))=false):vexec Tryd.prog X call lf 0 fg29 (loopN Tryd.f29 2) (f29_F2 x0 i0 i1 s3q2 i2)=some (Ex.exit 4,(f29_S7 x0 i0 i1 s3q2 i2)) :=
  around_sound (ans:=[(1,Ans.b false)]) (by kernel_rfl) (ai h0 trivial)
theorem f29_plflflf (x0:Sgn)(X:Ext)(call:Caller)(lf:Nat)(s3:Nat→ByteArray)(i0:Nat)(s3q1:Nat→ByteArray)(i1:Nat)(s3q2:Nat→ByteArray)(i2:Nat)
 (h0:vexec Tryd.prog X call lf 0 fg29 (Code.loop (loopN Tryd.f29 0)) (f29_S0 x0)=some (Ex.exit 0,(f29_S1 x0 s3 i0)))
 (h1:vexec Tryd.prog X call lf 0 fg29 (Code.loop (loopN Tryd.f29 1)) (f29_S2 x0 s3 i0)=some (Ex.exit 2,(f29_S3 x0 i0 s3q1 i1)))
 (h2:vexec Tryd.prog X call lf 0 fg29 (Code.loop (loopN Tryd.f29 2)) (f29_S4 x0 i0 s3q1 i1)=some (Ex.exit 4,(f29_S7 x0 i0 i1 s3q2 i2))):vbody Tryd.prog X call lf fg29 Tryd.f29 (codeOf Tryd.f29) [AV.agg (sgnC x0)] [] 0=some (st (s3q2 i2),[Ob.cells (gQ x0)]) :=
  along_sound (ans:=[(10,Ans.l (Ex.exit 0) (f29_S1 x0 s3 i0)),(16,Ans.l (Ex.exit 2) (f29_S3 x0 i0 s3q1 i1)),(22,Ans.l (Ex.exit 4) (f29_S7 x0 i0 i1 s3q2 i2))]) (by kernel_rfl) (ai h0 (ai h1 (ai h2 trivial)))
def f29_o0 (x0:Sgn)(i0:Nat):Nat :=
  (match decide ((↑i0:Int)<(↑x0.sorts.length:Int)) with
  | true=>0
  | false=>1)
theorem f29_B0 (x0:Sgn)(X:Ext)(call:Caller)(lf:Nat)(s3:Nat→ByteArray)(i0:Nat)(a:ByteArray)(r17:List AV)(x21 x22 x23:ByteArray)
 (g0:decide ((↑i0:Int)<(↑x0.sorts.length:Int))=true→kiq 22 [Ob.cells (gQ x0)] (sQ x0.sorts) (i6 (↑i0:Int)) (st a::r17))
 (g1:decide ((↑i0:Int)<(↑x0.sorts.length:Int))=true→kpq [Ob.cells (gQ x0)] (binv Tryd.prog BinOp.add 9 (st (ByteArray.mk #[115,111,114,116,32])) (st a)) (st x21))
 (g2:decide ((↑i0:Int)<(↑x0.sorts.length:Int))=true→kpq [Ob.cells (gQ x0)] (binv Tryd.prog BinOp.add 9 (st x21) (st (ByteArray.mk #[10]))) (st x22))
 (g3:decide ((↑i0:Int)<(↑x0.sorts.length:Int))=true→kpq [Ob.cells (gQ x0)] (binv Tryd.prog BinOp.add 9 (st (s3 i0)) (st x22)) (st x23))
 (e0:decide ((↑i0:Int)<(↑x0.sorts.length:Int))=true→s3 (i0 + 1)=x23)
 (e1:decide ((↑i0:Int)<(↑x0.sorts.length:Int))=true→(↑(i0 + 1):Int)=w6 ((↑i0:Int) + 1)) :
    (f29_o0 x0 i0=0→∃ Sx,vexec Tryd.prog X call lf 0 fg29 (loopN Tryd.f29 0) (f29_F0 x0 s3 i0)=some (Ex.normal,Sx)∧forget f29_D0 Sx=(f29_F0 x0 s3 (i0 + 1)))∧(f29_o0 x0 i0=1→vexec Tryd.prog X call lf 0 fg29 (loopN Tryd.f29 0) (f29_F0 x0 s3 i0)=some (Ex.exit 0,(f29_S1 x0 s3 i0))):=by
  unfold f29_o0
  cases c0:decide ((↑i0:Int)<(↑x0.sorts.length:Int)) with
  | true =>
    exact ⟨fun _=>f29_s0_t x0 X call lf s3 i0 a r17 x21 x22 x23 c0 (g0 c0) (g1 c0) (g2 c0) (g3 c0) (e0 c0) (e1 c0),fun h=>nq h⟩
  | false =>
    exact ⟨fun h=>nq h,fun _=>f29_r0_f x0 X call lf s3 i0 c0⟩
def f29_o1 (x0:Sgn)(i1:Nat):Nat :=
  (match decide ((↑i1:Int)<(↑x0.consts.length:Int)) with
  | true=>0
  | false=>1)
theorem f29_B1 (x0:Sgn)(X:Ext)(call:Caller)(lf i0:Nat)(s3q1:Nat→ByteArray)(i1:Nat)(a b:ByteArray)(r30:List AV)(x35 x36 x39 x40 x41:ByteArray)
 (g0:decide ((↑i1:Int)<(↑x0.consts.length:Int))=true→kiq 23 [Ob.cells (gQ x0)] (cQ x0.consts) (i6 (↑i1:Int)) (st a::st b::r30))
 (g1:decide ((↑i1:Int)<(↑x0.consts.length:Int))=true→kpq [Ob.cells (gQ x0)] (binv Tryd.prog BinOp.add 9 (st (ByteArray.mk #[99,111,110,115,116,97,110,116,32])) (st a)) (st x35))
 (g2:decide ((↑i1:Int)<(↑x0.consts.length:Int))=true→kpq [Ob.cells (gQ x0)] (binv Tryd.prog BinOp.add 9 (st x35) (st (ByteArray.mk #[32]))) (st x36))
 (g3:decide ((↑i1:Int)<(↑x0.consts.length:Int))=true→kpq [Ob.cells (gQ x0)] (binv Tryd.prog BinOp.add 9 (st x36) (st b)) (st x39))
 (g4:decide ((↑i1:Int)<(↑x0.consts.length:Int))=true→kpq [Ob.cells (gQ x0)] (binv Tryd.prog BinOp.add 9 (st x39) (st (ByteArray.mk #[10]))) (st x40))
 (g5:decide ((↑i1:Int)<(↑x0.consts.length:Int))=true→kpq [Ob.cells (gQ x0)] (binv Tryd.prog BinOp.add 9 (st (s3q1 i1)) (st x40)) (st x41))
 (e0:decide ((↑i1:Int)<(↑x0.consts.length:Int))=true→s3q1 (i1 + 1)=x41)
 (e1:decide ((↑i1:Int)<(↑x0.consts.length:Int))=true→(↑(i1 + 1):Int)=w6 ((↑i1:Int) + 1)) :
    (f29_o1 x0 i1=0→∃ Sx,vexec Tryd.prog X call lf 0 fg29 (loopN Tryd.f29 1) (f29_F1 x0 i0 s3q1 i1)=some (Ex.normal,Sx)∧forget f29_D1 Sx=(f29_F1 x0 i0 s3q1 (i1 + 1)))∧(f29_o1 x0 i1=1→vexec Tryd.prog X call lf 0 fg29 (loopN Tryd.f29 1) (f29_F1 x0 i0 s3q1 i1)=some (Ex.exit 2,(f29_S3 x0 i0 s3q1 i1))):=by
  unfold f29_o1
  cases c0:decide ((↑i1:Int)<(↑x0.consts.length:Int)) with
  | true =>
    exact ⟨fun _=>f29_s1_t x0 X call lf i0 s3q1 i1 a b r30 x35 x36 x39 x40 x41 c0 (g0 c0) (g1 c0) (g2 c0) (g3 c0) (g4 c0) (g5 c0) (e0 c0) (e1 c0),fun h=>nq h⟩
  | false =>
    exact ⟨fun h=>nq h,fun _=>f29_r1_f x0 X call lf i0 s3q1 i1 c0⟩
def f29_o3 (a:List ByteArray)(i3:Nat):Nat :=
  (match decide ((↑i3:Int)<(↑a.length:Int)) with
  | true=>0
  | false=>1)
theorem f29_B3 (x0:Sgn)(X:Ext)(call:Caller)(lf i0 i1:Nat)(s3q2:Nat→ByteArray)(i2:Nat)(a:ByteArray)(b:List ByteArray)(r48:List AV)(x53 x54:ByteArray)(s3q3:Nat→ByteArray)(i3:Nat)(c:ByteArray)(r60:List AV)(x64 x65:ByteArray)
 (g0:decide ((↑i3:Int)<(↑b.length:Int))=true→kiq 22 [Ob.cells (gQ x0)] (sQ b) (i6 (↑i3:Int)) (st c::r60))
 (g1:decide ((↑i3:Int)<(↑b.length:Int))=true→kpq [Ob.cells (gQ x0)] (binv Tryd.prog BinOp.add 9 (st (ByteArray.mk #[32])) (st c)) (st x64))
 (g2:decide ((↑i3:Int)<(↑b.length:Int))=true→kpq [Ob.cells (gQ x0)] (binv Tryd.prog BinOp.add 9 (st (s3q3 i3)) (st x64)) (st x65))
 (e0:decide ((↑i3:Int)<(↑b.length:Int))=true→s3q3 (i3 + 1)=x65)
 (e1:decide ((↑i3:Int)<(↑b.length:Int))=true→(↑(i3 + 1):Int)=w6 ((↑i3:Int) + 1)) :
    (f29_o3 b i3=0→∃ Sx,vexec Tryd.prog X call lf 0 fg29 (loopN Tryd.f29 3) (f29_F3 x0 i0 i1 s3q2 i2 a b r48 x53 x54 s3q3 i3)=some (Ex.normal,Sx)∧forget f29_D3 Sx=(f29_F3 x0 i0 i1 s3q2 i2 a b r48 x53 x54 s3q3 (i3 + 1)))∧(f29_o3 b i3=1→vexec Tryd.prog X call lf 0 fg29 (loopN Tryd.f29 3) (f29_F3 x0 i0 i1 s3q2 i2 a b r48 x53 x54 s3q3 i3)=some (Ex.exit 6,(f29_S6 x0 i0 i1 s3q2 i2 a b r48 x53 x54 s3q3 i3))):=by
  unfold f29_o3
  cases c0:decide ((↑i3:Int)<(↑b.length:Int)) with
  | true =>
    exact ⟨fun _=>f29_s3_t x0 X call lf i0 i1 s3q2 i2 a b r48 x53 x54 s3q3 i3 c r60 x64 x65 c0 (g0 c0) (g1 c0) (g2 c0) (e0 c0) (e1 c0),fun h=>nq h⟩
  | false =>
    exact ⟨fun h=>nq h,fun _=>f29_r3_f x0 X call lf i0 i1 s3q2 i2 a b r48 x53 x54 s3q3 i3 c0⟩
def f29_o2 (x0:Sgn)(i2:Nat):Nat :=
  (match decide ((↑i2:Int)<(↑x0.preds.length:Int)) with
  | true=>0
  | false=>1)
end Go.Proofs.Sig
end
/- Signature: the reference's cut, told. -/
section
open Go Go.Vm Go.Proofs
namespace Go.Proofs.Sig
/-- The last piece. -/
def lst {α:Type} (l:List (List α)):List α:=l.getLastD []
theorem lst_snoc {α:Type} (l:List (List α)) (x:List α):lst (l ++ [x])=x:=by simp [lst]
theorem front_lst {α:Type} {l:List (List α)} (h:l ≠ []):l.dropLast ++ [lst l]=l:=by
  induction l with
  | nil=>exact absurd rfl h
  | cons x r ih =>
    cases r with
    | nil=>rfl
    | cons y r =>
      have:=ih (by simp)
      rw [List.dropLast_cons_cons,List.cons_append]
      rw [show lst (x::y::r)=lst (y::r) from rfl,this]
theorem snoc_ind {α:Type} {p:List α→Prop} (h0:p []) (h1:∀ l b,p l→p (l ++ [b])):∀ l,p l:=by
  have h : ∀ l : List α, p l.reverse := by
    intro l
    induction l with
    | nil=>exact h0
    | cons b l ih=>rw [List.reverse_cons]; exact h1 _ _ ih
  intro l
  have:=h l.reverse
  rwa [List.reverse_reverse] at this
theorem spl_snoc (c b:UInt8):∀ l:List UInt8,spl c (l ++ [b])=if b=c then spl c l ++ [[]] else (spl c l).dropLast ++ [lst (spl c l) ++ [b]]
  | [] => by
    by_cases h:b=c
    · simp [spl,h]
    · simp [spl,h,lst]
  | a :: l => by
    have ih:=spl_snoc c b l
    obtain ⟨x,r,e⟩:=List.exists_cons_of_ne_nil (spl_ne c l)
    rw [List.cons_append,spl,spl,ih,e]
    by_cases h:b=c
    · simp only [h, if_true, List.cons_append]
      by_cases ha:a=c
      · simp [ha]
      · simp [ha]
    · simp only [h, if_false]
      by_cases ha:a=c
      · simp [ha,lst]
      · cases r with
        | nil=>simp [ha,lst]
        | cons y r=>simp [ha,lst]
theorem lst_suffix (c:UInt8) (l:List UInt8):lst (spl c l) <:+ l:=by
  induction l using snoc_ind with
  | h0=>simp [spl,lst]
  | h1 l b ih =>
    rw [spl_snoc]
    split
    · rw [lst_snoc]; simp
    · rw [lst_snoc]
      obtain ⟨t,ht⟩:=ih
      exact ⟨t,by rw [← List.append_assoc,ht]⟩
theorem ex_mk (s:ByteArray) (i j:Nat):s.extract i j=bytesB ((s.data.toList.take j).drop i):=by
  have : (s.extract i j).data.toList = (s.data.toList.take j).drop i := by
    rw [ByteArray.data_extract,Array.toList_extract]
    simp [List.extract,List.drop_take]
  rw [← this]; rfl
theorem size_list (s:ByteArray):s.size=s.data.toList.length:=by simp
section
variable {X:Ext} {call:Caller} {lf:Nat}
theorem slcF {s:ByteArray} {k:Nat} {dr:Bool} {σ:List Ob} (h:k ≤ s.size):slc Tryd.prog 9 σ dr 0 (st s) (some (i6 (k:Int))) none none=some (st (bytesB (s.data.toList.drop k)),σ):=by
  have e:s.extract k s.size=bytesB (s.data.toList.drop k):=by rw [ex_mk,size_list,List.take_length]
  rw [← e]
  unfold slc cutOwn byValue1 slicev
  rw [Tryd.underlying9]
  cases dr <;> simp [AV.owns,boundv,keep,h]
theorem slcM {s:ByteArray} {i k:Nat} {dr:Bool} {σ:List Ob} (h:k ≤ s.size) (hi:i ≤ k):slc Tryd.prog 9 σ dr 0 (st s) (some (i6 (i:Int))) (some (i6 (k:Int))) none=some (st (bytesB ((s.data.toList.take k).drop i)),σ):=by
  rw [← ex_mk]
  unfold slc cutOwn byValue1 slicev
  rw [Tryd.underlying9]
  cases dr <;> simp [AV.owns,boundv,keep,h,hi]
theorem byteN_list {s:ByteArray} {i:Nat} (h:i < s.data.toList.length):byteN s i=s.data.toList[i].toNat:=by
  have h' : i < s.data.size:=by simpa using h
  unfold byteN Array.getD
  rw [dif_pos h']
  rfl
theorem u8_eq {b c:UInt8}:((b.toNat:Int) == (c.toNat:Int))=decide (b=c):=by
  by_cases h:b=c
  · subst h; simp
  · rw [decide_eq_false h, beq_eq_false_iff_ne]
    intro e
    exact h (UInt8.toNat_inj.1 (by omega))
theorem spl_len_le (c:UInt8) (l:List UInt8):(spl c l).length ≤ l.length + 1:=by
  induction l using snoc_ind with
  | h0=>simp [spl]
  | h1 l b ih =>
    rw [spl_snoc]
    split
    · rw [List.length_append,List.length_append]; simp only [List.length_cons,List.length_nil]; omega
    · rw [List.length_append,List.length_append,List.length_dropLast]; simp only [List.length_cons,List.length_nil]; omega
end
/-- A string, cut at each byte c. -/
def cutL (c:UInt8) (s:ByteArray):List ByteArray:=(spl c s.data.toList).map bytesB
variable [Fixed] {X:Ext} {call:Caller} {lf:Nat}
theorem cut40 {s:ByteArray} {c:UInt8} (hs:s.size ≤ 3000000) (hlf:s.size < lf):∃ r σ',vbody Tryd.prog X call lf noFg Tryd.f40 (codeOf Tryd.f40) [st s,.int .u8 (c.toNat:Int)] [] 0=some (r,σ')∧aSs.dec r=some (cutL c s):=by
  have hl:=size_list s
  have hbig:big=140737488355328:=rfl
  let L:=s.data.toList
  have hL:L.length=s.size:=hl.symm
  let Q:Nat→List (List UInt8):=fun i=>spl c (L.take i)
  let H:Nat→List ByteArray:=fun i=>(Q i).dropLast.map bytesB
  let F:Nat→Nat:=fun i=>i - (lst (Q i)).length
  let v0:AV := .list .clip 0 1 []
  have hQ : ∀ i, (hi : i < L.length) → Q (i + 1) = if L[i] = c then Q i ++ [[]] else (Q i).dropLast ++ [lst (Q i) ++ [L[i]]] := fun i hi => by
    show spl c (L.take (i + 1))=_
    rw [List.take_succ_eq_append_getElem hi,spl_snoc]
  have hsuf : ∀ i, i ≤ L.length → (lst (Q i)).length ≤ i ∧ (L.take i).drop (F i) = lst (Q i) := fun i hi => by
    have h:=lst_suffix c (L.take i)
    have h2:=h.length_le
    have h3:=List.suffix_iff_eq_drop.1 h
    have ht:(L.take i).length=i:=by rw [List.length_take]; omega
    rw [ht] at h2 h3
    exact ⟨h2,h3.symm⟩
  have hHl : ∀ i, i ≤ L.length → (H i).length ≤ 4000000 := fun i hi => by
    show ((Q i).dropLast.map bytesB).length ≤ _
    rw [List.length_map,List.length_dropLast]
    have:=spl_len_le c (L.take i)
    have ht:(L.take i).length=i:=by rw [List.length_take]; omega
    show (spl c (L.take i)).length - 1 ≤ _
    omega
  have hbyte : ∀ i, (hi : i < L.length) → ((byteN s i : Int) == (c.toNat : Int)) = decide (L[i] = c) := fun i hi => by
    rw [byteN_list hi,u8_eq]
  have hH1 : ∀ i, (hi : i < L.length) → L[i] = c → H (i + 1) = H i ++ [bytesB (lst (Q i))] ∧ F (i + 1) = i + 1 := fun i hi h => by
    refine ⟨?_,?_⟩
    · show (Q (i + 1)).dropLast.map bytesB = _
      rw [hQ i hi,if_pos h,List.dropLast_concat]
      show (Q i).map bytesB=(Q i).dropLast.map bytesB ++ [bytesB (lst (Q i))]
      rw [show [bytesB (lst (Q i))]=[lst (Q i)].map bytesB from rfl,← List.map_append,front_lst (spl_ne c _)]
    · show i + 1 - (lst (Q (i + 1))).length = _
      rw [hQ i hi,if_pos h,lst_snoc]; rfl
  have hH0 : ∀ i, (hi : i < L.length) → ¬ L[i] = c → H (i + 1) = H i ∧ F (i + 1) = F i := fun i hi h => by
    refine ⟨?_,?_⟩
    · show (Q (i + 1)).dropLast.map bytesB = _
      rw [hQ i hi,if_neg h,List.dropLast_concat]
    · show i + 1 - (lst (Q (i + 1))).length = i - (lst (Q i)).length
      rw [hQ i hi,if_neg h,lst_snoc,List.length_append]
      simp only [List.length_cons,List.length_nil]
      omega
  have ho : ∀ i, (i < s.size → f40_o0 s (c.toNat : Int) i (byteN s i : Int) = 0) ∧ (s.size ≤ i → f40_o0 s (c.toNat : Int) i (byteN s i : Int) = 1) := fun i => by
    unfold f40_o0
    refine ⟨fun a => ?_,fun a => ?_⟩
    · rw [dt a]
      cases (byteN s i:Int) == (c.toNat:Int) <;> rfl
    · rw [df a]
  have dl:∀ {i:Nat},decide ((↑i:Int) < (↑s.size:Int))=true→i < L.length:=fun h=>by have:=dlt h; omega
  have M := f40_M s (c.toNat : Int) (fun i => grV v0 0 (H i).length) (fun i => (F i : Int)) (fun i => grS Cod.str [] (H i)) X call lf s.size (fun i => (byteN s i : Int)) (fun i => bytesB (lst (Q i))) (fun i => grV v0 0 (H i ++ [bytesB (lst (Q i))]).length) (fun i => grS Cod.str [] (H i ++ [bytesB (lst (Q i))]))
    rfl rfl rfl hlf (fun i _ h=>at_byte (dlt h))
    (fun i _ h _ => by
      have hi:=dl h
      have h2:=(hsuf i (by omega)).2
      rw [slcM (i:=F i) (k:=i) (by omega) (Nat.sub_le _ _)]
      rw [show ((s.data.toList.take i).drop (F i))=lst (Q i) from h2])
    (fun i _ h _=>grow_str (σ0:=[]) (.inr rfl) (hHl i (by have:=dl h; omega)))
    (fun i _ h hb => by
      have hi:=dl h
      have hb:((byteN s i:Int) == (c.toNat:Int))=true:=hb
      rw [hbyte i hi] at hb
      show grV v0 0 (H (i + 1)).length=_
      rw [(hH1 i hi (of_decide_eq_true hb)).1])
    (fun i _ h hb => by
      have hi:=dl h
      have hb:((byteN s i:Int) == (c.toNat:Int))=true:=hb
      rw [hbyte i hi] at hb
      show ((F (i + 1):Nat):Int)=_
      rw [(hH1 i hi (of_decide_eq_true hb)).2]
      exact up (dlt h) (by omega))
    (fun i _ h=>up (dlt h) (by omega))
    (fun i _ h hb => by
      have hi:=dl h
      have hb:((byteN s i:Int) == (c.toNat:Int))=true:=hb
      rw [hbyte i hi] at hb
      show grS Cod.str [] (H (i + 1))=_
      rw [(hH1 i hi (of_decide_eq_true hb)).1])
    (fun i _ h hb => by
      have hi:=dl h
      have hb:((byteN s i:Int) == (c.toNat:Int))=false:=hb
      rw [hbyte i hi] at hb
      show grV v0 0 (H (i + 1)).length=_
      rw [(hH0 i hi (of_decide_eq_false hb)).1])
    (fun i _ h hb => by
      have hi:=dl h
      have hb:((byteN s i:Int) == (c.toNat:Int))=false:=hb
      rw [hbyte i hi] at hb
      show ((F (i + 1):Nat):Int)=_
      rw [(hH0 i hi (of_decide_eq_false hb)).2])
    (fun i _ h hb => by
      have hi:=dl h
      have hb:((byteN s i:Int) == (c.toNat:Int))=false:=hb
      rw [hbyte i hi] at hb
      show grS Cod.str [] (H (i + 1))=_
      rw [(hH0 i hi (of_decide_eq_false hb)).1])
    (fun j hj=>(ho j).1 hj)
  have hend : H s.size ++ [bytesB (lst (Q s.size))] = cutL c s := by
    have:Q s.size=spl c L:=by show spl c (L.take s.size)=_; rw [hl,List.take_length]
    show (Q s.size).dropLast.map bytesB ++ [bytesB (lst (Q s.size))]=_
    rw [show [bytesB (lst (Q s.size))]=[lst (Q s.size)].map bytesB from rfl,← List.map_append,this,front_lst (spl_ne c _)]
    rfl
  obtain ⟨r,σ',e1,e2,-⟩:=gr_end (A:=Cod.str) (lk := .clip) (sz0:=1) (σ1:=[]) (σ0:=[]) (H s.size ++ [bytesB (lst (Q s.size))])
  rw [hend] at e2
  refine ⟨r,[] ++ σ',M ((ho _).2 (Nat.le_refl _)) (bytesB (lst (Q s.size))) _ _ _ _ ?_ (grow_str (σ0:=[]) (.inr rfl) (hHl _ (by omega))) e1,e2⟩
  have h2:=(hsuf s.size (by omega)).2
  rw [slcF (k:=F s.size) (Nat.sub_le _ _)]
  rw [show s.data.toList.drop (F s.size)=lst (Q s.size) by rw [← h2,hl,List.take_length]]
end Go.Proofs.Sig
end
/- Signature: the reference's with, told. -/
section
open Go Go.Vm Go.Proofs
namespace Go.Proofs.Sig
/-- A signature with the symbol of a line's words, if they are one. -/
def withG (x:Sgn) (l:List ByteArray):Sgn :=
  if isK (nS l 0) kSort && ((↑l.length:Int) == 2) then { x with sorts:=x.sorts ++ [nS l 1] }
  else if isK (nS l 0) kCon && ((↑l.length:Int) == 3) then { x with consts:=x.consts ++ [⟨nS l 1,nS l 2⟩] }
  else if isK (nS l 0) kPre && decide ((↑l.length:Int) > 2) then { x with preds:=x.preds ++ [⟨nS l 1,l.drop 2⟩] }
  else x
def withF (x:Sgn) (line:ByteArray):Sgn:=withG x (cutL 32 line)
theorem isK_excl {s a b:ByteArray} (h:isK s a=true) (hab:a ≠ b):isK s b=false:=by
  cases hb:isK s b with
  | false=>rfl
  | true=>exact absurd ((eqB_iff.1 h).symm.trans (eqB_iff.1 hb)) hab
theorem kSC:kSort ≠ kCon:=by decide
theorem kSP:kSort ≠ kPre:=by decide
theorem kCP:kCon ≠ kPre:=by decide
variable [Fixed] {X:Ext} {call:Caller} {lf:Nat}
theorem endG {σ:List Ob} {us vs:List AV} {y:Sgn} (ht:AV.thawAll σ [.agg us]=some [.agg vs]) (hlt:∀ id ∈ AV.ownsAll [.agg us],id < σ.length∧0 ≤ id) (hd:cS.dec vs=some y):∃ r σ',vend1 [] 0 σ [.agg us]=some (r,σ')∧aG.dec r=some y:=by
  obtain ⟨σ',hf⟩:=freeze_ok _ _ hlt
  unfold vend1
  rw [ht,hf]
  exact ⟨_,_,rfl,hd⟩
theorem ro_dec {α:Type} (A:Cod α) (l:List α):A.list.dec [.list .ro l.length A.k (l.flatMap A.enc)]=some l:=A.list.de l
theorem cS_dec {a b c:AV} {x:Sgn} (h1:Cod.str.list.dec [a]=some x.sorts) (h2:cC.list.dec [b]=some x.consts) (h3:cP.list.dec [c]=some x.preds):cS.dec [a,b,c]=some x :=
  iso_dec (prod_dec (cs:=[a]) rfl h1 (prod_dec (cs:=[b]) (ds:=[c]) rfl h2 h3))
theorem dec_sV (x:Sgn):Cod.str.list.dec [strsV x.sorts]=some x.sorts:=by rw [← list_enc]; exact Cod.str.list.de x.sorts
theorem dec_cV (x:Sgn):cC.list.dec [cstsV x.consts]=some x.consts:=cC.list.de x.consts
theorem dec_pV (x:Sgn):cP.list.dec [prdsV x.preds]=some x.preds:=by rw [← aPs_enc]; exact cP.list.de x.preds
theorem owns_sV (x:Sgn):AV.owns (strsV x.sorts)=[]:=by simp [strsV,AV.owns,owns_strs]
theorem owns_cV (x:Sgn):AV.owns (cstsV x.consts)=[]:=(Cod.flat_owns (A:=cC) x.consts)
theorem owns_pV (x:Sgn):AV.owns (prdsV x.preds)=[]:=by
  have:=Cod.flat_owns (A:=cP) x.preds
  rw [cP_encs] at this
  exact this
abbrev nil3:Ob := .cells [.list .nil 0 0 [],.list .nil 0 0 [],.list .nil 0 0 []]
theorem get_row {α:Type} {A:Cod α} {a b:Ob} {l:List α} (h:l.length ≠ 0):(a::b::row A l)[2]? = some (.arr l.length A.k (l.flatMap A.enc)):=by
  show (row A l)[0]? = _
  rw [row_get _ h]; rfl
theorem lt_row {α:Type} {A:Cod α} {a b:Ob} {l:List α} (h:l.length ≠ 0):2 < (a::b::row A l).length:=by
  rw [row_get _ h]; simp
/-- ref21.with. -/
theorem with41 {x:Sgn} {s:ByteArray} {l:List ByteArray} (hk:okG x=true) (hl0:0 < l.length) (hl:l.length ≤ 4000000) (h40:∀ σ,callv X call false 40 [st s,.int .u8 32] σ 0=some (strsV l,σ)) :
    ∃ r σ',vbody Tryd.prog X call lf fg41 Tryd.f41 (codeOf Tryd.f41) [.agg (sgnC x),st s] [] 0=some (r,σ')∧aG.dec r=some (withG x l):=by
  obtain ⟨hns,hnc,hnp,hss,hcc,hpp⟩:=okG_iff.1 hk
  have hbig:big=140737488355328:=rfl
  let σ0:List Ob:=[Ob.cells (sgnC x),nil3]
  have hat0:∀ σ,keep σ (indexAddrv Tryd.prog 22 σ (strsV l) (i6 0))=some (.eaddr (st (nS l 0)::tS l 0),σ):=fun σ=>at_strs (i:=0) hl0
  have hat1:1 < l.length→∀ σ,keep σ (indexAddrv Tryd.prog 22 σ (strsV l) (i6 1))=some (.eaddr (st (nS l 1)::tS l 1),σ):=fun h σ=>at_strs (i:=1) h
  have hat2:2 < l.length→∀ σ,keep σ (indexAddrv Tryd.prog 22 σ (strsV l) (i6 2))=some (.eaddr (st (nS l 2)::tS l 2),σ):=fun h σ=>at_strs (i:=2) h
  have hout : ∃ r σ', vend1 [] 0 [Ob.cells (sgnC x), Ob.cells (sgnC x)] [.agg (sgnC x)] = some (r, σ') ∧ aG.dec r = some x :=
    ⟨_,_,vend1_plain (by show AV.owns (strsV x.sorts) ++ (AV.owns (cstsV x.consts) ++ (AV.owns (prdsV x.preds) ++ [])) ++ []=[]; rw [owns_sV,owns_cV,owns_pV]; rfl),aG_dec x⟩
  unfold withG
  cases k1:isK (nS l 0) kSort with
  | true =>
    have n1:=isK_excl k1 kSC
    have n2:=isK_excl k1 kSP
    cases e1:((↑l.length:Int) == 2) with
    | true =>
      have hlen:l.length=2:=by have:=beq_iff_eq.1 e1; omega
      have g:=gr_step (A:=Cod.str) (t:=22) (e:=9) (kb:=16) rowS (lk := .clip) (sz0:=1) (.inr rfl) (σ0:=σ0) (l:=[]) (m:=x.sorts) (x:=strsV x.sorts) (appended_strs x.sorts) (by show _ ≤ 140737488355328; simp only [List.length_nil]; omega)
      have g2:=grow_str (σ0:=σ0) (lk := .clip) (.inr rfl) (sz0:=1) (l:=x.sorts) (s:=nS l 1) (by omega)
      rw [grS_row,grS_row,grV_own (len1 _ _)] at g2
      rw [List.nil_append,grS_row,grS_row] at g
      obtain ⟨r, σ', hv, hd⟩ := endG (σ := Ob.cells [.own 2 (x.sorts ++ [nS l 1]).length, cstsV x.consts, prdsV x.preds] :: Ob.cells [.own 2 (x.sorts ++ [nS l 1]).length, cstsV x.consts, prdsV x.preds] :: row Cod.str (x.sorts ++ [nS l 1])) (us := [.own 2 (x.sorts ++ [nS l 1]).length, cstsV x.consts, prdsV x.preds]) (vs := [.list .ro (x.sorts ++ [nS l 1]).length Cod.str.k ((x.sorts ++ [nS l 1]).flatMap Cod.str.enc), cstsV x.consts, prdsV x.preds]) (y := { x with sorts := x.sorts ++ [nS l 1] })
        (by simp only [AV.thawAll,AV.thaw,get_row (len1 x.sorts (nS l 1)),if_true,thaw_id _ (owns_cV x),thaw_id _ (owns_pV x)])
        (by
          intro id hid
          simp only [AV.ownsAll,AV.owns,owns_cV,owns_pV,List.append_nil,List.mem_singleton] at hid
          subst hid
          exact ⟨lt_row (len1 x.sorts (nS l 1)),Nat.zero_le _⟩)
        (cS_dec (ro_dec Cod.str _) (dec_cV x) (dec_pV x))
      exact ⟨r,σ',f41_ptt x s l _ (row Cod.str x.sorts) 2 _ (row Cod.str (x.sorts ++ [nS l 1])) X call lf (nS l 0) (tS l 0) (nS l 1) (tS l 1) r σ' (h40 _) (hat0 _) k1 e1 g (hat1 (by omega) _) g2 hv,hd⟩
    | false =>
      rw [n1,n2]
      obtain ⟨r,σ',hv,hd⟩:=hout
      exact ⟨r,σ',f41_ptfff x s l X call lf (nS l 0) (tS l 0) (nS l 0) (tS l 0) (nS l 0) (tS l 0) r σ' (h40 _) (hat0 _) k1 e1 (hat0 _) n1 (hat0 _) n2 hv,hd⟩
  | false =>
    cases k2:isK (nS l 0) kCon with
    | true =>
      have n2:=isK_excl k2 kCP
      cases e1:((↑l.length:Int) == 3) with
      | true =>
        have hlen:l.length=3:=by have:=beq_iff_eq.1 e1; omega
        let c:Cst:=⟨nS l 1,nS l 2⟩
        have g:=gr_step (A:=cC) (t:=23) (e:=48) (kb:=32) rowC (lk := .clip) (sz0:=2) (.inr rfl) (σ0:=σ0) (l:=[]) (m:=x.consts) (x:=cstsV x.consts) (appended_row x.consts) (by show _ ≤ 140737488355328; simp only [List.length_nil]; omega)
        have g2:=gr_step (A:=cC) (t:=23) (e:=48) (kb:=32) rowC (lk := .clip) (sz0:=2) (.inr rfl) (σ0:=σ0) (l:=x.consts) (m:=[c]) (x := .list .clip 1 2 [st (nS l 1),st (nS l 2)]) (appended_row [c]) (by show _ ≤ 140737488355328; simp only [List.length_cons,List.length_nil]; omega)
        rw [grS_row,grS_row,grV_own (len1 _ _)] at g2
        rw [List.nil_append,grS_row,grS_row] at g
        obtain ⟨r, σ', hv, hd⟩ := endG (σ := Ob.cells [strsV x.sorts, .own 2 (x.consts ++ [c]).length, prdsV x.preds] :: Ob.cells [strsV x.sorts, .own 2 (x.consts ++ [c]).length, prdsV x.preds] :: row cC (x.consts ++ [c])) (us := [strsV x.sorts, .own 2 (x.consts ++ [c]).length, prdsV x.preds]) (vs := [strsV x.sorts, .list .ro (x.consts ++ [c]).length cC.k ((x.consts ++ [c]).flatMap cC.enc), prdsV x.preds]) (y := { x with consts := x.consts ++ [c] })
          (by simp only [AV.thawAll,AV.thaw,get_row (len1 x.consts c),if_true,thaw_id _ (owns_sV x),thaw_id _ (owns_pV x)])
          (by
            intro id hid
            simp only [AV.ownsAll,AV.owns,owns_sV,owns_pV,List.append_nil,List.nil_append,List.mem_singleton] at hid
            subst hid
            exact ⟨lt_row (len1 x.consts c),Nat.zero_le _⟩)
          (cS_dec (dec_sV x) (ro_dec cC _) (dec_pV x))
        exact ⟨r,σ',f41_pftt x s l _ (row cC x.consts) 2 _ (row cC (x.consts ++ [c])) X call lf (nS l 0) (tS l 0) (nS l 0) (tS l 0) (nS l 1) (tS l 1) (nS l 2) (tS l 2) r σ' (h40 _) (hat0 _) k1 (hat0 _) k2 e1 g (hat1 (by omega) _) (hat2 (by omega) _) g2 hv,hd⟩
      | false =>
        rw [n2]
        obtain ⟨r,σ',hv,hd⟩:=hout
        exact ⟨r,σ',f41_pftff x s l X call lf (nS l 0) (tS l 0) (nS l 0) (tS l 0) (nS l 0) (tS l 0) r σ' (h40 _) (hat0 _) k1 (hat0 _) k2 e1 (hat0 _) n2 hv,hd⟩
    | false =>
      cases k3:isK (nS l 0) kPre with
      | true =>
        cases e1:decide ((↑l.length:Int) > 2) with
        | true =>
          have hlen:2 < l.length:=by have:=of_decide_eq_true e1; omega
          let c:Prd:=⟨nS l 1,l.drop 2⟩
          have hap : ∀ (σ : List Ob) (lk : LK) (m : List Prd), appended σ cP.k (.list lk m.length 2 (m.flatMap prdC)) = some (m.length, m.flatMap cP.enc) := fun σ lk m => by
            have:=appended_row (A:=cP) (σ:=σ) (lk:=lk) m
            rw [cP_encs] at this ⊢
            exact this
          have g:=gr_step (A:=cP) (t:=24) (e:=37) (kb:=40) rowP (lk := .clip) (sz0:=2) (.inr rfl) (σ0:=σ0) (l:=[]) (m:=x.preds) (x:=prdsV x.preds) (hap _ .ro x.preds) (by show _ ≤ 140737488355328; simp only [List.length_nil]; omega)
          have g2:=gr_step (A:=cP) (t:=24) (e:=37) (kb:=40) rowP (lk := .clip) (sz0:=2) (.inr rfl) (σ0:=σ0) (l:=x.preds) (m:=[c]) (x := .list .clip 1 2 [st (nS l 1),strsV (l.drop 2)]) (hap _ .clip [c]) (by show _ ≤ 140737488355328; simp only [List.length_cons,List.length_nil]; omega)
          rw [grS_row,grS_row,grV_own (len1 _ _)] at g2
          rw [List.nil_append,grS_row,grS_row] at g
          have hb : bsl Tryd.prog 24 1 [] true 0 [(0, AV.agg [st (nS l 1), strsV (l.drop 2)])] = some (AV.list .clip 1 2 [st (nS l 1), strsV (l.drop 2)], []) := by
            generalize l.drop 2=m
            unfold bsl byValue
            rw [if_pos (by simp [AV.owns,AV.ownsAll,strsV,owns_strs])]
            kernel_rfl
          obtain ⟨r, σ', hv, hd⟩ := endG (σ := Ob.cells [strsV x.sorts, cstsV x.consts, .own 2 (x.preds ++ [c]).length] :: Ob.cells [strsV x.sorts, cstsV x.consts, .own 2 (x.preds ++ [c]).length] :: row cP (x.preds ++ [c])) (us := [strsV x.sorts, cstsV x.consts, .own 2 (x.preds ++ [c]).length]) (vs := [strsV x.sorts, cstsV x.consts, .list .ro (x.preds ++ [c]).length cP.k ((x.preds ++ [c]).flatMap cP.enc)]) (y := { x with preds := x.preds ++ [c] })
            (by simp only [AV.thawAll,AV.thaw,get_row (len1 x.preds c),if_true,thaw_id _ (owns_sV x),thaw_id _ (owns_cV x)])
            (by
              intro id hid
              simp only [AV.ownsAll,AV.owns,owns_sV,owns_cV,List.append_nil,List.nil_append,List.mem_singleton] at hid
              subst hid
              exact ⟨lt_row (len1 x.preds c),Nat.zero_le _⟩)
            (cS_dec (dec_sV x) (dec_cV x) (ro_dec cP _))
          exact ⟨r,σ',f41_pfftt x s l _ (row cP x.preds) 2 _ (row cP (x.preds ++ [c])) X call lf (nS l 0) (tS l 0) (nS l 0) (tS l 0) (nS l 0) (tS l 0) (nS l 1) (tS l 1) (l.drop 2) .ro 1 [st (nS l 1),strsV (l.drop 2)] .clip r σ' (h40 _) (hat0 _) k1 (hat0 _) k2 (hat0 _) k3 e1 g (hat1 (by omega) _) (slc_two (by omega)) hb g2 hv,hd⟩
        | false =>
          obtain ⟨r,σ',hv,hd⟩:=hout
          exact ⟨r,σ',f41_pfftf x s l X call lf (nS l 0) (tS l 0) (nS l 0) (tS l 0) (nS l 0) (tS l 0) r σ' (h40 _) (hat0 _) k1 (hat0 _) k2 (hat0 _) k3 e1 hv,hd⟩
      | false =>
        obtain ⟨r,σ',hv,hd⟩:=hout
        exact ⟨r,σ',f41_pfff x s l X call lf (nS l 0) (tS l 0) (nS l 0) (tS l 0) (nS l 0) (tS l 0) r σ' (h40 _) (hat0 _) k1 (hat0 _) k2 (hat0 _) k3 hv,hd⟩
end Go.Proofs.Sig
end
/- Signature: the reference's Text, told. -/
section
open Go Go.Vm Go.Proofs
namespace Go.Proofs.Sig
abbrev tailW (ws:List ByteArray):List UInt8:=ws.flatMap fun w=>32::w.data.toList
/-- A line of a text. -/
def lineL (k:ByteArray) (ws:List ByteArray):List UInt8:=k.data.toList ++ (tailW ws ++ [10])
def lnS (s:ByteArray):List UInt8:=lineL kSort [s]
def lnC (c:Cst):List UInt8:=lineL kCon [c.name,c.sort]
def lnP (p:Prd):List UInt8:=lineL kPre (p.name::p.args)
def textL (x:Sgn):List UInt8:=x.sorts.flatMap lnS ++ (x.consts.flatMap lnC ++ x.preds.flatMap lnP)
def textF (x:Sgn):ByteArray:=bytesB (textL x)
theorem flat_succ {α β:Type} (d:α) (f:α→List β) (l:List α) (i:Nat) (h:i < l.length):(l.take (i + 1)).flatMap f=(l.take i).flatMap f ++ f (l.getD i d):=by
  rw [List.take_succ_eq_append_getElem h,List.flatMap_append,getD_lt h]; simp
theorem flat_le {α β:Type} (f:α→List β) (l:List α) (i:Nat):((l.take i).flatMap f).length ≤ (l.flatMap f).length:=by
  have:l.flatMap f=(l.take i).flatMap f ++ (l.drop i).flatMap f:=by rw [← List.flatMap_append,List.take_append_drop]
  rw [this,List.length_append]; omega
theorem append_mk (x y:ByteArray):x ++ y=bytesB (x.data.toList ++ y.data.toList):=by
  apply Go.WideShapes.bytes_inj
  rw [bytesB_data,ByteArray.data_append,Array.toList_append]
theorem addB {x y:ByteArray} {a b:List UInt8} {σ:List Ob} (hx:x.data.toList=a) (hy:y.data.toList=b) (h:a.length + b.length ≤ big):keep σ (binv Tryd.prog BinOp.add 9 (st x) (st y))=some (st (bytesB (a ++ b)),σ):=by
  have h' : a.length + b.length ≤ 140737488355328:=h
  have hs : ¬ (((x.size + y.size : Nat) : Int) > IntKind.i64.max) := by
    rw [size_list,size_list,hx,hy]
    show ¬ (_ > (9223372036854775807:Int))
    omega
  rw [← hx,← hy,← append_mk]
  show keep σ (strOp .add x y)=_
  unfold strOp
  simp only
  rw [if_neg hs]
  rfl
variable [Fixed] {X:Ext} {call:Caller} {lf:Nat}
/-- ref21.Text. -/
theorem text29 {x:Sgn} (hk:okG x=true) (ht:(textL x).length ≤ 1000000000) (hlf:1000001 < lf):∃ σ',vbody Tryd.prog X call lf fg29 Tryd.f29 (codeOf Tryd.f29) [.agg (sgnC x)] [] 0=some (st (textF x),σ'):=by
  obtain ⟨hns,hnc,hnp,hss,hcc,hpp⟩:=okG_iff.1 hk
  have hbig:big=140737488355328:=rfl
  have hlS:∀ s:ByteArray,(lnS s).length=s.data.toList.length + 6:=fun s=>by simp [lnS,lineL,tailW,kSort]
  have hlC:∀ c:Cst,(lnC c).length=c.name.data.toList.length + c.sort.data.toList.length + 11:=fun c=>by simp [lnC,lineL,tailW,kCon]; omega
  have hsum:(textL x).length=(x.sorts.flatMap lnS).length + ((x.consts.flatMap lnC).length + (x.preds.flatMap lnP).length):=by rw [textL,List.length_append,List.length_append]
  let A0:Nat→List UInt8:=fun i=>(x.sorts.take i).flatMap lnS
  let A1:Nat→List UInt8:=fun i=>x.sorts.flatMap lnS ++ (x.consts.take i).flatMap lnC
  let A2:Nat→List UInt8:=fun i=>x.sorts.flatMap lnS ++ (x.consts.flatMap lnC ++ (x.preds.take i).flatMap lnP)
  have hA0 : ∀ i, i < x.sorts.length → A0 (i + 1) = A0 i ++ lnS (nS x.sorts i) ∧ (A0 i).length + (lnS (nS x.sorts i)).length ≤ 1000000000 := fun i hi => by
    have e:(x.sorts.take (i + 1)).flatMap lnS=(x.sorts.take i).flatMap lnS ++ lnS (nS x.sorts i):=flat_succ emp lnS x.sorts i hi
    refine ⟨e,?_⟩
    have:=flat_le lnS x.sorts (i + 1)
    rw [e,List.length_append] at this
    show ((x.sorts.take i).flatMap lnS).length + _ ≤ _
    omega
  have hA1 : ∀ i, i < x.consts.length → A1 (i + 1) = A1 i ++ lnC (nC x.consts i) ∧ (A1 i).length + (lnC (nC x.consts i)).length ≤ 1000000000 := fun i hi => by
    have e:(x.consts.take (i + 1)).flatMap lnC=(x.consts.take i).flatMap lnC ++ lnC (nC x.consts i):=flat_succ d0C lnC x.consts i hi
    refine ⟨by show _ ++ _=(_ ++ _) ++ _; rw [e,List.append_assoc],?_⟩
    have:=flat_le lnC x.consts (i + 1)
    rw [e,List.length_append] at this
    show (x.sorts.flatMap lnS ++ (x.consts.take i).flatMap lnC).length + _ ≤ _
    rw [List.length_append]
    omega
  have hA2 : ∀ i, i < x.preds.length → A2 (i + 1) = A2 i ++ lnP (nP x.preds i) ∧ (A2 i).length + (lnP (nP x.preds i)).length ≤ 1000000000 := fun i hi => by
    have e:(x.preds.take (i + 1)).flatMap lnP=(x.preds.take i).flatMap lnP ++ lnP (nP x.preds i):=flat_succ d0P lnP x.preds i hi
    refine ⟨by show _ ++ (_ ++ _)=(_ ++ (_ ++ _)) ++ _; rw [e]; simp only [List.append_assoc],?_⟩
    have:=flat_le lnP x.preds (i + 1)
    rw [e,List.length_append] at this
    show (x.sorts.flatMap lnS ++ (x.consts.flatMap lnC ++ (x.preds.take i).flatMap lnP)).length + _ ≤ _
    rw [List.length_append,List.length_append]
    omega
  have o0 : ∀ i, (i < x.sorts.length → f29_o0 x i = 0) ∧ (x.sorts.length ≤ i → f29_o0 x i = 1) := fun i => by
    unfold f29_o0
    exact ⟨fun a=>by rw [dt a],fun a=>by rw [df a]⟩
  have o1 : ∀ i, (i < x.consts.length → f29_o1 x i = 0) ∧ (x.consts.length ≤ i → f29_o1 x i = 1) := fun i => by
    unfold f29_o1
    exact ⟨fun a=>by rw [dt a],fun a=>by rw [df a]⟩
  have o2 : ∀ i, (i < x.preds.length → f29_o2 x i = 0) ∧ (x.preds.length ≤ i → f29_o2 x i = 1) := fun i => by
    unfold f29_o2
    exact ⟨fun a=>by rw [dt a],fun a=>by rw [df a]⟩
  have o3 : ∀ (l : List ByteArray) i, (i < l.length → f29_o3 l i = 0) ∧ (l.length ≤ i → f29_o3 l i = 1) := fun l i => by
    unfold f29_o3
    exact ⟨fun a=>by rw [dt a],fun a=>by rw [df a]⟩
  have B0 := fun i => f29_B0 x X call lf (fun i => bytesB (A0 i)) i (nS x.sorts i) (tS x.sorts i) (bytesB ([115, 111, 114, 116, 32] ++ (nS x.sorts i).data.toList)) (bytesB (([115, 111, 114, 116, 32] ++ (nS x.sorts i).data.toList) ++ [10])) (bytesB (A0 i ++ (([115, 111, 114, 116, 32] ++ (nS x.sorts i).data.toList) ++ [10])))
    (fun h=>at_strs (dlt h))
    (fun h => by
      have:=(hA0 i (dlt h)).2; rw [hlS] at this
      exact addB rfl rfl (by simp only [List.length_cons,List.length_nil]; omega))
    (fun h => by
      have:=(hA0 i (dlt h)).2; rw [hlS] at this
      exact addB rfl rfl (by simp only [List.length_append,List.length_cons,List.length_nil]; omega))
    (fun h => by
      have:=(hA0 i (dlt h)).2; rw [hlS] at this
      exact addB rfl rfl (by simp only [List.length_append,List.length_cons,List.length_nil]; omega))
    (fun h => by
      show bytesB (A0 (i + 1))=_
      rw [(hA0 i (dlt h)).1]
      simp [lnS,lineL,tailW,kSort])
    (fun h=>up (dlt h) (by omega))
  have l0:=f29_L0 x (fun i=>bytesB (A0 i)) X call lf x.sorts.length _ _ rfl (by omega) (fun j hj=>(B0 j).1 ((o0 j).1 hj)) ((B0 _).2 ((o0 _).2 (Nat.le_refl _))) (by simp)
  have B1 := fun i => f29_B1 x X call lf x.sorts.length (fun i => bytesB (A1 i)) i (nC x.consts i).name (nC x.consts i).sort (tC x.consts i)
    (bytesB ([99,111,110,115,116,97,110,116,32] ++ (nC x.consts i).name.data.toList)) (bytesB (([99,111,110,115,116,97,110,116,32] ++ (nC x.consts i).name.data.toList) ++ [32])) (bytesB ((([99,111,110,115,116,97,110,116,32] ++ (nC x.consts i).name.data.toList) ++ [32]) ++ (nC x.consts i).sort.data.toList)) (bytesB (((([99,111,110,115,116,97,110,116,32] ++ (nC x.consts i).name.data.toList) ++ [32]) ++ (nC x.consts i).sort.data.toList) ++ [10])) (bytesB (A1 i ++ (((([99,111,110,115,116,97,110,116,32] ++ (nC x.consts i).name.data.toList) ++ [32]) ++ (nC x.consts i).sort.data.toList) ++ [10])))
    (fun h=>at_cst (dlt h))
    (fun h => by
      have:=(hA1 i (dlt h)).2; rw [hlC] at this
      exact addB rfl rfl (by simp only [List.length_cons,List.length_nil]; omega))
    (fun h => by
      have:=(hA1 i (dlt h)).2; rw [hlC] at this
      exact addB rfl rfl (by simp only [List.length_append,List.length_cons,List.length_nil]; omega))
    (fun h => by
      have:=(hA1 i (dlt h)).2; rw [hlC] at this
      exact addB rfl rfl (by simp only [List.length_append,List.length_cons,List.length_nil]; omega))
    (fun h => by
      have:=(hA1 i (dlt h)).2; rw [hlC] at this
      exact addB rfl rfl (by simp only [List.length_append,List.length_cons,List.length_nil]; omega))
    (fun h => by
      have:=(hA1 i (dlt h)).2; rw [hlC] at this
      exact addB rfl rfl (by simp only [List.length_append,List.length_cons,List.length_nil]; omega))
    (fun h => by
      show bytesB (A1 (i + 1))=_
      rw [(hA1 i (dlt h)).1]
      simp [lnC,lineL,tailW,kCon])
    (fun h=>up (dlt h) (by omega))
  have l1:=f29_L1 x (fun i=>bytesB (A0 i)) x.sorts.length (fun i=>bytesB (A1 i)) X call lf x.consts.length _ _ (by show bytesB (x.sorts.flatMap lnS ++ [])=bytesB ((x.sorts.take _).flatMap lnS); rw [List.append_nil,List.take_length]) (by omega) (fun j hj=>(B1 j).1 ((o1 j).1 hj)) ((B1 _).2 ((o1 _).2 (Nat.le_refl _))) (by simp)
  have B2 : ∀ i, i < x.preds.length → ∃ Sx, vexec Tryd.prog X call lf 0 fg29 (loopN Tryd.f29 2) (f29_F2 x x.sorts.length x.consts.length (fun i => bytesB (A2 i)) i) = some (Ex.normal, Sx) ∧ forget f29_D2 Sx = f29_F2 x x.sorts.length x.consts.length (fun i => bytesB (A2 i)) (i + 1) := by
    intro i hi
    obtain ⟨e,hle⟩:=hA2 i hi
    have hp:=(hpp (nP x.preds i) (by rw [nP,getD_lt hi]; exact List.getElem_mem hi)).2.1
    generalize hpe:nP x.preds i=p at e hle hp
    have hlP:(lnP p).length=p.name.data.toList.length + (tailW p.args).length + 11:=by simp [lnP,lineL,tailW,kPre]; omega
    let C:Nat→List UInt8:=fun j=>(A2 i ++ ([112,114,101,100,105,99,97,116,101,32] ++ p.name.data.toList)) ++ tailW (p.args.take j)
    have hC : ∀ j, j < p.args.length → C (j + 1) = C j ++ ([32] ++ (nS p.args j).data.toList) ∧ (C j).length + ((nS p.args j).data.toList.length + 1) ≤ 1000000000 := fun j hj => by
      have e2:tailW (p.args.take (j + 1))=tailW (p.args.take j) ++ (32::(nS p.args j).data.toList):=flat_succ emp (fun w:ByteArray=>(32:UInt8)::w.data.toList) p.args j hj
      have hle2:(tailW (p.args.take (j + 1))).length ≤ (tailW p.args).length:=flat_le (fun w:ByteArray=>(32:UInt8)::w.data.toList) p.args (j + 1)
      refine ⟨by show _ ++ tailW _=(_ ++ tailW _) ++ _; rw [e2,← List.append_assoc]; rfl,?_⟩
      rw [e2,List.length_append,List.length_cons] at hle2
      show ((A2 i ++ ([112,114,101,100,105,99,97,116,101,32] ++ p.name.data.toList)) ++ tailW (p.args.take j)).length + _ ≤ _
      simp only [List.length_append,List.length_cons,List.length_nil]
      have:(tailW (p.args.take j)).length + ((nS p.args j).data.toList.length + 1) ≤ (tailW p.args).length:=hle2
      omega
    have B3 := fun j => f29_B3 x X call lf x.sorts.length x.consts.length (fun i => bytesB (A2 i)) i p.name p.args (tP x.preds i) (bytesB ([112, 114, 101, 100, 105, 99, 97, 116, 101, 32] ++ p.name.data.toList)) (bytesB (A2 i ++ ([112, 114, 101, 100, 105, 99, 97, 116, 101, 32] ++ p.name.data.toList))) (fun j => bytesB (C j)) j (nS p.args j) (tS p.args j) (bytesB ([32] ++ (nS p.args j).data.toList)) (bytesB (C j ++ ([32] ++ (nS p.args j).data.toList)))
      (fun h=>at_strs (dlt h))
      (fun h => by
        have:=(hC j (dlt h)).2
        exact addB rfl rfl (by simp only [List.length_cons,List.length_nil]; omega))
      (fun h => by
        have:=(hC j (dlt h)).2
        exact addB rfl rfl (by simp only [List.length_append,List.length_cons,List.length_nil]; omega))
      (fun h=>by show bytesB (C (j + 1))=_; rw [(hC j (dlt h)).1])
      (fun h=>up (dlt h) (by omega))
    have l3:=f29_L3 x x.sorts.length x.consts.length (fun i=>bytesB (A2 i)) i p.name p.args (tP x.preds i) (bytesB ([112,114,101,100,105,99,97,116,101,32] ++ p.name.data.toList)) (bytesB (A2 i ++ ([112,114,101,100,105,99,97,116,101,32] ++ p.name.data.toList))) (fun j=>bytesB (C j)) X call lf p.args.length _ _ (by show bytesB (_ ++ tailW [])=_; simp only [tailW,List.flatMap_nil,List.append_nil]) (by omega) (fun j hj=>(B3 j).1 ((o3 _ j).1 hj)) ((B3 _).2 ((o3 _ _).2 (Nat.le_refl _))) (by simp)
    have hat:=at_prd (σ:=[Ob.cells (sgnC x)]) (lk := .ro) hi
    rw [hpe] at hat
    have hCl:C p.args.length=A2 i ++ ([112,114,101,100,105,99,97,116,101,32] ++ p.name.data.toList) ++ tailW p.args:=by show _ ++ tailW (p.args.take _)=_; rw [List.take_length]
    exact f29_s2_tlf x X call lf x.sorts.length x.consts.length (fun i => bytesB (A2 i)) i p.name p.args (tP x.preds i) _ _ (fun j => bytesB (C j)) p.args.length (bytesB (C p.args.length ++ [10])) (dt hi) hat
      (addB (a:=[112,114,101,100,105,99,97,116,101,32]) (b:=p.name.data.toList) rfl rfl (by simp only [List.length_cons,List.length_nil]; omega)) (addB (a:=A2 i) (b:=[112,114,101,100,105,99,97,116,101,32] ++ p.name.data.toList) rfl rfl (by simp only [List.length_append,List.length_cons,List.length_nil]; omega)) l3
      (addB (a:=C p.args.length) (b:=[10]) rfl rfl (by rw [hCl]; simp only [List.length_append,List.length_cons,List.length_nil]; omega))
      (by show bytesB (A2 (i + 1))=_; rw [e,hCl]; simp [lnP,lineL,tailW,kPre]) (up hi (by omega))
  have l2:=f29_L2 x x.sorts.length (fun i=>bytesB (A1 i)) x.consts.length (fun i=>bytesB (A2 i)) X call lf x.preds.length _ _ (by show bytesB (_ ++ (_ ++ []))=bytesB (_ ++ (x.consts.take _).flatMap lnC); rw [List.append_nil,List.take_length]) (by omega) B2 (f29_r2_f x X call lf _ _ _ _ (df (Nat.le_refl _))) (by simp)
  have P:=f29_plflflf x X call lf (fun i=>bytesB (A0 i)) x.sorts.length (fun i=>bytesB (A1 i)) x.consts.length (fun i=>bytesB (A2 i)) x.preds.length l0 l1 l2
  have hend : bytesB (A2 x.preds.length) = textF x := by
    show bytesB (_ ++ (_ ++ (x.preds.take _).flatMap lnP))=_
    rw [List.take_length]; rfl
  simp only [hend] at P
  exact ⟨_,P⟩
end Go.Proofs.Sig
end
/- Signature: plain laws of the reference's Parse. -/
section
open Go Go.Vm Go.Proofs
namespace Go.Proofs.Sig
theorem spl_join (c:UInt8):∀ (l:List UInt8) {x:List UInt8} {r:List (List UInt8)},spl c l=x::r→l=x ++ r.flatMap (c :: ·)
  | [], x, r, h => by
    simp only [spl,List.cons.injEq] at h
    obtain ⟨rfl,rfl⟩:=h
    rfl
  | b :: l, x, r, h => by
    obtain ⟨y,q,e⟩:=List.exists_cons_of_ne_nil (spl_ne c l)
    have ih:=spl_join c l e
    rw [spl,e] at h
    by_cases hb:b=c
    · simp only [hb, if_true, List.cons.injEq] at h
      obtain ⟨rfl,rfl⟩:=h
      rw [hb,List.flatMap_cons,List.nil_append,List.cons_append,← ih]
    · simp only [hb, if_false, List.cons.injEq] at h
      obtain ⟨rfl,rfl⟩:=h
      rw [List.cons_append,← ih]
/-- A line is its words, with blanks between. -/
theorem line_of {line w:ByteArray} {ws:List ByteArray} (h:cutL 32 line=w::ws):lineL w ws=line.data.toList ++ [10]:=by
  unfold cutL at h
  obtain ⟨x,r,e⟩:=List.exists_cons_of_ne_nil (spl_ne 32 line.data.toList)
  rw [e,List.map_cons,List.cons.injEq] at h
  obtain ⟨rfl,rfl⟩:=h
  rw [spl_join 32 _ e]
  unfold lineL tailW
  rw [List.flatMap_map,List.append_assoc]
  rfl
theorem cutL_ne (c:UInt8) (s:ByteArray):cutL c s ≠ []:=by
  unfold cutL
  intro h
  exact spl_ne c _ (List.map_eq_nil_iff.1 h)
theorem list2 {l:List ByteArray} (h:((↑l.length:Int) == 2)=true):l=[nS l 0,nS l 1]:=by
  have:l.length=2:=by have:=beq_iff_eq.1 h; omega
  match l,this with
  | [a,b],_=>rfl
theorem list3 {l:List ByteArray} (h:((↑l.length:Int) == 3)=true):l=[nS l 0,nS l 1,nS l 2]:=by
  have:l.length=3:=by have:=beq_iff_eq.1 h; omega
  match l,this with
  | [a,b,c],_=>rfl
theorem listN {l:List ByteArray} (h:decide ((↑l.length:Int) > 2)=true):l=nS l 0::nS l 1::l.drop 2∧l.drop 2 ≠ []:=by
  have:2 < l.length:=by have:=of_decide_eq_true h; omega
  match l,this with
  | a::b::c::r,_=>exact ⟨rfl,by simp⟩
inductive With (x:Sgn) (line:ByteArray):Sgn→Prop
  | none:With x line x
  | sort (s:ByteArray) (h:lnS s=line.data.toList ++ [10]) (hl:cutL 32 line=[kSort,s]):With x line { x with sorts:=x.sorts ++ [s] }
  | con (c:Cst) (h:lnC c=line.data.toList ++ [10]) (hl:cutL 32 line=[kCon,c.name,c.sort]):With x line { x with consts:=x.consts ++ [c] }
  | pre (p:Prd) (h:lnP p=line.data.toList ++ [10]) (hl:cutL 32 line=kPre::p.name::p.args) (hn:p.args ≠ []):With x line { x with preds:=x.preds ++ [p] }
theorem isK_eq {k s:ByteArray} (h:isK k s=true):k=s:=eqB_iff.1 h
theorem with_cases (x:Sgn) (line:ByteArray):With x line (withF x line):=by
  unfold withF
  generalize hl:cutL 32 line=l
  unfold withG
  split
  · rename_i h
    rw [Bool.and_eq_true] at h
    have e:=list2 h.2
    rw [isK_eq h.1] at e
    exact .sort _ (line_of (hl.trans e)) (hl.trans e)
  · split
    · rename_i h
      rw [Bool.and_eq_true] at h
      have e:=list3 h.2
      rw [isK_eq h.1] at e
      exact .con ⟨_,_⟩ (line_of (hl.trans e)) (hl.trans e)
    · split
      · rename_i h
        rw [Bool.and_eq_true] at h
        obtain ⟨e,hn⟩:=listN h.2
        rw [isK_eq h.1] at e
        exact .pre ⟨_,_⟩ (line_of (hl.trans e)) (hl.trans e) hn
      · exact .none
theorem textL_sort (x:Sgn) (s:ByteArray):textL { x with sorts:=x.sorts ++ [s] }=x.sorts.flatMap lnS ++ (lnS s ++ (x.consts.flatMap lnC ++ x.preds.flatMap lnP)):=by
  simp [textL,List.flatMap_append]
theorem textL_con (x:Sgn) (c:Cst):textL { x with consts:=x.consts ++ [c] }=x.sorts.flatMap lnS ++ (x.consts.flatMap lnC ++ (lnC c ++ x.preds.flatMap lnP)):=by
  simp [textL,List.flatMap_append]
theorem textL_pre (x:Sgn) (p:Prd):textL { x with preds:=x.preds ++ [p] }=textL x ++ lnP p:=by
  simp [textL,List.flatMap_append]
/-- What stands after n lines of w bytes. -/
structure OkW (x:Sgn) (n w:Nat):Prop where
  n:x.sorts.length + x.consts.length + x.preds.length ≤ n
  t:(textL x).length ≤ w
  s:∀ s ∈ x.sorts,s.size ≤ mega
  c:∀ c ∈ x.consts,c.name.size ≤ mega∧c.sort.size ≤ mega
  p:∀ p ∈ x.preds,p.name.size ≤ mega∧p.args.length ≤ mega∧∀ a ∈ p.args,a.size ≤ mega
theorem OkW.ok {x:Sgn} {n w:Nat} (h:OkW x n w) (hn:n ≤ mega):okG x=true:=okP_ok ⟨h.n,h.s,h.c,h.p⟩ hn
theorem okW_nil:OkW eG 0 0:=⟨Nat.le_refl _,Nat.le_refl _,fun _ h=>(by cases h),fun _ h=>(by cases h),fun _ h=>(by cases h)⟩
theorem args_len (l:List ByteArray):l.length ≤ (tailW l).length:=by
  induction l with
  | nil=>simp
  | cons a l ih=>simp only [tailW,List.flatMap_cons,List.length_append,List.length_cons] at ih ⊢; omega
theorem arg_len {l:List ByteArray} {a:ByteArray} (h:a ∈ l):a.size + 1 ≤ (tailW l).length:=by
  induction l with
  | nil=>cases h
  | cons b l ih =>
    simp only [tailW,List.flatMap_cons,List.length_append,List.length_cons] at ih ⊢
    rcases List.mem_cons.1 h with rfl | h
    · rw [size_list]; omega
    · have:=ih h; omega
theorem OkW.step {x:Sgn} {n w:Nat} {line:ByteArray} (h:OkW x n w) (hl:line.data.toList.length ≤ mega):OkW (withF x line) (n + 1) (w + (line.data.toList.length + 1)):=by
  obtain ⟨h1,h2,h3,h4,h5⟩:=h
  have hw:=with_cases x line
  generalize withF x line=y at hw ⊢
  cases hw with
  | none=>exact ⟨by omega,by omega,h3,h4,h5⟩
  | sort s e _ =>
    have el:(lnS s).length=line.data.toList.length + 1:=by rw [e,List.length_append]; rfl
    have es:(lnS s).length=s.data.toList.length + 6:=by simp [lnS,lineL,tailW,kSort]
    refine ⟨by show (x.sorts ++ [s]).length + _ + _ ≤ _; rw [List.length_append]; simp only [List.length_cons,List.length_nil]; omega,?_,fun a ha => ?_,h4,h5⟩
    · rw [textL_sort]
      simp only [textL,List.length_append] at h2 ⊢
      omega
    · rcases List.mem_append.1 ha with ha | ha
      · exact h3 a ha
      · rw [List.mem_singleton.1 ha, size_list]
        omega
  | con c e _ =>
    have el:(lnC c).length=line.data.toList.length + 1:=by rw [e,List.length_append]; rfl
    have es:(lnC c).length=c.name.data.toList.length + c.sort.data.toList.length + 11:=by simp [lnC,lineL,tailW,kCon]; omega
    refine ⟨by show _ + (x.consts ++ [c]).length + _ ≤ _; rw [List.length_append]; simp only [List.length_cons,List.length_nil]; omega,?_,h3,fun a ha => ?_,h5⟩
    · rw [textL_con]
      simp only [textL,List.length_append] at h2 ⊢
      omega
    · rcases List.mem_append.1 ha with ha | ha
      · exact h4 a ha
      · rw [List.mem_singleton.1 ha, size_list, size_list]
        omega
  | pre p e _ _ =>
    have el:(lnP p).length=line.data.toList.length + 1:=by rw [e,List.length_append]; rfl
    have es:(lnP p).length=p.name.data.toList.length + (tailW p.args).length + 11:=by simp [lnP,lineL,tailW,kPre]; omega
    refine ⟨by show _ + _ + (x.preds ++ [p]).length ≤ _; rw [List.length_append]; simp only [List.length_cons,List.length_nil]; omega,?_,h3,h4,fun a ha => ?_⟩
    · rw [textL_pre, List.length_append]
      omega
    · rcases List.mem_append.1 ha with ha | ha
      · exact h5 a ha
      · rw [List.mem_singleton.1 ha, size_list]
        have:=args_len p.args
        refine ⟨by omega,by omega,fun b hb => ?_⟩
        have:=arg_len hb
        omega
/-- The reference's Parse, line by line. -/
def parseRs (x:Sgn) (w:List UInt8) (n:Nat):List ByteArray→Sgn × Int × Int
  | []=>(eG,0,0)
  | [last]=>if last=emp then (x,0,0) else (eG,((↑(n + 1):Int)),3)
  | l::m::rest=>if textL (withF x l)=w ++ (l.data.toList ++ [10])∧validB (withF x l)=true then parseRs (withF x l) (w ++ (l.data.toList ++ [10])) (n + 1) (m::rest) else (eG,((↑(n + 1):Int)),3)
def xsR (ls:List ByteArray):Nat→Sgn
  | 0=>eG
  | i + 1=>withF (xsR ls i) (nS ls i)
def wsR (ls:List ByteArray):Nat→List UInt8
  | 0=>[]
  | i + 1=>wsR ls i ++ ((nS ls i).data.toList ++ [10])
def goodR (ls:List ByteArray) (i:Nat):Prop:=textL (xsR ls (i + 1))=wsR ls (i + 1)∧validB (xsR ls (i + 1))=true
theorem drop2 {ls:List ByteArray} {i:Nat} (h:i + 1 < ls.length):ls.drop i=nS ls i::nS ls (i + 1)::ls.drop (i + 2):=by
  rw [List.drop_eq_getElem_cons (show i < ls.length by omega),List.drop_eq_getElem_cons h,nS,nS,getD_lt (show i < ls.length by omega),getD_lt h]
theorem parseRs_go {ls:List ByteArray}:∀ i,i < ls.length→(∀ j,j < i→goodR ls j)→parseRs eG [] 0 ls=parseRs (xsR ls i) (wsR ls i) i (ls.drop i)
  | 0,_,_=>rfl
  | i + 1, hi, hg => by
    rw [parseRs_go i (by omega) (fun j hj=>hg j (by omega)),drop2 hi,parseRs]
    have h2:ls.drop (i + 1)=nS ls (i + 1)::ls.drop (i + 2):=by rw [List.drop_eq_getElem_cons hi,nS,getD_lt hi]
    rw [h2]
    exact if_pos (hg i (by omega))
theorem parseRs_bad {ls:List ByteArray} {k:Nat} (hk:k + 1 < ls.length) (hb : ¬ goodR ls k) (hg:∀ j,j < k→goodR ls j):parseRs eG [] 0 ls=(eG,((↑(k + 1):Int)),3):=by
  rw [parseRs_go k (by omega) hg,drop2 hk,parseRs]
  exact if_neg hb
theorem parseRs_end {ls:List ByteArray} {k:Nat} (hk:k + 1=ls.length) (hg:∀ j,j < k→goodR ls j):parseRs eG [] 0 ls=if nS ls k=emp then (xsR ls k,0,0) else (eG,((↑ls.length:Int)),3):=by
  rw [parseRs_go k (by omega) hg,List.drop_eq_getElem_cons (show k < ls.length by omega),List.drop_eq_nil_of_le (by omega),parseRs,nS,getD_lt (show k < ls.length by omega),hk]
theorem okW_at {ls:List ByteArray} (hl:∀ i,(nS ls i).data.toList.length ≤ mega):∀ i,OkW (xsR ls i) i (wsR ls i).length
  | 0=>okW_nil
  | i + 1 => by
    have:=(okW_at hl i).step (hl i)
    rw [show (wsR ls (i + 1)).length = (wsR ls i).length + ((nS ls i).data.toList.length + 1) by
      show (wsR ls i ++ ((nS ls i).data.toList ++ [10])).length=_
      rw [List.length_append,List.length_append]; rfl]
    exact this
end Go.Proofs.Sig
end
/- Signature: the reference's Parse, walked (printed) -/
section
open Go Go.Vm Go.Proofs
namespace Go.Proofs.Sig
def fg17:Nat→List Nat
  | 2007=>[1000000,1000001,1000002]
  | _=>[]
def f17_F0 (s0:ByteArray)(l6:List ByteArray)(w7:Nat→ByteArray)(k1 k2 k3:Nat→LK)(n1 n2 n3 m1 m2 m3:Nat→Nat)(d1 d2 d3:Nat→List AV)(i0:Nat):St :=
  stOf 55 [3,4,12,13,14,15,16,17,18,19,20,21,22,23,24,25,26,27,28,29,30,31,32,33,34,35,36,37,38,39,40,41,42,43] [(0,st s0),(2,AV.ref 0 0),(5,AV.ref 1 0),(6,sQ l6),(7,st (w7 i0)),(8,i6 (↑i0:Int)),(9,AV.agg [AV.list LK.nil 0 0 [],AV.list LK.nil 0 0 [],AV.list LK.nil 0 0 []]),(10,st s0),(11,sQ l6)] [Ob.cells [AV.list LK.nil 0 0 [],AV.list LK.nil 0 0 [],AV.list LK.nil 0 0 []],Ob.cells [AV.list (k1 i0) (n1 i0) (m1 i0) (d1 i0),AV.list (k2 i0) (n2 i0) (m2 i0) (d2 i0),AV.list (k3 i0) (n3 i0) (m3 i0) (d3 i0)]]
def f17_S0 (s0:ByteArray)(l6:List ByteArray):St :=
  stOf 55 [] [(0,st s0),(2,AV.ref 0 0),(3,i6 0),(4,i6 0),(5,AV.ref 1 0),(6,sQ l6),(7,st (ByteArray.mk #[])),(8,i6 0),(9,AV.agg [AV.list LK.nil 0 0 [],AV.list LK.nil 0 0 [],AV.list LK.nil 0 0 []]),(10,st s0),(11,sQ l6)] [Ob.cells [AV.list LK.nil 0 0 [],AV.list LK.nil 0 0 [],AV.list LK.nil 0 0 []],Ob.cells [AV.list LK.nil 0 0 [],AV.list LK.nil 0 0 [],AV.list LK.nil 0 0 []]]
abbrev f17_D0:List Nat:=[18,17,4,3,43,42,41,40,39,38,37,36,35,34,33,32,31,30,29,28,27,26,25,24,23,22,21,20,19,16,15,14,13,12]
theorem f17_L0 (s0:ByteArray)(l6:List ByteArray)(w7:Nat→ByteArray)(k1 k2 k3:Nat→LK)(n1 n2 n3 m1 m2 m3:Nat→Nat)(d1 d2 d3:Nat→List AV)(X:Ext)(call:Caller)(lf n:Nat)(x:Ex) (S' : St)
 (e0:w7 0=ByteArray.mk #[])
 (e1:[Ob.cells [AV.list LK.nil 0 0 [],AV.list LK.nil 0 0 [],AV.list LK.nil 0 0 []],Ob.cells [AV.list (k1 0) (n1 0) (m1 0) (d1 0),AV.list (k2 0) (n2 0) (m2 0) (d2 0),AV.list (k3 0) (n3 0) (m3 0) (d3 0)]]=[Ob.cells [AV.list LK.nil 0 0 [],AV.list LK.nil 0 0 [],AV.list LK.nil 0 0 []],Ob.cells [AV.list LK.nil 0 0 [],AV.list LK.nil 0 0 [],AV.list LK.nil 0 0 []]])
 (hn:n<lf)
 (hs:∀ j,j<n→∃ Sx,vexec Tryd.prog X call lf 0 fg17 (loopN Tryd.f17 0) (f17_F0 s0 l6 w7 k1 k2 k3 n1 n2 n3 m1 m2 m3 d1 d2 d3 j)=some (Ex.normal,Sx)∧forget f17_D0 Sx=(f17_F0 s0 l6 w7 k1 k2 k3 n1 n2 n3 m1 m2 m3 d1 d2 d3 (j + 1)))
 (he:vexec Tryd.prog X call lf 0 fg17 (loopN Tryd.f17 0) (f17_F0 s0 l6 w7 k1 k2 k3 n1 n2 n3 m1 m2 m3 d1 d2 d3 n)=some (x,S'))
 (hx:x ≠ Ex.normal):vexec Tryd.prog X call lf 0 fg17 (Go.Code.loop (loopN Tryd.f17 0)) (f17_S0 s0 l6)=some (x,S') :=
  loop_runK (by kernel_rfl) (fun j=>(f17_F0 s0 l6 w7 k1 k2 k3 n1 n2 n3 m1 m2 m3 d1 d2 d3 j)) n hn (by show forget f17_D0 (f17_S0 s0 l6)=(f17_F0 s0 l6 w7 k1 k2 k3 n1 n2 n3 m1 m2 m3 d1 d2 d3 0); unfold f17_F0; rw [e0,e1]; show _=_; kernel_rfl) hs he hx
def f17_S1 (s0:ByteArray)(l6:List ByteArray)(w7:Nat→ByteArray)(k1 k2 k3:Nat→LK)(n1 n2 n3 m1 m2 m3:Nat→Nat)(d1 d2 d3:Nat→List AV)(y5:Sgn)(i0:Nat)(a:ByteArray)(r22:List AV)(b:ByteArray)(r28:List AV)(x30 x31 x33:ByteArray):St :=
  stOf 55 [17,18] [(0,st s0),(2,AV.ref 0 0),(3,i6 (w6 ((↑i0:Int) + 1))),(4,i6 3),(5,AV.ref 1 0),(6,sQ l6),(7,st x31),(8,i6 (↑i0:Int)),(9,AV.agg [AV.list LK.nil 0 0 [],AV.list LK.nil 0 0 [],AV.list LK.nil 0 0 []]),(10,st s0),(11,sQ l6),(12,i6 (↑i0:Int)),(13,i6 (w6 ((↑i0:Int) + 1))),(14,sQ l6),(15,i6 (↑l6.length:Int)),(16,bo true),(19,AV.agg [AV.list (k1 i0) (n1 i0) (m1 i0) (d1 i0),AV.list (k2 i0) (n2 i0) (m2 i0) (d2 i0),AV.list (k3 i0) (n3 i0) (m3 i0) (d3 i0)]),(20,sQ l6),(21,i6 (↑i0:Int)),(22,AV.eaddr (st a::r22)),(23,st a),(24,AV.agg (gQ y5)),(25,st (w7 i0)),(26,sQ l6),(27,i6 (↑i0:Int)),(28,AV.eaddr (st b::r28)),(29,st b),(30,st x30),(31,st x31),(32,AV.agg (gQ y5)),(33,st x33),(34,st x31),(35,bo true),(36,bo true),(40,bo true),(41,AV.agg [AV.list LK.nil 0 0 [],AV.list LK.nil 0 0 [],AV.list LK.nil 0 0 []]),(42,i6 (↑i0:Int)),(43,i6 (w6 ((↑i0:Int) + 1)))] [Ob.cells [AV.list LK.nil 0 0 [],AV.list LK.nil 0 0 [],AV.list LK.nil 0 0 []],Ob.cells (gQ y5)]
theorem f17_r0_tt (s0:ByteArray)(l6:List ByteArray)(w7:Nat→ByteArray)(k1 k2 k3:Nat→LK)(n1 n2 n3 m1 m2 m3:Nat→Nat)(d1 d2 d3:Nat→List AV)(y5:Sgn)(X:Ext)(call:Caller)(lf i0:Nat)(a:ByteArray)(r22:List AV)(c:ByteArray)(r28:List AV)(x30 x31 x33:ByteArray)
 (h0:decide (w6 ((↑i0:Int) + 1)<(↑l6.length:Int))=true)
 (h1:kiq 22 [Ob.cells [AV.list LK.nil 0 0 [],AV.list LK.nil 0 0 [],AV.list LK.nil 0 0 []],Ob.cells [AV.list (k1 i0) (n1 i0) (m1 i0) (d1 i0),AV.list (k2 i0) (n2 i0) (m2 i0) (d2 i0),AV.list (k3 i0) (n3 i0) (m3 i0) (d3 i0)]] (sQ l6) (i6 (↑i0:Int)) (st a::r22))
 (h2:cvq X (call0 call) true 41 [AV.agg [AV.list (k1 i0) (n1 i0) (m1 i0) (d1 i0),AV.list (k2 i0) (n2 i0) (m2 i0) (d2 i0),AV.list (k3 i0) (n3 i0) (m3 i0) (d3 i0)],st a] [] (AV.agg (gQ y5)))
 (h3:kiq 22 [Ob.cells [AV.list LK.nil 0 0 [],AV.list LK.nil 0 0 [],AV.list LK.nil 0 0 []],Ob.cells (gQ y5)] (sQ l6) (i6 (↑i0:Int)) (st c::r28))
 (h4:kpq [Ob.cells [AV.list LK.nil 0 0 [],AV.list LK.nil 0 0 [],AV.list LK.nil 0 0 []],Ob.cells (gQ y5)] (binv Tryd.prog BinOp.add 9 (st c) (st (ByteArray.mk #[10]))) (st x30))
 (h5:kpq [Ob.cells [AV.list LK.nil 0 0 [],AV.list LK.nil 0 0 [],AV.list LK.nil 0 0 []],Ob.cells (gQ y5)] (binv Tryd.prog BinOp.add 9 (st (w7 i0)) (st x30)) (st x31))
 (h6:cvq X call false 29 [AV.agg (gQ y5)] [Ob.cells [AV.list LK.nil 0 0 [],AV.list LK.nil 0 0 [],AV.list LK.nil 0 0 []],Ob.cells (gQ y5)] (st x33))
 (h7:(!ByteArray.toList x33 == ByteArray.toList x31)=true):vexec Tryd.prog X call lf 0 fg17 (loopN Tryd.f17 0) (f17_F0 s0 l6 w7 k1 k2 k3 n1 n2 n3 m1 m2 m3 d1 d2 d3 i0)=some (Ex.ret,(f17_S1 s0 l6 w7 k1 k2 k3 n1 n2 n3 m1 m2 m3 d1 d2 d3 y5 i0 a r22 c r28 x30 x31 x33)) :=
  around_sound (ans:=[(5,Ans.b true),(11,Ans.v (AV.eaddr (st a::r22))),(13,Ans.v (AV.agg (gQ y5))),(19,Ans.v (AV.eaddr (st c::r28))),(21,Ans.v (st x30)),(22,Ans.v (st x31)),(26,Ans.v (st x33)),(28,Ans.b true)]) (by kernel_rfl) (ai h0 (ai h1 (ai h2 (ai h3 (ai h4 (ai h5 (ai h6 (ai h7 trivial))))))))
theorem f17_pltt (s0:ByteArray)(l6:List ByteArray)(w7:Nat→ByteArray)(k1 k2 k3:Nat→LK)(n1 n2 n3 m1 m2 m3:Nat→Nat)(d1 d2 d3:Nat→List AV)(y5:Sgn)(X:Ext)(call:Caller)(lf i0:Nat)(a:ByteArray)(r22:List AV)(b:ByteArray)(r28:List AV)(x30 x31 x33:ByteArray)
 (h0:cvq X call false 40 [st s0,AV.int IntKind.u8 10] [Ob.cells [AV.list LK.nil 0 0 [],AV.list LK.nil 0 0 [],AV.list LK.nil 0 0 []],Ob.cells [AV.list LK.nil 0 0 [],AV.list LK.nil 0 0 [],AV.list LK.nil 0 0 []]] (sQ l6))
 (h1:vexec Tryd.prog X call lf 0 fg17 (Code.loop (loopN Tryd.f17 0)) (f17_S0 s0 l6)=some (Ex.ret,(f17_S1 s0 l6 w7 k1 k2 k3 n1 n2 n3 m1 m2 m3 d1 d2 d3 y5 i0 a r22 b r28 x30 x31 x33))):vbody Tryd.prog X call lf fg17 Tryd.f17 (codeOf Tryd.f17) [st s0] [] 0=some (AV.tup [AV.agg [AV.list LK.nil 0 0 [],AV.list LK.nil 0 0 [],AV.list LK.nil 0 0 []],i6 (w6 ((↑i0:Int) + 1)),i6 3],[Ob.cells [AV.list LK.nil 0 0 [],AV.list LK.nil 0 0 [],AV.list LK.nil 0 0 []],Ob.cells (gQ y5)]) :=
  along_sound (ans:=[(10,Ans.v (sQ l6)),(16,Ans.l Ex.ret (f17_S1 s0 l6 w7 k1 k2 k3 n1 n2 n3 m1 m2 m3 d1 d2 d3 y5 i0 a r22 b r28 x30 x31 x33))]) (by kernel_rfl) (ai h0 (ai h1 trivial))
theorem f17_s0_tft (s0:ByteArray)(l6:List ByteArray)(w7:Nat→ByteArray)(k1 k2 k3:Nat→LK)(n1 n2 n3 m1 m2 m3:Nat→Nat)(d1 d2 d3:Nat→List AV)(y5:Sgn)(X:Ext)(call:Caller)(lf i0:Nat)(a:ByteArray)(r22:List AV)(c:ByteArray)(r28:List AV)(x30 x31 x33:ByteArray)
 (h0:decide (w6 ((↑i0:Int) + 1)<(↑l6.length:Int))=true)
 (h1:kiq 22 [Ob.cells [AV.list LK.nil 0 0 [],AV.list LK.nil 0 0 [],AV.list LK.nil 0 0 []],Ob.cells [AV.list (k1 i0) (n1 i0) (m1 i0) (d1 i0),AV.list (k2 i0) (n2 i0) (m2 i0) (d2 i0),AV.list (k3 i0) (n3 i0) (m3 i0) (d3 i0)]] (sQ l6) (i6 (↑i0:Int)) (st a::r22))
 (h2:cvq X (call0 call) true 41 [AV.agg [AV.list (k1 i0) (n1 i0) (m1 i0) (d1 i0),AV.list (k2 i0) (n2 i0) (m2 i0) (d2 i0),AV.list (k3 i0) (n3 i0) (m3 i0) (d3 i0)],st a] [] (AV.agg (gQ y5)))
 (h3:kiq 22 [Ob.cells [AV.list LK.nil 0 0 [],AV.list LK.nil 0 0 [],AV.list LK.nil 0 0 []],Ob.cells (gQ y5)] (sQ l6) (i6 (↑i0:Int)) (st c::r28))
 (h4:kpq [Ob.cells [AV.list LK.nil 0 0 [],AV.list LK.nil 0 0 [],AV.list LK.nil 0 0 []],Ob.cells (gQ y5)] (binv Tryd.prog BinOp.add 9 (st c) (st (ByteArray.mk #[10]))) (st x30))
 (h5:kpq [Ob.cells [AV.list LK.nil 0 0 [],AV.list LK.nil 0 0 [],AV.list LK.nil 0 0 []],Ob.cells (gQ y5)] (binv Tryd.prog BinOp.add 9 (st (w7 i0)) (st x30)) (st x31))
 (h6:cvq X call false 29 [AV.agg (gQ y5)] [Ob.cells [AV.list LK.nil 0 0 [],AV.list LK.nil 0 0 [],AV.list LK.nil 0 0 []],Ob.cells (gQ y5)] (st x33))
 (h7:(!ByteArray.toList x33 == ByteArray.toList x31)=false)
 (h8:cvq X call false 15 [AV.agg (gQ y5)] [Ob.cells [AV.list LK.nil 0 0 [],AV.list LK.nil 0 0 [],AV.list LK.nil 0 0 []],Ob.cells (gQ y5)] (bo true))
 (e0:w7 (i0 + 1)=x31)
 (e1:(↑(i0 + 1):Int)=w6 ((↑i0:Int) + 1))
 (e2:[Ob.cells [AV.list LK.nil 0 0 [],AV.list LK.nil 0 0 [],AV.list LK.nil 0 0 []],Ob.cells [AV.list (k1 (i0 + 1)) (n1 (i0 + 1)) (m1 (i0 + 1)) (d1 (i0 + 1)),AV.list (k2 (i0 + 1)) (n2 (i0 + 1)) (m2 (i0 + 1)) (d2 (i0 + 1)),AV.list (k3 (i0 + 1)) (n3 (i0 + 1)) (m3 (i0 + 1)) (d3 (i0 + 1))]]=[Ob.cells [AV.list LK.nil 0 0 [],AV.list LK.nil 0 0 [],AV.list LK.nil 0 0 []],Ob.cells (gQ y5)]):∃ Sx,vexec Tryd.prog X call lf 0 fg17 (loopN Tryd.f17 0) (f17_F0 s0 l6 w7 k1 k2 k3 n1 n2 n3 m1 m2 m3 d1 d2 d3 i0)=some (Ex.normal,Sx)∧forget f17_D0 Sx=(f17_F0 s0 l6 w7 k1 k2 k3 n1 n2 n3 m1 m2 m3 d1 d2 d3 (i0 + 1)) :=
  ⟨stOf 55 [3,4,41,42,43] [(0,st s0),(2,AV.ref 0 0),(5,AV.ref 1 0),(6,sQ l6),(7,st x31),(8,i6 (w6 ((↑i0:Int) + 1))),(9,AV.agg [AV.list LK.nil 0 0 [],AV.list LK.nil 0 0 [],AV.list LK.nil 0 0 []]),(10,st s0),(11,sQ l6),(12,i6 (↑i0:Int)),(13,i6 (w6 ((↑i0:Int) + 1))),(14,sQ l6),(15,i6 (↑l6.length:Int)),(16,bo true),(17,i6 (↑i0:Int)),(18,i6 (w6 ((↑i0:Int) + 1))),(19,AV.agg [AV.list (k1 i0) (n1 i0) (m1 i0) (d1 i0),AV.list (k2 i0) (n2 i0) (m2 i0) (d2 i0),AV.list (k3 i0) (n3 i0) (m3 i0) (d3 i0)]),(20,sQ l6),(21,i6 (↑i0:Int)),(22,AV.eaddr (st a::r22)),(23,st a),(24,AV.agg (gQ y5)),(25,st (w7 i0)),(26,sQ l6),(27,i6 (↑i0:Int)),(28,AV.eaddr (st c::r28)),(29,st c),(30,st x30),(31,st x31),(32,AV.agg (gQ y5)),(33,st x33),(34,st x31),(35,bo false),(36,bo false),(37,AV.agg (gQ y5)),(38,bo true),(39,bo false),(40,bo false)] [Ob.cells [AV.list LK.nil 0 0 [],AV.list LK.nil 0 0 [],AV.list LK.nil 0 0 []],Ob.cells (gQ y5)],around_sound (ans:=[(5,Ans.b true),(11,Ans.v (AV.eaddr (st a::r22))),(13,Ans.v (AV.agg (gQ y5))),(19,Ans.v (AV.eaddr (st c::r28))),(21,Ans.v (st x30)),(22,Ans.v (st x31)),(26,Ans.v (st x33)),(28,Ans.b false),(33,Ans.v (bo true))]) (by kernel_rfl) (ai h0 (ai h1 (ai h2 (ai h3 (ai h4 (ai h5 (ai h6 (ai h7 (ai h8 trivial))))))))),by unfold f17_F0; rw [e0,e1,e2]; show _=_; kernel_rfl⟩
def f17_S2 (s0:ByteArray)(l6:List ByteArray)(w7:Nat→ByteArray)(k1 k2 k3:Nat→LK)(n1 n2 n3 m1 m2 m3:Nat→Nat)(d1 d2 d3:Nat→List AV)(y5:Sgn)(i0:Nat)(a:ByteArray)(r22:List AV)(b:ByteArray)(r28:List AV)(x30 x31 x33:ByteArray):St :=
  stOf 55 [17,18] [(0,st s0),(2,AV.ref 0 0),(3,i6 (w6 ((↑i0:Int) + 1))),(4,i6 3),(5,AV.ref 1 0),(6,sQ l6),(7,st x31),(8,i6 (↑i0:Int)),(9,AV.agg [AV.list LK.nil 0 0 [],AV.list LK.nil 0 0 [],AV.list LK.nil 0 0 []]),(10,st s0),(11,sQ l6),(12,i6 (↑i0:Int)),(13,i6 (w6 ((↑i0:Int) + 1))),(14,sQ l6),(15,i6 (↑l6.length:Int)),(16,bo true),(19,AV.agg [AV.list (k1 i0) (n1 i0) (m1 i0) (d1 i0),AV.list (k2 i0) (n2 i0) (m2 i0) (d2 i0),AV.list (k3 i0) (n3 i0) (m3 i0) (d3 i0)]),(20,sQ l6),(21,i6 (↑i0:Int)),(22,AV.eaddr (st a::r22)),(23,st a),(24,AV.agg (gQ y5)),(25,st (w7 i0)),(26,sQ l6),(27,i6 (↑i0:Int)),(28,AV.eaddr (st b::r28)),(29,st b),(30,st x30),(31,st x31),(32,AV.agg (gQ y5)),(33,st x33),(34,st x31),(35,bo false),(36,bo false),(37,AV.agg (gQ y5)),(38,bo false),(39,bo true),(40,bo true),(41,AV.agg [AV.list LK.nil 0 0 [],AV.list LK.nil 0 0 [],AV.list LK.nil 0 0 []]),(42,i6 (↑i0:Int)),(43,i6 (w6 ((↑i0:Int) + 1)))] [Ob.cells [AV.list LK.nil 0 0 [],AV.list LK.nil 0 0 [],AV.list LK.nil 0 0 []],Ob.cells (gQ y5)]
theorem f17_r0_tff (s0:ByteArray)(l6:List ByteArray)(w7:Nat→ByteArray)(k1 k2 k3:Nat→LK)(n1 n2 n3 m1 m2 m3:Nat→Nat)(d1 d2 d3:Nat→List AV)(y5:Sgn)(X:Ext)(call:Caller)(lf i0:Nat)(a:ByteArray)(r22:List AV)(c:ByteArray)(r28:List AV)(x30 x31 x33:ByteArray)
 (h0:decide (w6 ((↑i0:Int) + 1)<(↑l6.length:Int))=true)
 (h1:kiq 22 [Ob.cells [AV.list LK.nil 0 0 [],AV.list LK.nil 0 0 [],AV.list LK.nil 0 0 []],Ob.cells [AV.list (k1 i0) (n1 i0) (m1 i0) (d1 i0),AV.list (k2 i0) (n2 i0) (m2 i0) (d2 i0),AV.list (k3 i0) (n3 i0) (m3 i0) (d3 i0)]] (sQ l6) (i6 (↑i0:Int)) (st a::r22))
 (h2:cvq X (call0 call) true 41 [AV.agg [AV.list (k1 i0) (n1 i0) (m1 i0) (d1 i0),AV.list (k2 i0) (n2 i0) (m2 i0) (d2 i0),AV.list (k3 i0) (n3 i0) (m3 i0) (d3 i0)],st a] [] (AV.agg (gQ y5)))
 (h3:kiq 22 [Ob.cells [AV.list LK.nil 0 0 [],AV.list LK.nil 0 0 [],AV.list LK.nil 0 0 []],Ob.cells (gQ y5)] (sQ l6) (i6 (↑i0:Int)) (st c::r28))
 (h4:kpq [Ob.cells [AV.list LK.nil 0 0 [],AV.list LK.nil 0 0 [],AV.list LK.nil 0 0 []],Ob.cells (gQ y5)] (binv Tryd.prog BinOp.add 9 (st c) (st (ByteArray.mk #[10]))) (st x30))
 (h5:kpq [Ob.cells [AV.list LK.nil 0 0 [],AV.list LK.nil 0 0 [],AV.list LK.nil 0 0 []],Ob.cells (gQ y5)] (binv Tryd.prog BinOp.add 9 (st (w7 i0)) (st x30)) (st x31))
 (h6:cvq X call false 29 [AV.agg (gQ y5)] [Ob.cells [AV.list LK.nil 0 0 [],AV.list LK.nil 0 0 [],AV.list LK.nil 0 0 []],Ob.cells (gQ y5)] (st x33))
 (h7:(!ByteArray.toList x33 == ByteArray.toList x31)=false)
 (h8:cvq X call false 15 [AV.agg (gQ y5)] [Ob.cells [AV.list LK.nil 0 0 [],AV.list LK.nil 0 0 [],AV.list LK.nil 0 0 []],Ob.cells (gQ y5)] (bo false)):vexec Tryd.prog X call lf 0 fg17 (loopN Tryd.f17 0) (f17_F0 s0 l6 w7 k1 k2 k3 n1 n2 n3 m1 m2 m3 d1 d2 d3 i0)=some (Ex.ret,(f17_S2 s0 l6 w7 k1 k2 k3 n1 n2 n3 m1 m2 m3 d1 d2 d3 y5 i0 a r22 c r28 x30 x31 x33)) :=
  around_sound (ans:=[(5,Ans.b true),(11,Ans.v (AV.eaddr (st a::r22))),(13,Ans.v (AV.agg (gQ y5))),(19,Ans.v (AV.eaddr (st c::r28))),(21,Ans.v (st x30)),(22,Ans.v (st x31)),(26,Ans.v (st x33)),(28,Ans.b false),(33,Ans.v (bo false))]) (by kernel_rfl) (ai h0 (ai h1 (ai h2 (ai h3 (ai h4 (ai h5 (ai h6 (ai h7 (ai h8 trivial)))))))))
theorem f17_pltff (s0:ByteArray)(l6:List ByteArray)(w7:Nat→ByteArray)(k1 k2 k3:Nat→LK)(n1 n2 n3 m1 m2 m3:Nat→Nat)(d1 d2 d3:Nat→List AV)(y5:Sgn)(X:Ext)(call:Caller)(lf i0:Nat)(a:ByteArray)(r22:List AV)(b:ByteArray)(r28:List AV)(x30 x31 x33:ByteArray)
 (h0:cvq X call false 40 [st s0,AV.int IntKind.u8 10] [Ob.cells [AV.list LK.nil 0 0 [],AV.list LK.nil 0 0 [],AV.list LK.nil 0 0 []],Ob.cells [AV.list LK.nil 0 0 [],AV.list LK.nil 0 0 [],AV.list LK.nil 0 0 []]] (sQ l6))
 (h1:vexec Tryd.prog X call lf 0 fg17 (Code.loop (loopN Tryd.f17 0)) (f17_S0 s0 l6)=some (Ex.ret,(f17_S2 s0 l6 w7 k1 k2 k3 n1 n2 n3 m1 m2 m3 d1 d2 d3 y5 i0 a r22 b r28 x30 x31 x33))):vbody Tryd.prog X call lf fg17 Tryd.f17 (codeOf Tryd.f17) [st s0] [] 0=some (AV.tup [AV.agg [AV.list LK.nil 0 0 [],AV.list LK.nil 0 0 [],AV.list LK.nil 0 0 []],i6 (w6 ((↑i0:Int) + 1)),i6 3],[Ob.cells [AV.list LK.nil 0 0 [],AV.list LK.nil 0 0 [],AV.list LK.nil 0 0 []],Ob.cells (gQ y5)]) :=
  along_sound (ans:=[(10,Ans.v (sQ l6)),(16,Ans.l Ex.ret (f17_S2 s0 l6 w7 k1 k2 k3 n1 n2 n3 m1 m2 m3 d1 d2 d3 y5 i0 a r22 b r28 x30 x31 x33))]) (by kernel_rfl) (ai h0 (ai h1 trivial))
def f17_S3 (s0:ByteArray)(l6:List ByteArray)(w7:Nat→ByteArray)(k1 k2 k3:Nat→LK)(n1 n2 n3 m1 m2 m3:Nat→Nat)(d1 d2 d3:Nat→List AV)(i0:Nat):St :=
  stOf 55 [3,4,17,18,19,20,21,22,23,24,25,26,27,28,29,30,31,32,33,34,35,36,37,38,39,40,41,42,43] [(0,st s0),(2,AV.ref 0 0),(5,AV.ref 1 0),(6,sQ l6),(7,st (w7 i0)),(8,i6 (↑i0:Int)),(9,AV.agg [AV.list LK.nil 0 0 [],AV.list LK.nil 0 0 [],AV.list LK.nil 0 0 []]),(10,st s0),(11,sQ l6),(12,i6 (↑i0:Int)),(13,i6 (w6 ((↑i0:Int) + 1))),(14,sQ l6),(15,i6 (↑l6.length:Int)),(16,bo false)] [Ob.cells [AV.list LK.nil 0 0 [],AV.list LK.nil 0 0 [],AV.list LK.nil 0 0 []],Ob.cells [AV.list (k1 i0) (n1 i0) (m1 i0) (d1 i0),AV.list (k2 i0) (n2 i0) (m2 i0) (d2 i0),AV.list (k3 i0) (n3 i0) (m3 i0) (d3 i0)]]
theorem f17_r0_f (s0:ByteArray)(l6:List ByteArray)(w7:Nat→ByteArray)(k1 k2 k3:Nat→LK)(n1 n2 n3 m1 m2 m3:Nat→Nat)(d1 d2 d3:Nat→List AV)(X:Ext)(call:Caller)(lf i0:Nat)
 (h0:decide (w6 ((↑i0:Int) + 1)<(↑l6.length:Int))=false):vexec Tryd.prog X call lf 0 fg17 (loopN Tryd.f17 0) (f17_F0 s0 l6 w7 k1 k2 k3 n1 n2 n3 m1 m2 m3 d1 d2 d3 i0)=some (Ex.exit 0,(f17_S3 s0 l6 w7 k1 k2 k3 n1 n2 n3 m1 m2 m3 d1 d2 d3 i0)) :=
  around_sound (ans:=[(5,Ans.b false)]) (by kernel_rfl) (ai h0 trivial)
theorem f17_plft (s0:ByteArray)(l6:List ByteArray)(w7:Nat→ByteArray)(k1 k2 k3:Nat→LK)(n1 n2 n3 m1 m2 m3:Nat→Nat)(d1 d2 d3:Nat→List AV)(X:Ext)(call:Caller)(lf i0:Nat)(a:ByteArray)(r48:List AV)
 (h0:cvq X call false 40 [st s0,AV.int IntKind.u8 10] [Ob.cells [AV.list LK.nil 0 0 [],AV.list LK.nil 0 0 [],AV.list LK.nil 0 0 []],Ob.cells [AV.list LK.nil 0 0 [],AV.list LK.nil 0 0 [],AV.list LK.nil 0 0 []]] (sQ l6))
 (h1:vexec Tryd.prog X call lf 0 fg17 (Code.loop (loopN Tryd.f17 0)) (f17_S0 s0 l6)=some (Ex.exit 0,(f17_S3 s0 l6 w7 k1 k2 k3 n1 n2 n3 m1 m2 m3 d1 d2 d3 i0)))
 (h2:kiq 22 [Ob.cells [AV.list LK.nil 0 0 [],AV.list LK.nil 0 0 [],AV.list LK.nil 0 0 []],Ob.cells [AV.list (k1 i0) (n1 i0) (m1 i0) (d1 i0),AV.list (k2 i0) (n2 i0) (m2 i0) (d2 i0),AV.list (k3 i0) (n3 i0) (m3 i0) (d3 i0)]] (sQ l6) (i6 (w6 ((↑l6.length:Int) - 1))) (st a::r48))
 (h3:(!ByteArray.toList a == ByteArray.toList (ByteArray.mk #[]))=true):vbody Tryd.prog X call lf fg17 Tryd.f17 (codeOf Tryd.f17) [st s0] [] 0=some (AV.tup [AV.agg [AV.list LK.nil 0 0 [],AV.list LK.nil 0 0 [],AV.list LK.nil 0 0 []],i6 (↑l6.length:Int),i6 3],[Ob.cells [AV.list LK.nil 0 0 [],AV.list LK.nil 0 0 [],AV.list LK.nil 0 0 []],Ob.cells [AV.list (k1 i0) (n1 i0) (m1 i0) (d1 i0),AV.list (k2 i0) (n2 i0) (m2 i0) (d2 i0),AV.list (k3 i0) (n3 i0) (m3 i0) (d3 i0)]]) :=
  along_sound (ans:=[(10,Ans.v (sQ l6)),(16,Ans.l (Ex.exit 0) (f17_S3 s0 l6 w7 k1 k2 k3 n1 n2 n3 m1 m2 m3 d1 d2 d3 i0)),(22,Ans.v (AV.eaddr (st a::r48))),(24,Ans.b true)]) (by kernel_rfl) (ai h0 (ai h1 (ai h2 (ai h3 trivial))))
theorem f17_plff (s0:ByteArray)(l6:List ByteArray)(w7:Nat→ByteArray)(k1 k2 k3:Nat→LK)(n1 n2 n3 m1 m2 m3:Nat→Nat)(d1 d2 d3:Nat→List AV)(X:Ext)(call:Caller)(lf i0:Nat)(a:ByteArray)(r48:List AV)(rE:AV)(sE:List Ob)
 (h0:cvq X call false 40 [st s0,AV.int IntKind.u8 10] [Ob.cells [AV.list LK.nil 0 0 [],AV.list LK.nil 0 0 [],AV.list LK.nil 0 0 []],Ob.cells [AV.list LK.nil 0 0 [],AV.list LK.nil 0 0 [],AV.list LK.nil 0 0 []]] (sQ l6))
 (h1:vexec Tryd.prog X call lf 0 fg17 (Code.loop (loopN Tryd.f17 0)) (f17_S0 s0 l6)=some (Ex.exit 0,(f17_S3 s0 l6 w7 k1 k2 k3 n1 n2 n3 m1 m2 m3 d1 d2 d3 i0)))
 (h2:kiq 22 [Ob.cells [AV.list LK.nil 0 0 [],AV.list LK.nil 0 0 [],AV.list LK.nil 0 0 []],Ob.cells [AV.list (k1 i0) (n1 i0) (m1 i0) (d1 i0),AV.list (k2 i0) (n2 i0) (m2 i0) (d2 i0),AV.list (k3 i0) (n3 i0) (m3 i0) (d3 i0)]] (sQ l6) (i6 (w6 ((↑l6.length:Int) - 1))) (st a::r48))
 (h3:(!ByteArray.toList a == ByteArray.toList (ByteArray.mk #[]))=false)
 (h4:vend1 [] 0 [Ob.cells [AV.list (k1 i0) (n1 i0) (m1 i0) (d1 i0),AV.list (k2 i0) (n2 i0) (m2 i0) (d2 i0),AV.list (k3 i0) (n3 i0) (m3 i0) (d3 i0)],Ob.cells [AV.list (k1 i0) (n1 i0) (m1 i0) (d1 i0),AV.list (k2 i0) (n2 i0) (m2 i0) (d2 i0),AV.list (k3 i0) (n3 i0) (m3 i0) (d3 i0)]] [AV.agg [AV.list (k1 i0) (n1 i0) (m1 i0) (d1 i0),AV.list (k2 i0) (n2 i0) (m2 i0) (d2 i0),AV.list (k3 i0) (n3 i0) (m3 i0) (d3 i0)],i6 0,i6 0]=some (rE,sE)):vbody Tryd.prog X call lf fg17 Tryd.f17 (codeOf Tryd.f17) [st s0] [] 0=some (rE,sE) :=
  along_sound (ans:=[(10,Ans.v (sQ l6)),(16,Ans.l (Ex.exit 0) (f17_S3 s0 l6 w7 k1 k2 k3 n1 n2 n3 m1 m2 m3 d1 d2 d3 i0)),(22,Ans.v (AV.eaddr (st a::r48))),(24,Ans.b false),(31,Ans.c rE sE)]) (by kernel_rfl) (ai h0 (ai h1 (ai h2 (ai h3 (ai h4 trivial)))))
end Go.Proofs.Sig
end
/- Signature: the reference's Parse, told. -/
section
open Go Go.Vm Go.Proofs
namespace Go.Proofs.Sig
theorem bytesB_inj {a b:List UInt8}:bytesB a=bytesB b ↔ a=b:=⟨fun h=>by have:=congrArg (·.data.toList) h; exact this,fun h=>by rw [h]⟩
theorem spl_total (c:UInt8) (l:List UInt8):∀ x ∈ spl c l,x.length ≤ l.length:=by
  obtain ⟨x,r,e⟩:=List.exists_cons_of_ne_nil (spl_ne c l)
  have h:=congrArg List.length (spl_join c l e)
  rw [List.length_append] at h
  have hr : ∀ (r : List (List UInt8)), ∀ y ∈ r, y.length ≤ (r.flatMap (c :: ·)).length := by
    intro r
    induction r with
    | nil=>intro y hy; cases hy
    | cons z r ih =>
      intro y hy
      rw [List.flatMap_cons,List.length_append,List.length_cons]
      rcases List.mem_cons.1 hy with rfl | hy
      · omega
      · have:=ih y hy; omega
  intro y hy
  rw [e] at hy
  rcases List.mem_cons.1 hy with rfl | hy
  · omega
  · have:=hr r y hy; omega
theorem cut_len {s:ByteArray} (c:UInt8) (hs:s.size ≤ mega) (i:Nat):(nS (cutL c s) i).data.toList.length ≤ mega:=by
  by_cases hi:i < (cutL c s).length
  · rw [nS, getD_lt hi]
    have hm:=List.getElem_mem hi
    generalize (cutL c s)[i]=y at hm
    unfold cutL at hm
    obtain ⟨z,hz,rfl⟩:=List.mem_map.1 hm
    have:=spl_total c _ z hz
    rw [size_list] at hs
    show z.length ≤ _
    omega
  · rw [nS, List.getD_eq_getElem?_getD, List.getElem?_eq_none (by omega)]
    exact Nat.zero_le _
theorem cut_count {s:ByteArray} (c:UInt8) (hs:s.size ≤ mega):(cutL c s).length ≤ mega + 1:=by
  unfold cutL
  rw [List.length_map]
  have:=spl_len_le c s.data.toList
  rw [size_list] at hs
  omega
def pK (i:Nat):LK:=if i=0 then .nil else .ro
def pM (k i:Nat):Nat:=if i=0 then 0 else k
def sgn0 (ls:List ByteArray) (i:Nat):List AV:=[.list (pK i) (xsR ls i).sorts.length (pM 1 i) ((xsR ls i).sorts.map st),.list (pK i) (xsR ls i).consts.length (pM 2 i) ((xsR ls i).consts.flatMap cstC),.list (pK i) (xsR ls i).preds.length (pM 2 i) ((xsR ls i).preds.flatMap prdC)]
variable [Fixed] {X:Ext} {call:Caller} {lf:Nat}
theorem sgn0_dec (ls:List ByteArray) (i:Nat):aG.dec (.agg (sgn0 ls i))=some (xsR ls i):=by
  cases i with
  | zero=>rfl
  | succ i=>exact aG_dec (xsR ls (i + 1))
theorem sgn0_lt (ls:List ByteArray) (i:Nat):AV.lt 0 (.agg (sgn0 ls i))=true:=by
  cases i with
  | zero=>rfl
  | succ i=>have:=aG.lt (xsR ls (i + 1)); rw [aG_enc] at this; exact this
theorem sgn0_owns (ls:List ByteArray) (i:Nat):AV.ownsAll [.agg (sgn0 ls i),i6 0,i6 0]=[]:=by
  cases i with
  | zero=>rfl
  | succ i =>
    show (AV.owns (strsV (xsR ls (i + 1)).sorts) ++ (AV.owns (cstsV (xsR ls (i + 1)).consts) ++ (AV.owns (prdsV (xsR ls (i + 1)).preds) ++ []))) ++ ([] ++ ([] ++ []))=[]
    rw [owns_sV,owns_cV,owns_pV]; rfl
structure Calls17 (X:Ext) (call:Caller):Prop where
  h40:∀ s σ,s.size ≤ mega→callv X call false 40 [st s,.int .u8 10] σ 0=some (strsV (cutL 10 s),σ)
  h41:∀ v x line,aG.dec v=some x→AV.lt 0 v=true→okG x=true→line.size ≤ mega→callv X (call0 call) true 41 [v,st line] [] 0=some (.agg (sgnC (withF x line)),[])
  h29:∀ x σ,okG x=true→(textL x).length ≤ 1000000000→callv X call false 29 [.agg (sgnC x)] σ 0=some (st (textF x),σ)
  h15:∀ x σ,okG x=true→callv X call false 15 [.agg (sgnC x)] σ 0=some (bo (validB x),σ)
abbrev lnB (l:ByteArray):List UInt8:=l.data.toList ++ [10]
theorem wsR_take (ls:List ByteArray):∀ i,i ≤ ls.length→wsR ls i=(ls.take i).flatMap lnB
  | 0,_=>rfl
  | i + 1,hi=>by rw [flat_succ emp lnB ls i (by omega),← wsR_take ls i (by omega)]; rfl
theorem spl_sum (c:UInt8) (l:List UInt8):((spl c l).flatMap fun x=>x ++ [c])=l ++ [c]:=by
  obtain ⟨x,r,e⟩:=List.exists_cons_of_ne_nil (spl_ne c l)
  have h:=spl_join c l e
  have key : ∀ (r : List (List UInt8)) (x : List UInt8), ((x :: r).flatMap fun x => x ++ [c]) = (x ++ r.flatMap (c :: ·)) ++ [c] := by
    intro r
    induction r with
    | nil=>intro x; simp
    | cons y r ih=>intro x; rw [List.flatMap_cons,ih y]; simp
  rw [e,key,← h]
theorem cut_sum (s:ByteArray):(cutL 10 s).flatMap lnB=s.data.toList ++ [10]:=by
  unfold cutL
  rw [List.flatMap_map]
  exact spl_sum 10 _
theorem wsR_len {s:ByteArray} (ls:List ByteArray) (h:ls=cutL 10 s):∀ i,i < ls.length→(wsR ls i).length ≤ s.data.toList.length:=by
  intro i hi
  have h1:=flat_le lnB ls (i + 1)
  rw [flat_succ emp lnB ls i hi,← wsR_take ls i (by omega)] at h1
  rw [h,cut_sum,← h] at h1
  simp only [List.length_append,List.length_cons,List.length_nil] at h1
  omega
set_option maxRecDepth 100000 in
/-- ref21.Parse. -/
theorem parse17 (hc:Calls17 X call) {t:ByteArray} (ht:t.size ≤ mega) (hlf:1000002 < lf):∃ r σ',vbody Tryd.prog X call lf fg17 Tryd.f17 (codeOf Tryd.f17) [st t] [] 0=some (r,σ')∧aR.dec r=some (parseRs eG [] 0 (cutL 10 t)):=by
  have hbig:big=140737488355328:=rfl
  have hmega:mega=1000000:=rfl
  have hcl:=fun i=>cut_len 10 ht i
  have hcc:=cut_count 10 ht
  have hne:=cutL_ne 10 t
  have hwl:=wsR_len (s:=t) _ rfl
  have h40:=hc.h40 t [nil3,nil3] ht
  generalize hls:cutL 10 t=ls at *
  have hpos:0 < ls.length:=List.length_pos_iff.2 hne
  have hW:=okW_at hcl
  have htl:t.data.toList.length ≤ mega:=by rw [← size_list]; exact ht
  have hup:∀ i,i < ls.length→w6 ((↑i:Int) + 1)=((↑(i + 1):Nat):Int):=fun i hi=>(up hi (by omega)).symm
  have hd1 : ∀ i, i + 1 < ls.length → decide (w6 ((↑i : Int) + 1) < (↑ls.length : Int)) = true := fun i hi => by
    rw [hup i (by omega)]; exact dt hi
  have hd0 : ∀ i, i + 1 = ls.length → decide (w6 ((↑i : Int) + 1) < (↑ls.length : Int)) = false := fun i hi => by
    rw [hup i (by omega)]; exact df (by omega)
  have hok:∀ i,i < ls.length→okG (xsR ls i)=true:=fun i hi=>(hW i).ok (by omega)
  have htx : ∀ i, i < ls.length → (textL (xsR ls i)).length ≤ 1000000000 := fun i hi => by
    have:=(hW i).t
    have:=hwl i hi
    omega
  have g0:∀ i,i < ls.length→∀ σ,keep σ (indexAddrv Tryd.prog 22 σ (strsV ls) (i6 (↑i:Int)))=some (.eaddr (st (nS ls i)::tS ls i),σ):=fun i hi σ=>at_strs hi
  have g1:∀ i,i < ls.length→callv X (call0 call) true 41 [.agg (sgn0 ls i),st (nS ls i)] [] 0=some (.agg (sgnC (xsR ls (i + 1))),[]):=fun i hi=>hc.h41 _ _ _ (sgn0_dec ls i) (sgn0_lt ls i) (hok i hi) (by rw [size_list]; exact hcl i)
  have g3:∀ i,i + 1 < ls.length→∀ σ,keep σ (binv Tryd.prog BinOp.add 9 (st (nS ls i)) (st nl))=some (st (bytesB ((nS ls i).data.toList ++ [10])),σ):=fun i hi σ=>addB rfl rfl (by have:=hcl i; simp only [List.length_cons,List.length_nil]; omega)
  have g4 : ∀ i, i + 1 < ls.length → ∀ σ, keep σ (binv Tryd.prog BinOp.add 9 (st (bytesB (wsR ls i))) (st (bytesB ((nS ls i).data.toList ++ [10])))) = some (st (bytesB (wsR ls (i + 1))), σ) := fun i hi σ => addB rfl rfl (by
    have:=hcl i
    have:=hwl i (by omega)
    rw [List.length_append]; simp only [List.length_cons,List.length_nil]; omega)
  have g5:∀ i,i + 1 < ls.length→∀ σ,callv X call false 29 [.agg (sgnC (xsR ls (i + 1)))] σ 0=some (st (textF (xsR ls (i + 1))),σ):=fun i hi σ=>hc.h29 _ σ (hok _ hi) (htx _ hi)
  have g6:∀ i,i + 1 < ls.length→∀ σ,callv X call false 15 [.agg (sgnC (xsR ls (i + 1)))] σ 0=some (bo (validB (xsR ls (i + 1))),σ):=fun i hi σ=>hc.h15 _ σ (hok _ hi)
  have hcmp : ∀ i, (!(textF (xsR ls (i + 1))).toList == (bytesB (wsR ls (i + 1))).toList) = !decide (textL (xsR ls (i + 1)) = wsR ls (i + 1)) := fun i => by
    congr 1
    by_cases h:textL (xsR ls (i + 1))=wsR ls (i + 1)
    · rw [decide_eq_true h]; exact eqB_iff.2 (bytesB_inj.2 h)
    · rw [decide_eq_false h]; exact eqB_ne.2 fun e=>h (bytesB_inj.1 e)
  have step : ∀ i, i + 1 < ls.length → goodR ls i → ∃ Sx, vexec Tryd.prog X call lf 0 fg17 (loopN Tryd.f17 0) (f17_F0 t ls (fun i => bytesB (wsR ls i)) pK pK pK (fun i => (xsR ls i).sorts.length) (fun i => (xsR ls i).consts.length) (fun i => (xsR ls i).preds.length) (pM 1) (pM 2) (pM 2) (fun i => (xsR ls i).sorts.map st) (fun i => (xsR ls i).consts.flatMap cstC) (fun i => (xsR ls i).preds.flatMap prdC) i) = some (Ex.normal, Sx) ∧ forget f17_D0 Sx = f17_F0 t ls (fun i => bytesB (wsR ls i)) pK pK pK (fun i => (xsR ls i).sorts.length) (fun i => (xsR ls i).consts.length) (fun i => (xsR ls i).preds.length) (pM 1) (pM 2) (pM 2) (fun i => (xsR ls i).sorts.map st) (fun i => (xsR ls i).consts.flatMap cstC) (fun i => (xsR ls i).preds.flatMap prdC) (i + 1) := by
    intro i hi hg
    have hv:=g6 i hi [nil3,Ob.cells (sgnC (xsR ls (i + 1)))]
    rw [hg.2] at hv
    exact f17_s0_tft t ls (fun i => bytesB (wsR ls i)) pK pK pK (fun i => (xsR ls i).sorts.length) (fun i => (xsR ls i).consts.length) (fun i => (xsR ls i).preds.length) (pM 1) (pM 2) (pM 2) (fun i => (xsR ls i).sorts.map st) (fun i => (xsR ls i).consts.flatMap cstC) (fun i => (xsR ls i).preds.flatMap prdC) (xsR ls (i + 1)) X call lf i (nS ls i) (tS ls i) (nS ls i) (tS ls i) _ (bytesB (wsR ls (i + 1))) (textF (xsR ls (i + 1)))
      (hd1 i hi) (g0 i (by omega) _) (g1 i (by omega)) (g0 i (by omega) _) (g3 i hi _) (g4 i hi _) (g5 i hi _) (by rw [hcmp,decide_eq_true hg.1]; rfl) hv rfl (hup i (by omega)).symm rfl
  have loop:=fun n x S' (hn:n < ls.length) (hg:∀ j,j < n→goodR ls j)=>f17_L0 t ls (fun i=>bytesB (wsR ls i)) pK pK pK (fun i=>(xsR ls i).sorts.length) (fun i=>(xsR ls i).consts.length) (fun i=>(xsR ls i).preds.length) (pM 1) (pM 2) (pM 2) (fun i=>(xsR ls i).sorts.map st) (fun i=>(xsR ls i).consts.flatMap cstC) (fun i=>(xsR ls i).preds.flatMap prdC) X call lf n x S' rfl rfl (by omega) (fun j hj=>step j (by omega) (hg j hj))
  have hcase:(∀ j,j < ls.length - 1→goodR ls j) ∨ ∃ k,k < ls.length - 1 ∧ ¬ goodR ls k∧∀ j,j < k→goodR ls j:=first_fail (ls.length - 1)
  rcases hcase with hall | ⟨k,hk,hbad,hbef⟩
  · rw [parseRs_end (k := ls.length - 1) (by omega) hall]
    have L:=loop (ls.length - 1) _ _ (by omega) hall (f17_r0_f t ls (fun i=>bytesB (wsR ls i)) pK pK pK (fun i=>(xsR ls i).sorts.length) (fun i=>(xsR ls i).consts.length) (fun i=>(xsR ls i).preds.length) (pM 1) (pM 2) (pM 2) (fun i=>(xsR ls i).sorts.map st) (fun i=>(xsR ls i).consts.flatMap cstC) (fun i=>(xsR ls i).preds.flatMap prdC) X call lf (ls.length - 1) (hd0 _ (by omega))) (by simp)
    have hlast : ∀ σ, keep σ (indexAddrv Tryd.prog 22 σ (strsV ls) (i6 (w6 ((↑ls.length : Int) - 1)))) = some (.eaddr (st (nS ls (ls.length - 1)) :: tS ls (ls.length - 1)), σ) := fun σ => by
      have e : w6 ((↑ls.length : Int) - 1) = ((↑(ls.length - 1) : Nat) : Int) := by
        have:((↑ls.length:Int) - 1)=((↑(ls.length - 1):Nat):Int):=by omega
        rw [this]
        exact w6_id (by omega) (by omega)
      rw [e]
      exact at_strs (by omega)
    by_cases hl:nS ls (ls.length - 1)=emp
    · rw [if_pos hl]
      exact ⟨_,_,f17_plff t ls (fun i=>bytesB (wsR ls i)) pK pK pK (fun i=>(xsR ls i).sorts.length) (fun i=>(xsR ls i).consts.length) (fun i=>(xsR ls i).preds.length) (pM 1) (pM 2) (pM 2) (fun i=>(xsR ls i).sorts.map st) (fun i=>(xsR ls i).consts.flatMap cstC) (fun i=>(xsR ls i).preds.flatMap prdC) X call lf (ls.length - 1) _ _ _ _ h40 L (hlast _) (by rw [hl,eqB_iff.2 (show emp=ByteArray.mk #[] from rfl)]; rfl) (vend1_plain (sgn0_owns ls _)),tup3_dec (A:=aG) (B:=aI) (D:=aI) (sgn0_dec ls _) rfl rfl⟩
    · rw [if_neg hl]
      exact ⟨_,_,f17_plft t ls (fun i=>bytesB (wsR ls i)) pK pK pK (fun i=>(xsR ls i).sorts.length) (fun i=>(xsR ls i).consts.length) (fun i=>(xsR ls i).preds.length) (pM 1) (pM 2) (pM 2) (fun i=>(xsR ls i).sorts.map st) (fun i=>(xsR ls i).consts.flatMap cstC) (fun i=>(xsR ls i).preds.flatMap prdC) X call lf (ls.length - 1) _ _ h40 L (hlast _) (by rw [show ((nS ls (ls.length - 1)).toList == (ByteArray.mk #[]).toList)=false from eqB_ne.2 hl]; rfl),tup3_dec (A:=aG) (B:=aI) (D:=aI) (sgn0_dec ls 0) rfl rfl⟩
  · rw [parseRs_bad (by omega) hbad hbef]
    by_cases ht1:textL (xsR ls (k + 1))=wsR ls (k + 1)
    · have hv := g6 k (by omega) [nil3, Ob.cells (sgnC (xsR ls (k + 1)))]
      rw [show validB (xsR ls (k + 1)) = false by
        cases h:validB (xsR ls (k + 1)) with
        | false=>rfl
        | true=>exact absurd ⟨ht1,h⟩ hbad] at hv
      have L := loop k _ _ (by omega) hbef (f17_r0_tff t ls (fun i => bytesB (wsR ls i)) pK pK pK (fun i => (xsR ls i).sorts.length) (fun i => (xsR ls i).consts.length) (fun i => (xsR ls i).preds.length) (pM 1) (pM 2) (pM 2) (fun i => (xsR ls i).sorts.map st) (fun i => (xsR ls i).consts.flatMap cstC) (fun i => (xsR ls i).preds.flatMap prdC) (xsR ls (k + 1)) X call lf k (nS ls k) (tS ls k) (nS ls k) (tS ls k) _ (bytesB (wsR ls (k + 1))) (textF (xsR ls (k + 1)))
        (hd1 k (by omega)) (g0 k (by omega) _) (g1 k (by omega)) (g0 k (by omega) _) (g3 k (by omega) _) (g4 k (by omega) _) (g5 k (by omega) _) (by rw [hcmp,decide_eq_true ht1]; rfl) hv) (by simp)
      have P:=f17_pltff t ls (fun i=>bytesB (wsR ls i)) pK pK pK (fun i=>(xsR ls i).sorts.length) (fun i=>(xsR ls i).consts.length) (fun i=>(xsR ls i).preds.length) (pM 1) (pM 2) (pM 2) (fun i=>(xsR ls i).sorts.map st) (fun i=>(xsR ls i).consts.flatMap cstC) (fun i=>(xsR ls i).preds.flatMap prdC) (xsR ls (k + 1)) X call lf k _ _ _ _ _ _ _ h40 L
      rw [hup k (by omega)] at P
      exact ⟨_,_,P,tup3_dec (A:=aG) (B:=aI) (D:=aI) (sgn0_dec ls 0) rfl rfl⟩
    · have L := loop k _ _ (by omega) hbef (f17_r0_tt t ls (fun i => bytesB (wsR ls i)) pK pK pK (fun i => (xsR ls i).sorts.length) (fun i => (xsR ls i).consts.length) (fun i => (xsR ls i).preds.length) (pM 1) (pM 2) (pM 2) (fun i => (xsR ls i).sorts.map st) (fun i => (xsR ls i).consts.flatMap cstC) (fun i => (xsR ls i).preds.flatMap prdC) (xsR ls (k + 1)) X call lf k (nS ls k) (tS ls k) (nS ls k) (tS ls k) _ (bytesB (wsR ls (k + 1))) (textF (xsR ls (k + 1)))
        (hd1 k (by omega)) (g0 k (by omega) _) (g1 k (by omega)) (g0 k (by omega) _) (g3 k (by omega) _) (g4 k (by omega) _) (g5 k (by omega) _) (by rw [hcmp,decide_eq_false ht1]; rfl)) (by simp)
      have P:=f17_pltt t ls (fun i=>bytesB (wsR ls i)) pK pK pK (fun i=>(xsR ls i).sorts.length) (fun i=>(xsR ls i).consts.length) (fun i=>(xsR ls i).preds.length) (pM 1) (pM 2) (pM 2) (fun i=>(xsR ls i).sorts.map st) (fun i=>(xsR ls i).consts.flatMap cstC) (fun i=>(xsR ls i).preds.flatMap prdC) (xsR ls (k + 1)) X call lf k _ _ _ _ _ _ _ h40 L
      rw [hup k (by omega)] at P
      exact ⟨_,_,P,tup3_dec (A:=aG) (B:=aI) (D:=aI) (sgn0_dec ls 0) rfl rfl⟩
end Go.Proofs.Sig
end
/- Signature: plain law: Parse answers as the reference's Parse. -/
section
open Go Go.Vm Go.Proofs
namespace Go.Proofs.Sig
variable [Fixed]
theorem words_cut (line:ByteArray):wordsL line=cutL 32 line:=by
  have h:=split_spl line
  show splitL line blank=(spl 32 line.data.toList).map bytesB
  rw [← h,List.map_map]
  have:(bytesB ∘ fun x:ByteArray=>x.data.toList)=id:=by funext x; rfl
  rw [this,List.map_id]
theorem valid_snoc {x y:Sgn} {s:ByteArray} {d:Dcl} (h:declsOf y=declsOf x ++ [(s,d)]):validB y=(validB x && declB (declsOf x) s d):=by
  have e1 : ∀ i, i < (declsOf x).length → okAt (declsOf y) i = okAt (declsOf x) i := fun i hi => by
    unfold okAt
    rw [h,List.take_append_of_le_length (by omega),nD_lt (by rw [List.length_append]; omega),nD_lt hi,List.getElem_append_left hi]
  have e2 : okAt (declsOf y) (declsOf x).length = declB (declsOf x) s d := by
    unfold okAt
    rw [h,List.take_left,nD_lt (by rw [List.length_append]; simp),List.getElem_append_right (Nat.le_refl _)]
    simp
  have hl:(declsOf y).length=(declsOf x).length + 1:=by rw [h,List.length_append]; rfl
  unfold validB
  rw [hl,List.range_succ,List.all_append]
  congr 1
  · rw [Bool.eq_iff_iff, List.all_eq_true, List.all_eq_true]
    exact ⟨fun hh i hi=>(e1 i (List.mem_range.1 hi)).symm.trans (hh i hi),fun hh i hi=>(e1 i (List.mem_range.1 hi)).trans (hh i hi)⟩
  · simp only [List.all_cons, List.all_nil, Bool.and_true]
    exact e2
theorem same_none {l m:List UInt8} (h:m ≠ []) : ¬ l=l ++ m:=fun e=>h (by
  have:=congrArg List.length e
  rw [List.length_append] at this
  exact List.eq_nil_of_length_eq_zero (by omega))
def readOk (x:Sgn) (line:ByteArray) (y:Sgn):Prop:=textL y=textL x ++ (line.data.toList ++ [10])∧validB y=true
theorem con_head (c:Cst):∃ r,lnC c=99::r:=⟨_,rfl⟩
theorem pre_head (p:Prd):∃ r,lnP p=112::r:=⟨_,rfl⟩
theorem sort_head (s:ByteArray):∃ r,lnS s=115::r:=⟨_,rfl⟩
theorem wrap0 {x:Sgn} (hk:okG x=true):(IntKind.wrap .i64 ((↑x.consts.length:Int) + (↑x.preds.length:Int)) == 0)=decide (x.consts.length + x.preds.length=0):=by
  obtain ⟨hns,hnc,hnp,_,_,_⟩:=okG_iff.1 hk
  rw [show IntKind.wrap .i64 ((↑x.consts.length:Int) + (↑x.preds.length:Int))=(↑x.consts.length:Int) + (↑x.preds.length:Int) from w6_id (by omega) (by omega)]
  by_cases h:x.consts.length + x.preds.length=0
  · rw [decide_eq_true h,beq_iff_eq]; omega
  · rw [decide_eq_false h,beq_eq_false_iff_ne]; omega
/-- A line is read where the reference takes it, and as the reference takes it. -/
theorem read_with {x:Sgn} {line:ByteArray} (hk:okG x=true) (hv:validB x=true):(readF x line=some (withF x line)∧readOk x line (withF x line)) ∨ (readF x line=none ∧ ¬ readOk x line (withF x line)):=by
  obtain ⟨w0,ws,hl⟩:=List.exists_cons_of_ne_nil (cutL_ne 32 line)
  have hline:=line_of hl
  have hnone : ¬ readOk x line x:=fun h=>same_none (by simp) h.1
  unfold readF withF
  rw [words_cut,hl]
  unfold readOk
  rw [← hline]
  unfold readOk at hnone
  rw [← hline] at hnone
  generalize hL:w0::ws=l at *
  have h0:nS l 0=w0:=by rw [← hL]; rfl
  cases h2:decide ((↑l.length:Int) ≥ 2) with
  | false =>
    have hlen:l.length < 2:=by have:=of_decide_eq_false h2; omega
    have e1:((↑l.length:Int) == 2)=false:=by rw [beq_eq_false_iff_ne]; omega
    have e2:((↑l.length:Int) == 3)=false:=by rw [beq_eq_false_iff_ne]; omega
    have e3:decide ((↑l.length:Int) > 2)=false:=decide_eq_false (by omega)
    have hw:withG x l=x:=by unfold withG; rw [e1,e2,e3]; simp
    right
    rw [hw]
    exact ⟨by unfold readG; rw [h2]; rfl,hnone⟩
  | true =>
  cases k1:isK (nS l 0) kSort with
  | true =>
    have n1:=isK_excl k1 kSC
    have n2:=isK_excl k1 kSP
    cases e1:((↑l.length:Int) == 2) with
    | false =>
      have hw:withG x l=x:=by unfold withG; rw [k1,n1,n2,e1]; rfl
      right
      rw [hw]
      exact ⟨by unfold readG; rw [h2,k1,e1]; rfl,hnone⟩
    | true =>
      have e:=list2 e1
      have hk0:=isK_eq k1
      have hw:withG x l = { x with sorts:=x.sorts ++ [nS l 1] }:=by unfold withG; rw [k1,e1]; rfl
      have hln : lineL w0 ws = lnS (nS l 1) := by
        rw [e,hk0] at hL
        obtain ⟨rfl,hws⟩:=List.cons.inj hL
        rw [hws]; rfl
      have hr : readG x l = if (IntKind.wrap .i64 ((↑x.consts.length : Int) + (↑x.preds.length : Int)) == 0) && declB (declsOf x) (nS l 1) ⟨kSort, []⟩ then some { x with sorts := x.sorts ++ [nS l 1] } else none := by
        unfold readG
        rw [h2,k1,e1]; rfl
      rw [hw,hr,wrap0 hk,hln,textL_sort]
      by_cases hz:x.consts.length + x.preds.length=0
      · have hc : x.consts = [] := List.eq_nil_of_length_eq_zero (by omega)
        have hp:x.preds=[]:=List.eq_nil_of_length_eq_zero (by omega)
        rw [decide_eq_true hz,valid_snoc (decls_add_sort (s:=nS l 1) hc hp),hv,Bool.true_and]
        have ht : x.sorts.flatMap lnS ++ (lnS (nS l 1) ++ (x.consts.flatMap lnC ++ x.preds.flatMap lnP)) = textL x ++ lnS (nS l 1) := by
          rw [textL,hc,hp]; simp
        cases hd:declB (declsOf x) (nS l 1) ⟨kSort,[]⟩ with
        | true=>exact .inl ⟨rfl,ht,rfl⟩
        | false=>exact .inr ⟨rfl,fun h=>by cases h.2⟩
      · rw [decide_eq_false hz]
        right
        refine ⟨rfl,fun h => ?_⟩
        have h1:=h.1
        rw [textL,List.append_assoc] at h1
        have h1:=List.append_cancel_left h1
        obtain ⟨r,hr⟩:=sort_head (nS l 1)
        cases hc:x.consts with
        | cons c cs =>
          obtain ⟨q,hq⟩:=con_head c
          rw [hc,List.flatMap_cons,hq,hr] at h1
          simp only [List.cons_append,List.append_assoc,List.cons.injEq] at h1
          exact absurd h1.1 (by decide)
        | nil =>
          cases hp:x.preds with
          | nil=>rw [hc,hp] at hz; exact hz rfl
          | cons p ps =>
            obtain ⟨q,hq⟩:=pre_head p
            rw [hc,hp,List.flatMap_cons,hq,hr] at h1
            simp only [List.flatMap_nil,List.nil_append,List.cons_append,List.append_assoc,List.cons.injEq] at h1
            exact absurd h1.1 (by decide)
  | false =>
  cases k2:isK (nS l 0) kCon with
  | true =>
    have n2:=isK_excl k2 kCP
    cases e1:((↑l.length:Int) == 3) with
    | false =>
      have hw:withG x l=x:=by unfold withG; rw [k1,k2,n2,e1]; rfl
      right
      rw [hw]
      exact ⟨by unfold readG; rw [h2,k1,k2,e1]; rfl,hnone⟩
    | true =>
      have e:=list3 e1
      have hk0:=isK_eq k2
      have hw:withG x l = { x with consts:=x.consts ++ [⟨nS l 1,nS l 2⟩] }:=by unfold withG; rw [k1,k2,e1]; rfl
      have hln : lineL w0 ws = lnC ⟨nS l 1, nS l 2⟩ := by
        rw [e,hk0] at hL
        obtain ⟨rfl,hws⟩:=List.cons.inj hL
        rw [hws]; rfl
      have hdr : l.drop 2 = [nS l 2] := by
        have:=congrArg (List.drop 2) e
        exact this
      have hr : readG x l = if ((↑x.preds.length : Int) == 0) && declB (declsOf x) (nS l 1) ⟨kCon, [nS l 2]⟩ then some { x with consts := x.consts ++ [⟨nS l 1, nS l 2⟩] } else none := by
        unfold readG
        rw [h2,k1,k2,e1,hdr,hk0]; rfl
      rw [hw,hr,hln,textL_con]
      by_cases hz:x.preds.length=0
      · have hp : x.preds = [] := List.eq_nil_of_length_eq_zero hz
        rw [show ((↑x.preds.length:Int) == 0)=true by rw [beq_iff_eq]; omega,valid_snoc (decls_add_con (c:=⟨nS l 1,nS l 2⟩) hp),hv,Bool.true_and]
        have ht : x.sorts.flatMap lnS ++ (x.consts.flatMap lnC ++ (lnC ⟨nS l 1, nS l 2⟩ ++ x.preds.flatMap lnP)) = textL x ++ lnC ⟨nS l 1, nS l 2⟩ := by
          rw [textL,hp]; simp
        cases hd:declB (declsOf x) (nS l 1) ⟨kCon,[nS l 2]⟩ with
        | true=>exact .inl ⟨rfl,ht,rfl⟩
        | false=>exact .inr ⟨rfl,fun h=>by cases h.2⟩
      · rw [show ((↑x.preds.length : Int) == 0) = false by rw [beq_eq_false_iff_ne]; omega]
        right
        refine ⟨rfl,fun h => ?_⟩
        have h1:=h.1
        rw [textL,List.append_assoc,List.append_assoc] at h1
        have h1:=List.append_cancel_left (List.append_cancel_left h1)
        obtain ⟨r,hr⟩:=con_head ⟨nS l 1,nS l 2⟩
        cases hp:x.preds with
        | nil=>rw [hp] at hz; exact hz rfl
        | cons p ps =>
          obtain ⟨q,hq⟩:=pre_head p
          rw [hp,List.flatMap_cons,hq,hr] at h1
          simp only [List.cons_append,List.append_assoc,List.cons.injEq] at h1
          exact absurd h1.1 (by decide)
  | false =>
  cases k3:isK (nS l 0) kPre with
  | false =>
    have hw:withG x l=x:=by unfold withG; rw [k1,k2,k3]; rfl
    right
    rw [hw]
    exact ⟨by unfold readG; rw [h2,k1,k2,k3]; rfl,hnone⟩
  | true =>
    have hk0:=isK_eq k3
    have hr : readG x l = if declB (declsOf x) (nS l 1) ⟨kPre, l.drop 2⟩ then some { x with preds := x.preds ++ [⟨nS l 1, l.drop 2⟩] } else none := by
      unfold readG
      rw [h2,k1,k2,k3,hk0]; rfl
    cases e1:decide ((↑l.length:Int) > 2) with
    | false =>
      have hw:withG x l=x:=by unfold withG; rw [k1,k2,k3,e1]; rfl
      have hlen:l.length ≤ 2:=by have:=of_decide_eq_false e1; omega
      right
      rw [hw,hr]
      refine ⟨?_,hnone⟩
      rw [List.drop_eq_nil_of_le hlen,if_neg]
      unfold declB arityB
      rw [show eqB kPre kPre=true by kernel_rfl]
      simp
    | true =>
      obtain ⟨e,_⟩:=listN e1
      have hw:withG x l = { x with preds:=x.preds ++ [⟨nS l 1,l.drop 2⟩] }:=by unfold withG; rw [k1,k2,k3,e1]; rfl
      have hln : lineL w0 ws = lnP ⟨nS l 1, l.drop 2⟩ := by
        have hL2:=hL.trans e
        rw [hk0] at hL2
        obtain ⟨rfl,hws⟩:=List.cons.inj hL2
        rw [hws]; rfl
      rw [hw,hr,hln,textL_pre,valid_snoc (decls_add_pre (p:=⟨nS l 1,l.drop 2⟩)),hv,Bool.true_and]
      cases hd:declB (declsOf x) (nS l 1) ⟨kPre,l.drop 2⟩ with
      | true=>exact .inl ⟨rfl,rfl,rfl⟩
      | false=>exact .inr ⟨rfl,fun h=>by cases h.2⟩
theorem parse_ls : ∀ (ls : List (List UInt8)) (x : Sgn) (n w : Nat), OkW x n w → validB x = true → (∀ l ∈ ls, l.length ≤ mega) → n + ls.length ≤ mega + 1 → parseLs x n ls = parseRs x (textL x) n (ls.map bytesB)
  | [],_,_,_,_,_,_,_=>rfl
  | [l], x, n, w, _, _, _, _ => by
    simp only [parseLs,List.map_cons,List.map_nil,parseRs]
    by_cases h:l=[]
    · rw [if_pos h,if_pos (by rw [h]; rfl)]
    · rw [if_neg h,if_neg (fun e=>h (by have:=congrArg (·.data.toList) e; exact this))]
  | l :: m :: rest, x, n, w, hw, hv, hl, hn => by
    simp only [List.length_cons] at hn
    have hstep:=hw.step (line:=bytesB l) (hl l (by simp))
    have hmega:mega=1000000:=rfl
    rcases read_with (line:=bytesB l) (hw.ok (by omega)) hv with ⟨h1,h2,h3⟩ | ⟨h1,h2⟩
    · rw [parseLs, h1]
      show parseLs (withF x (bytesB l)) (n + 1) (m::rest)=parseRs x (textL x) n (bytesB l::bytesB m::rest.map bytesB)
      rw [parse_ls (m::rest) _ (n + 1) _ hstep h3 (fun y hy=>hl y (List.mem_cons_of_mem _ hy)) (by simp only [List.length_cons]; omega)]
      rw [parseRs,if_pos ⟨h2,h3⟩,h2]; rfl
    · rw [parseLs, h1]
      show _=parseRs x (textL x) n (bytesB l::bytesB m::rest.map bytesB)
      rw [parseRs]
      exact (if_neg h2).symm
theorem parse_eq {t:ByteArray} (ht:t.size ≤ mega):parseF t=parseRs eG [] 0 (cutL 10 t):=by
  have h1:=spl_total 10 t.data.toList
  have h2:=spl_len_le 10 t.data.toList
  rw [size_list] at ht
  exact parse_ls _ eG 0 0 okW_nil (by decide) (fun l hl=>by have:=h1 l hl; omega) (by omega)
end Go.Proofs.Sig
end
/- Signature: sameness of signatures. -/
section
open Go Go.Vm Go.Proofs
namespace Go.Proofs.Sig
def sameB (x y:Sgn):Bool:=decide (x.sorts=y.sorts∧x.consts=y.consts∧x.preds=y.preds)
theorem sameB_self (x:Sgn):sameB x x=true:=decide_eq_true ⟨rfl,rfl,rfl⟩
variable [Fixed] {X:Ext} {call:Caller} {lf:Nat}
theorem same18 {x y:Sgn} (hk:okG x=true) (hlf:1000001 < lf) (h42:∀ σ,callv X call false 42 [strsV x.sorts,strsV y.sorts] σ 0=some (bo (eqSs x.sorts y.sorts),σ))
    (h25:∀ p q σ,p ∈ x.preds→callv X call true 25 [.agg (prdC p),.agg (prdC q)] σ 0=some (bo (eqPr p q),σ)) :
    ∃ σ',vbody Tryd.prog X call lf noFg Tryd.f18 (codeOf Tryd.f18) [.agg (sgnC x),.agg (sgnC y)] [] 0=some (bo (sameB x y),σ'):=by
  obtain ⟨hns,hnc,hnp,hss,hcc,hpp⟩:=okG_iff.1 hk
  have hbig:big=140737488355328:=rfl
  have hf:∀ h : ¬ (x.sorts=y.sorts∧x.consts=y.consts∧x.preds=y.preds),sameB x y=false:=fun h=>decide_eq_false h
  have hs:=h42 [Ob.cells (sgnC x),Ob.cells (sgnC y)]
  cases hS:eqSs x.sorts y.sorts with
  | false =>
    rw [hS] at hs
    rw [hf fun h=>of_decide_eq_false hS h.1]
    exact ⟨_,f18_pf x y X call lf hs⟩
  | true =>
  rw [hS] at hs
  have hS' := of_decide_eq_true hS
  by_cases hC:x.consts.length=y.consts.length
  case neg =>
    rw [hf fun h=>hC (by rw [h.2.1])]
    exact ⟨_,f18_ptt x y X call lf hs (neq_true hC)⟩
  by_cases hP:x.preds.length=y.preds.length
  case neg =>
    rw [hf fun h=>hP (by rw [h.2.2])]
    exact ⟨_,f18_ptft x y X call lf hs (neq_false hC) (neq_true hP)⟩
  have hcst : ∀ c d : Cst, (!(c.name.toList == d.name.toList && (c.sort.toList == d.sort.toList && true))) = !decide (c = d) := fun c d => by
    congr 1
    rw [Bool.and_true,Bool.eq_iff_iff,Bool.and_eq_true,eqB_iff,eqB_iff,decide_eq_true_iff]
    constructor
    · rintro ⟨a,b⟩; cases c; cases d; simp only at a b; rw [a,b]
    · rintro rfl; exact ⟨rfl,rfl⟩
  have o0 : ∀ i, (i < x.consts.length → nC x.consts i = nC y.consts i → f18_o0 x i (nC x.consts i).name (nC x.consts i).sort (nC y.consts i).name (nC y.consts i).sort = 0) ∧ (i < x.consts.length → ¬ nC x.consts i = nC y.consts i → f18_o0 x i (nC x.consts i).name (nC x.consts i).sort (nC y.consts i).name (nC y.consts i).sort = 1) ∧ (x.consts.length ≤ i → f18_o0 x i (nC x.consts i).name (nC x.consts i).sort (nC y.consts i).name (nC y.consts i).sort = 2) := by
    intro i
    unfold f18_o0
    refine ⟨fun a b => ?_,fun a b => ?_,fun a => ?_⟩
    · rw [dt a,hcst,decide_eq_true b]; rfl
    · rw [dt a,hcst,decide_eq_false b]; rfl
    · rw [df a]
  have B0:=fun i=>f18_B0 x y X call lf i (nC x.consts i).name (nC x.consts i).sort (tC x.consts i) (nC y.consts i).name (nC y.consts i).sort (tC y.consts i) (fun h=>at_cst (dlt h)) (fun h=>at_cst (hC ▸ dlt h)) (fun h=>up (dlt h) (by omega))
  rcases first_fail (p:=fun i=>nC x.consts i=nC y.consts i) x.consts.length with hall | ⟨k,hk1,hbad,hbef⟩
  rotate_left
  · rw [hf fun h => hbad (by rw [h.2.1])]
    have L:=f18_L0 x y X call lf k _ _ (by omega) (fun j hj=>(B0 j).1 ((o0 j).1 (by omega) (hbef j hj))) ((B0 k).2.1 ((o0 k).2.1 hk1 hbad)) (by simp)
    exact ⟨_,f18_ptffltt x y X call lf k _ _ _ _ _ _ hs (neq_false hC) (neq_false hP) L⟩
  have hCe:x.consts=y.consts:=list_ext hC hall
  have L0:=f18_L0 x y X call lf x.consts.length _ _ (by omega) (fun j hj=>(B0 j).1 ((o0 j).1 hj (hall j hj))) ((B0 _).2.2 ((o0 _).2.2 (Nat.le_refl _))) (by simp)
  have o1 : ∀ i b, (i < x.preds.length → b = true → f18_o1 x i b = 0) ∧ (i < x.preds.length → b = false → f18_o1 x i b = 1) ∧ (x.preds.length ≤ i → f18_o1 x i b = 2) := by
    intro i b
    unfold f18_o1
    exact ⟨fun a c=>by rw [dt a,c],fun a c=>by rw [dt a,c],fun a=>by rw [df a]⟩
  have B1:=fun i=>f18_B1 x y X call lf x.consts.length i (nP x.preds i).name (nP x.preds i).args (tP x.preds i) (nP y.preds i).name (nP y.preds i).args (tP y.preds i) (eqPr (nP x.preds i) (nP y.preds i)) (fun h=>at_prd (dlt h)) (fun h=>at_prd (hP ▸ dlt h)) (fun h=>h25 (nP x.preds i) (nP y.preds i) _ (by rw [nP,getD_lt (dlt h)]; exact List.getElem_mem _)) (fun h=>up (dlt h) (by omega))
  rcases first_fail (p:=fun i=>nP x.preds i=nP y.preds i) x.preds.length with hall | ⟨k,hk1,hbad,hbef⟩
  rotate_left
  · rw [hf fun h => hbad (by rw [h.2.2])]
    have L:=f18_L1 x y x.consts.length X call lf k _ _ (by omega) (fun j hj=>(B1 j).1 ((o1 j _).1 (by omega) (decide_eq_true (hbef j hj)))) ((B1 k).2.1 ((o1 k _).2.1 hk1 (decide_eq_false hbad))) (by simp)
    exact ⟨_,f18_ptfflfltf x y X call lf x.consts.length k _ _ _ _ _ _ hs (neq_false hC) (neq_false hP) L0 L⟩
  have hPe:x.preds=y.preds:=list_ext hP hall
  have L1:=f18_L1 x y x.consts.length X call lf x.preds.length _ _ (by omega) (fun j hj=>(B1 j).1 ((o1 j _).1 hj (decide_eq_true (hall j hj)))) ((B1 _).2.2 ((o1 _ _).2.2 (Nat.le_refl _))) (by simp)
  rw [show sameB x y=true from decide_eq_true ⟨hS',hCe,hPe⟩]
  exact ⟨_,f18_ptfflflf x y X call lf _ _ hs (neq_false hC) (neq_false hP) L0 L1⟩
end Go.Proofs.Sig
end
/- Signature: the law of Parse, walked (printed) -/
section
open Go Go.Vm Go.Proofs
namespace Go.Proofs.Sig
theorem f4_pt (s0:ByteArray)(X:Ext)(call:Caller)(lf:Nat)
 (h0:cvq X call false 12 [] [] (bo true))
 (h1:decide ((↑(ByteArray.size s0):Int)>400)=true)
 (h2:cvq X call false 12 [] [] (bo true)):vbody Tryd.prog X call lf noFg Tryd.f4 (codeOf Tryd.f4) [st s0] [] 0=some (bo true,[]) :=
  along_sound (ans:=[(3,Ans.v (bo true)),(11,Ans.b true),(15,Ans.v (bo true))]) (by kernel_rfl) (ai h0 (ai h1 (ai h2 trivial)))
theorem f4_pftt (s0:ByteArray)(x1:Sgn)(i2 i3:Int)(X:Ext)(call:Caller)(lf:Nat)
 (h0:cvq X call false 12 [] [] (bo true))
 (h1:decide ((↑(ByteArray.size s0):Int)>400)=false)
 (h2:cvq X call false 16 [st s0] [] (AV.tup [AV.agg (gQ x1),i6 i2,i6 i3]))
 (h3:cvq X call false 17 [st s0] [Ob.cells (gQ x1)] (AV.tup [AV.agg (gQ x1),i6 i2,i6 i3]))
 (h4:(i2 == i2)=true)
 (h5:(i3 == i3)=true)
 (h6:cvq X call false 18 [AV.agg (gQ x1),AV.agg (gQ x1)] [Ob.cells (gQ x1),Ob.cells (gQ x1)] (bo true)):vbody Tryd.prog X call lf noFg Tryd.f4 (codeOf Tryd.f4) [st s0] [] 0=some (bo true,[Ob.cells (gQ x1),Ob.cells (gQ x1)]) :=
  along_sound (ans:=[(3,Ans.v (bo true)),(11,Ans.b false),(16,Ans.v (AV.tup [AV.agg (gQ x1),i6 i2,i6 i3])),(27,Ans.v (AV.tup [AV.agg (gQ x1),i6 i2,i6 i3])),(39,Ans.b true),(46,Ans.b true),(54,Ans.v (bo true))]) (by kernel_rfl) (ai h0 (ai h1 (ai h2 (ai h3 (ai h4 (ai h5 (ai h6 trivial)))))))
end Go.Proofs.Sig
end
/- Signature: cut, with, Text, Same and Parse of the reference in specifications; the law of Parse. -/
section
open Go Go.Vm Go.Proofs
namespace Go.Proofs.Sig
variable [Fixed] {X:Ext}
def sp40:List AV→Option AV
  | [.str s,.int .u8 n]=>if n=10∧s.size ≤ 3000000 then some (aSs.enc (cutL 10 s)) else if n=32∧s.size ≤ 3000000 then some (aSs.enc (cutL 32 s)) else none
  | _=>none
def gTx (x:Sgn):Option AV:=if okG x && Nat.ble (textL x).length 1000000000 then some (st (textF x)) else none
def gSame (x y:Sgn):Option AV:=if okG x then some (bo (sameB x y)) else none
def gWith (x:Sgn) (s:ByteArray):Option AV:=if okG x && Nat.ble s.size mega then some (aG.enc (withF x s)) else none
def S7:Vm.Spec:=Vm.Spec.on (Vm.Spec.on (Vm.Spec.on S6 40 sp40) 29 (sp1 aG gTx)) 18 (sp2 aG aG gSame)
def S8:Vm.Spec:=Vm.Spec.on S7 41 (sp2 aG aS gWith)
def S9:Vm.Spec:=Vm.Spec.on S8 17 (sp1 aS gPar)
theorem ltGG (x y:Sgn):AV.ltAll 0 [AV.agg (sgnC x),AV.agg (sgnC y)]=true:=by
  have h1:=aG.lt x
  have h2:=aG.lt y
  rw [aG_enc] at h1 h2
  simp only [AV.ltAll,h1,h2,Bool.and_self]
theorem aR_enc (x:Sgn) (a b:Int):aR.enc (x,a,b) = .tup [.agg (sgnC x),i6 a,i6 b]:=by show AV.tup [aG.enc x,_,_]=_; rw [aG_enc]; rfl
theorem parse_ok {t:ByteArray} (ht:t.size ≤ mega):okG (parseF t).1=true:=by
  rw [parse_eq ht]
  have hne:=List.length_pos_iff.2 (cutL_ne 10 t)
  have hW:=okW_at (fun i=>cut_len 10 ht i)
  have hcc:=cut_count 10 ht
  generalize cutL 10 t=ls at *
  have hcase:(∀ j,j < ls.length - 1→goodR ls j) ∨ ∃ k,k < ls.length - 1 ∧ ¬ goodR ls k∧∀ j,j < k→goodR ls j:=first_fail (ls.length - 1)
  rcases hcase with hall | ⟨k,hk,hbad,hbef⟩
  · rw [parseRs_end (k := ls.length - 1) (by omega) hall]
    split
    · exact (hW _).ok (by omega)
    · rfl
  · rw [parseRs_bad (by omega) hbad hbef]; rfl
section
variable (hX:ExtOk Tryd.prog X) (hM:XS X) (ha:∀ f,X.adopt f=false)
include hX hM ha
theorem S7_ok:SpecOk Tryd.prog S7:=by
  have hC:CallOk Tryd.prog (callerOf S6):=callerOf_ok (S6_ok hX hM ha)
  refine SpecOk.on2 (SpecOk.on1 ((S6_ok hX hM ha).on fun vs r h => ?_) fun x r h => ?_) fun x y r h => ?_
  · unfold sp40 at h
    split at h
    · rename_i s n
      split at h
      · rename_i hn
        obtain ⟨rfl,hs⟩:=hn
        simp only [Option.some.injEq] at h
        subst h
        obtain ⟨r,σ',hv,hd⟩:=cut40 (X:=X) (call:=callerOf S6) (lf:=3000001) (s:=s) (c:=10) hs (by omega)
        exact run_res (B:=aSs) (y:=cutL 10 s) hX hC (hM.dom 40 rfl rfl) Tryd.func40 (by kernel_rfl) hv hd
      · split at h
        · rename_i hn
          obtain ⟨rfl,hs⟩:=hn
          simp only [Option.some.injEq] at h
          subst h
          obtain ⟨r,σ',hv,hd⟩:=cut40 (X:=X) (call:=callerOf S6) (lf:=3000001) (s:=s) (c:=32) hs (by omega)
          exact run_res (B:=aSs) (y:=cutL 32 s) hX hC (hM.dom 40 rfl rfl) Tryd.func40 (by kernel_rfl) hv hd
        · cases h
    · cases h
  · unfold gTx at h
    split at h
    · rename_i hk
      rw [Bool.and_eq_true] at hk
      simp only [Option.some.injEq] at h
      subst h
      rw [aG_enc]
      obtain ⟨σ',hv⟩:=text29 (X:=X) (call:=callerOf S6) (lf:=1000002) hk.1 (Nat.le_of_ble_eq_true hk.2) (by omega)
      exact run_res (B:=aS) (y:=textF x) hX hC (hM.dom 29 rfl rfl) Tryd.func29 (by kernel_rfl) hv rfl
    · cases h
  · unfold gSame at h
    split at h
    · rename_i hk
      simp only [Option.some.injEq] at h
      subst h
      rw [aG_enc,aG_enc]
      obtain ⟨hns,_,_,_,_,hpp⟩:=okG_iff.1 hk
      obtain ⟨σ', hv⟩ := same18 (X := X) (call := callerOf S6) (lf := 1000002) (x := x) (y := y) hk (by omega)
        (fun σ=>cAt hM ha (B:=aB) rfl (ltLL x.sorts y.sorts) (caller_at (S6_S5 (S5_42 y.sorts (by omega)) rfl rfl)))
        (fun p q σ hp=>cAt hM ha (B:=aB) rfl (ltPP p q) (caller_at (S6_25 q (by have:=(hpp p hp).2.1; omega))))
      exact run_res (B:=aB) (y:=sameB x y) hX hC (hM.dom 18 rfl rfl) Tryd.func18 (by kernel_rfl) hv rfl
    · cases h
omit hX hM ha in
theorem S7_40 {s:ByteArray} (c:Int) (hc:c=10 ∨ c=32) (h:s.size ≤ 3000000):S7 40 [st s,.int .u8 c]=some (aSs.enc (cutL (if c=10 then 10 else 32) s)):=by
  unfold S7
  rw [spec_off rfl,spec_off rfl,spec_on]
  rcases hc with rfl | rfl
  · exact if_pos ⟨rfl,h⟩
  · have e : sp40 [st s, .int .u8 32] = if (32 : Int) = 10 ∧ s.size ≤ 3000000 then some (aSs.enc (cutL 10 s)) else if (32 : Int) = 32 ∧ s.size ≤ 3000000 then some (aSs.enc (cutL 32 s)) else none := rfl
    rw [e,if_neg (by omega),if_pos ⟨rfl,h⟩]; rfl
omit hX hM ha in
theorem S7_29 {x:Sgn} (hk:okG x=true) (h:(textL x).length ≤ 1000000000):S7 29 [.agg (sgnC x)]=some (st (textF x)):=by
  unfold S7
  rw [spec_off rfl,spec_on,sp1_at (A:=aG) (x:=x) (aG_dec x)]
  exact if_pos (by rw [hk,Nat.ble_eq_true_of_le h]; rfl)
omit hX hM ha in
theorem S7_18 {x:Sgn} (y:Sgn) (hk:okG x=true):S7 18 [.agg (sgnC x),.agg (sgnC y)]=some (bo (sameB x y)):=by
  unfold S7
  rw [spec_on,sp2_at (A:=aG) (B:=aG) (x:=x) (y:=y) (aG_dec x) (aG_dec y)]
  exact if_pos hk
omit hX hM ha in
theorem S7_S6 {f:FuncId} {vs:List AV} {r:AV} (h:S6 f vs=some r) (h1:Nat.beq f 40=false) (h2:Nat.beq f 29=false) (h3:Nat.beq f 18=false):S7 f vs=some r:=by
  unfold S7
  rw [spec_off h3,spec_off h2,spec_off h1]
  exact h
theorem S8_ok:SpecOk Tryd.prog S8:=by
  have hC:CallOk Tryd.prog (callerOf S7):=callerOf_ok (S7_ok hX hM ha)
  refine SpecOk.on2 (S7_ok hX hM ha) fun x s r h => ?_
  unfold gWith at h
  split at h
  · rename_i hk
    rw [Bool.and_eq_true] at hk
    have hs:s.size ≤ mega:=Nat.le_of_ble_eq_true hk.2
    have hmega:mega=1000000:=rfl
    simp only [Option.some.injEq] at h
    subst h
    rw [aG_enc]
    have hcc:=cut_count 32 hs
    obtain ⟨r, σ', hv, hd⟩ := with41 (X := X) (call := callerOf S7) (lf := 0) (x := x) (s := s) (l := cutL 32 s) hk.1 (List.length_pos_iff.2 (cutL_ne 32 s)) (by omega) (fun σ => by
      have:=cAt hM ha (call:=callerOf S7) (f:=40) (B:=aSs) (dr:=false) (σ:=σ) rfl rfl (caller_at (S7_40 (s:=s) 32 (.inr rfl) (by omega)))
      rw [aSs_enc] at this
      exact this)
    exact run_res (B:=aG) (y:=withF x s) hX hC (hM.dom 41 rfl rfl) Tryd.func41 (by kernel_rfl) hv hd
  · cases h
omit hX hM ha in
theorem S8_S7 {f:FuncId} {vs:List AV} {r:AV} (h:S7 f vs=some r) (h1:Nat.beq f 41=false):S8 f vs=some r:=by
  unfold S8
  rw [spec_off h1]
  exact h
omit hX hM ha in
theorem S8_41 {v:AV} {x:Sgn} {s:ByteArray} (hd:aG.dec v=some x) (hk:okG x=true) (h:s.size ≤ mega):S8 41 [v,st s]=some (aG.enc (withF x s)):=by
  unfold S8
  rw [spec_on,sp2_at (A:=aG) (B:=aS) (x:=x) (y:=s) hd rfl]
  exact if_pos (by rw [hk,Nat.ble_eq_true_of_le h]; rfl)
theorem S9_ok:SpecOk Tryd.prog S9:=by
  have hC:CallOk Tryd.prog (callerOf S8):=callerOf_ok (S8_ok hX hM ha)
  refine SpecOk.on1 (S8_ok hX hM ha) fun t r h => ?_
  unfold gPar at h
  split at h
  · rename_i ht
    have ht:t.size ≤ mega:=Nat.le_of_ble_eq_true ht
    have hmega:mega=1000000:=rfl
    simp only [Option.some.injEq] at h
    subst h
    have hc : Calls17 X (callerOf S8) := by
      refine ⟨fun s σ hs => ?_,fun v x line hd hl hk hs => ?_,fun x σ hk htx => ?_,fun x σ hk => ?_⟩
      · have := cAt hM ha (call := callerOf S8) (f := 40) (B := aSs) (dr := false) (σ := σ) rfl rfl (caller_at (S8_S7 (S7_40 (s := s) 10 (.inl rfl) (by omega)) rfl))
        rw [aSs_enc] at this
        exact this
      · have hl2 : AV.ltAll 0 [v, st line] = true := by
          show (AV.lt 0 v && (AV.lt 0 (st line) && true))=true
          rw [hl]; rfl
        have h0 : call0 (callerOf S8) 41 [v, st line] [] 0 = some (aG.enc (withF x line), []) := by
          unfold call0
          rw [if_pos hl2]
          exact caller_at (S8_41 hd hk hs)
        have:=cAt hM ha (call:=call0 (callerOf S8)) (f:=41) (B:=aG) (dr:=true) (σ:=[]) rfl hl2 h0
        rw [aG_enc] at this
        exact this
      · exact cAt hM ha (B:=aS) rfl (ltG x) (caller_at (S8_S7 (S7_29 hk htx) rfl))
      · exact cAt hM ha (B:=aB) rfl (ltG x) (caller_at (S8_S7 (S7_S6 (S6_S4 (S4_S3 (S3_15 hk) rfl) rfl rfl rfl rfl rfl) rfl rfl rfl) rfl))
    obtain ⟨r,σ',hv,hd⟩:=parse17 (X:=X) (call:=callerOf S8) (lf:=1000003) hc ht (by omega)
    rw [← parse_eq ht] at hd
    exact run_res (B:=aR) (y:=parseF t) hX hC (hM.dom 17 rfl rfl) Tryd.func17 (by kernel_rfl) hv hd
  · cases h
omit hX hM ha in
theorem S9_17 {t:ByteArray} (h:t.size ≤ mega):S9 17 [st t]=some (aR.enc (parseF t)):=by
  unfold S9
  rw [spec_on,sp1_at (A:=aS) (x:=t) rfl]
  exact if_pos (Nat.ble_eq_true_of_le h)
omit hX hM ha in
theorem S9_S7 {f:FuncId} {vs:List AV} {r:AV} (h:S7 f vs=some r) (h1:Nat.beq f 41=false) (h2:Nat.beq f 17=false):S9 f vs=some r:=by
  unfold S9
  rw [spec_off h2]
  exact S8_S7 h h1
omit hX hM ha in
theorem S9_S4 {f:FuncId} {vs:List AV} {r:AV} (h:S4 f vs=some r) (h1:Nat.beq f 41=false) (h2:Nat.beq f 17=false) (h3:Nat.beq f 40=false) (h4:Nat.beq f 29=false) (h5:Nat.beq f 18=false) (h6:Nat.beq f 42=false) (h7:Nat.beq f 43=false) (h8:Nat.beq f 22=false) (h9:Nat.beq f 25=false) (h10:Nat.beq f 21=false):S9 f vs=some r :=
  S9_S7 (S7_S6 (S6_S4 h h6 h7 h8 h9 h10) h3 h4 h5) h1 h2
/-- The law of Parse. -/
theorem law4 (t:ByteArray):CallAt Tryd.prog 4 [st t] [] 0 (bo true) []:=by
  have hC:CallOk Tryd.prog (callerOf S9):=callerOf_ok (S9_ok hX hM ha)
  have c12:=cAt hM ha (call:=callerOf S9) (B:=aB) (dr:=false) (σ:=[]) rfl rfl (caller_at (S9_S4 S4_12 rfl rfl rfl rfl rfl rfl rfl rfl rfl rfl))
  suffices hv : ∃ σ', vbody Tryd.prog X (callerOf S9) 0 noFg Tryd.f4 (codeOf Tryd.f4) [st t] [] 0 = some (bo true, σ') by
    obtain ⟨σ',hv⟩:=hv
    exact run_res (B:=aB) (y:=true) hX hC (hM.dom 4 rfl rfl) Tryd.func4 (by kernel_rfl) hv rfl
  cases hs:decide ((↑t.size:Int) > 400) with
  | true=>exact ⟨_,f4_pt t X (callerOf S9) 0 c12 hs c12⟩
  | false =>
    have ht:t.size ≤ mega:=by have:=of_decide_eq_false hs; show _ ≤ 1000000; omega
    have hk:=parse_ok ht
    have c16:=cAt hM ha (call:=callerOf S9) (B:=aR) (dr:=false) (σ:=[]) rfl rfl (caller_at (S9_S4 (S4_S3 (S3_16 ht) rfl) rfl rfl rfl rfl rfl rfl rfl rfl rfl rfl))
    have c17:=cAt hM ha (call:=callerOf S9) (B:=aR) (dr:=false) (σ:=[Ob.cells (sgnC (parseF t).1)]) rfl rfl (caller_at (S9_17 ht))
    have c18:=cAt hM ha (call:=callerOf S9) (B:=aB) (dr:=false) (σ:=[Ob.cells (sgnC (parseF t).1),Ob.cells (sgnC (parseF t).1)]) rfl (ltGG (parseF t).1 (parseF t).1) (caller_at (S9_S7 (S7_18 (parseF t).1 hk) rfl rfl))
    rw [sameB_self] at c18
    rw [show parseF t=((parseF t).1,(parseF t).2.1,(parseF t).2.2) from rfl,aR_enc] at c16 c17
    exact ⟨_,f4_pftt t (parseF t).1 (parseF t).2.1 (parseF t).2.2 X (callerOf S9) 0 c12 hs c16 c17 (by simp) (by simp) c18⟩
end
end Go.Proofs.Sig
end
