/- Part 2 of the texts of this claim: the evaluator, and what it says of the program's functions. -/
import Derived.Test.YtfjmemmjjihohaaDoorFirstA
import Derived.Tactics
import Derived.Orders
import Derived.KernelRfl
import Derived.ChangeArms
import Derived.SizedLaws
import Derived.Carry
set_option linter.unusedSectionVars false
set_option linter.unusedVariables false
set_option linter.unusedSimpArgs false
set_option linter.constructorNameAsVariable false
/- Calls. -/
section
namespace Go.Vm
open Go.RowKit (Below)
variable [Fixed]
variable {P:Program} {C:Ctx} {w:World}

/-- What a call brings about. -/
def CallDid (P:Program) (ro:Nat) (C:Ctx) (w:World) (σ' : List Ob) (v:AV) (dr:Bool) (f:FuncId) (us:List Value):Prop :=
  Bodied P f∧Calls P f us.toArray w fun e w' => ∃ u C',e = .returned u∧C'.σ=σ' ∧ SOk C' w' ∧ Grow ro C w C' w' ∧ Rep C' w' v u∧(dr=true→C' = C)

theorem iso_run {call:Caller} (hc:CallOk P call) {ro:Nat} {f:FuncId} {vs:List AV} {us:List Value} {r:AV} {s' : List Ob} (hs:SOk C w) (hro:ro ≤ C.σ.length) (hr:RepAll C w vs us) (hl:AV.ltAll 0 vs=true)
    (h:call f vs [] 0=some (r,s')) (hp:r.pure=true) (ad dr:Bool) (hd:dr=true→ad=false) :
    CallDid P ro C w (if ad then (adoptv C.σ r).2 else C.σ) (if ad then (adoptv C.σ r).1 else unfr r) dr f us:=by
  obtain ⟨hb,hcall⟩:=hc f vs [] 0 r s' h
  refine ⟨hb,Calls.mono (hcall C.alone w us rfl (alone_ok hs) (Nat.zero_le _) (RepAll.swap agree_alone _ _ hl hr)) ?_⟩
  rintro e w' ⟨u,C',rfl,_,_,hg,hru,hf⟩
  cases ad with
  | true =>
    obtain ⟨C2,h1,h2,h3,h4⟩:=adopt_rep (ro:=ro) hro hs hg hp hru hf
    exact ⟨u,C2,rfl,h1,h2,h3,h4,fun e=>by simpa using hd e⟩
  | false =>
    obtain ⟨s1,s2,s3⟩:=alone_back (ro:=ro) hs hg
    exact ⟨u,C,rfl,rfl,s1,s2,unfr_rep (Rep.swap s3 _ _ hp hru),fun _=>rfl⟩

theorem CallDid.after {ro:Nat} {C1:Ctx} {σ' : List Ob} {v:AV} {f:FuncId} {us:List Value} (hs:SOk C1 w) (hg:Grow ro C w C1 w) (h:CallDid P ro C1 w σ' v false f us):CallDid P ro C w σ' v false f us:=by
  obtain ⟨hb,h⟩:=h
  refine ⟨hb,Calls.mono h ?_⟩
  rintro e w' ⟨u,C',rfl,h1,h2,h3,h4,_⟩
  exact ⟨u,C',rfl,h1,h2,hg.trans hs h3,h4,fun e=>by cases e⟩

/-- The objects that came to be in a call, left away again. -/
theorem ltObs_get {m:Nat}:∀ {σ:List Ob} {id:Nat} {o:Ob},ltObs m σ=true→σ[id]? = some o →
    (match o with | .cells cs | .arr _ _ cs | .fro _ _ cs=>AV.ltAll m cs=true | .mapo es=>∀ e ∈ es,AV.lt m e.1=true∧AV.lt m e.2=true | .gone | .brow _ _=>True)
  | [],_,_,_,h=>by simp at h
  | x :: σ, 0, o, hl, h => by
    simp only [List.getElem?_cons_zero,Option.some.injEq] at h
    subst h
    cases x <;> simp only [ltObs,Bool.and_eq_true] at hl ⊢
    · exact hl.1
    · exact hl.1
    · exact hl.1
    · intro e he
      have:=List.all_eq_true.1 hl.1 e he
      simpa using this
  | x :: σ, i + 1, o, hl, h => by
    simp only [List.getElem?_cons_succ] at h
    have hl' : ltObs m σ=true:=by cases x <;> simp only [ltObs,Bool.and_eq_true] at hl <;> first | exact hl.2 | exact hl
    exact ltObs_get hl' h
theorem RepEs.swap {m:Nat} {C C' : Ctx} (h:Agree m C C' w):∀ {es:List (AV × AV)} {ms:List MapEntry},(∀ e ∈ es,AV.lt m e.1=true∧AV.lt m e.2=true)→RepEs C w es ms→RepEs C' w es ms
  | [],[],_,_=>trivial
  | e::es,x::ms,hl,hr=>⟨⟨hr.1.1,Rep.swap h _ _ (hl e (List.mem_cons_self ..)).1 hr.1.2⟩,Rep.swap h _ _ (hl e (List.mem_cons_self ..)).2 hr.2.1,RepEs.swap h (fun y hy=>hl y (List.mem_cons_of_mem _ hy)) hr.2.2⟩
  | [],_::_,_,h=>h.elim
  | _::_,[],_,h=>h.elim
theorem take_ok {m ro:Nat} {C' : Ctx} {w' : World} {v:AV} {u:Value} (hm:m=C.σ.length) (hs:SOk C' w') (hg:Grow ro C w C' w') (hl:ltObs m (C'.σ.take m)=true) (hv:AV.lt m v=true) (hr:Rep C' w' v u) :
    SOk ⟨C'.σ.take m,C'.φ,C'.κ,C'.forb⟩ w' ∧ Grow ro C w ⟨C'.σ.take m,C'.φ,C'.κ,C'.forb⟩ w' ∧ Rep ⟨C'.σ.take m,C'.φ,C'.κ,C'.forb⟩ w' v u:=by
  have get : ∀ (id : Nat) (o : Ob), (C'.σ.take m)[id]? = some o → id < m ∧ C'.σ[id]? = some o := by
    intro id o h
    rw [List.getElem?_take] at h
    split at h
    · exact ⟨by assumption,h⟩
    · cases h
  have hmay : ∀ b, Mut ⟨C'.σ.take m, C'.φ, C'.κ, C'.forb⟩ b → Mut C' b := by
    rintro b (h | ⟨id,o,h1,h2,h3⟩)
    · exact .inl h
    · exact .inr ⟨id,o,(get id o h1).2,h2,h3⟩
  have hag:Agree m C' ⟨C'.σ.take m,C'.φ,C'.κ,C'.forb⟩ w' := ⟨fun id hid=>⟨by simp [List.getElem?_take,hid],rfl,rfl⟩,fun b _ h=>hmay b h⟩
  refine ⟨⟨?_,?_,?_,?_,hs.fb,fun b X hX=>⟨(hs.fx b X hX).1,fun id o h hl=>(hs.fx b X hX).2 id o (get id o h).2 hl⟩⟩,⟨hg.os,hg.tape,hg.output,hg.size,hg.forb,hg.blk,fun b hb h=>hg.may b hb (hmay b h),?_,?_⟩,Rep.swap hag _ _ hv hr⟩
  · intro id o h hlv
    exact hs.blk id o (get id o h).2 hlv
  · intro i j oi oj hi hli hj hlj he
    exact hs.inj i j oi oj (get i oi hi).2 hli (get j oj hj).2 hlj he
  · intro id o h
    obtain ⟨_,h2⟩:=get id o h
    have hob:=hs.ob id o h2
    have hlt:=ltObs_get hl h
    cases o with
    | cells cs=>obtain ⟨k1,us,e,k2,kt,k3⟩:=hob; exact ⟨k1,us,e,k2,kt,RepAll.swap hag _ _ hlt k3⟩
    | arr n sz cs=>obtain ⟨k0,k1,kn,km,us,vs,e,k2,k4,k3⟩:=hob; exact ⟨k0,k1,kn,km,us,vs,e,k2,k4,RepAll.swap hag _ _ hlt k3⟩
    | fro n sz cs=>obtain ⟨k0,k1,kn,km,kl,kmu,us,k2,k3⟩:=hob; exact ⟨k0,k1,kn,km,kl,fun h=>kmu (hmay _ h),us,k2,RepAll.swap hag _ _ hlt k3⟩
    | mapo es=>obtain ⟨ms,cl,k1,kst,k2⟩:=hob; exact ⟨ms,cl,k1,kst,k2.swap hag hlt⟩
    | gone=>trivial
    | brow t l=>exact hob
  · intro id o h hlv
    exact hs.nof id o (get id o h).2 hlv
  · intro id o h
    obtain ⟨o',h1,h2⟩:=hg.turn id o h
    have hid:id < m:=by rw [hm]; exact (List.getElem?_eq_some_iff.1 h).1
    exact ⟨o',by simp only [List.getElem?_take,hid,if_true]; exact h1,h2⟩
  · intro id hid
    obtain ⟨h1,h2,h3⟩:=hg.low id hid
    refine ⟨?_,h2,h3⟩
    by_cases hidm:id < m
    · simp only [List.getElem?_take,hidm,if_true]; exact h1
    · simp only [List.getElem?_take, hidm, if_false]
      exact (List.getElem?_eq_none (by omega)).symm

theorem callv_run {X:Ext} (hX:ExtOk P X) {call:Caller} (hc:CallOk P call) {dr:Bool} {ro:Nat} {f:FuncId} {vs:List AV} {us:List Value} {v:AV} {σ' : List Ob} (h:callv X call dr f vs C.σ ro=some (v,σ')) (hs:SOk C w) (hro:ro ≤ C.σ.length)
    (hr:RepAll C w vs us):CallDid P ro C w σ' v dr f us:=by
  unfold callv at h
  split at h
  · rename_i g hg
    obtain ⟨hb,hpure⟩:=hX.pure f g hg
    -- the arguments by value
    split at h
    · rename_i vs1 σ1 h1
      have key : ∃ C1 : Ctx, C1.σ = σ1 ∧ SOk C1 w ∧ Grow ro C w C1 w ∧ RepAll C1 w vs1 us ∧ (dr = true → C1 = C) := by
        cases dr with
        | true =>
          simp only [if_true] at h1
          split at h1
          · simp only [Option.some.injEq, Prod.mk.injEq] at h1
            obtain ⟨rfl,rfl⟩:=h1
            exact ⟨C,rfl,hs,Grow.refl ..,hr,fun _=>rfl⟩
          · cases h1
        | false =>
          simp only [Bool.false_eq_true,if_false] at h1
          split at h1
          · rename_i vs2 σ2 h2 h3
            simp only [Option.some.injEq,Prod.mk.injEq] at h1
            obtain ⟨rfl,rfl⟩:=h1
            obtain ⟨k1,k2,k3⟩:=freeze_thaw hs h3
            exact ⟨_,rfl,k1,k2,thawAll_rep k1 k2.keeps vs _ us h2 k3 hr,fun e=>by cases e⟩
          · cases h1
      obtain ⟨C1,rfl,k1,k2,k3,k4⟩:=key
      split at h
      · rename_i hl
        split at h
        · rename_i r hgr
          simp only [Option.some.injEq,Prod.mk.injEq] at h
          obtain ⟨rfl,rfl⟩:=h
          refine ⟨hb,Calls.mono (hpure vs1 r hl hgr C1 w us k1 k3) ?_⟩
          rintro e w' ⟨u,rfl,h1,h2,h3,h4,h5,h6⟩
          obtain ⟨m1,m2,_⟩:=more_heap k1 ro h1 h2 h3 h4 h5
          exact ⟨u,C1,rfl,rfl,m1,k2.trans k1 m2,h6,k4⟩
        · cases h
      · cases h
    · cases h
  · split at h
    · rename_i g hg
      split at h
      · cases h
      · rename_i hdr
        obtain ⟨hb,hst⟩:=hX.st f g hg
        refine ⟨hb,Calls.mono (hst vs C.σ ro v σ' h C w us rfl hs hro hr) ?_⟩
        rintro e w' ⟨u,C',rfl,h1,h2,h3,h4⟩
        exact ⟨u,C',rfl,h1,h2,h3,h4,fun e=>absurd e hdr⟩
    · split at h
      · rename_i hl
        split at h
        · rename_i r s' hcall
          split at h
          · rename_i hp
            have:=iso_run hc hs hro hr hl hcall hp (!dr && X.adopt f) dr (fun e=>by simp [e])
            split at h
            · rename_i ha
              rw [ha] at this
              simp only [Option.some.injEq] at h
              simp only [if_true] at this
              rw [h] at this
              exact this
            · rename_i ha
              simp only [Option.some.injEq,Prod.mk.injEq] at h
              obtain ⟨rfl,rfl⟩:=h
              rw [if_neg ha,if_neg ha] at this
              exact this
          · split at h
            · cases h
            · rename_i hdr
              unfold freshRes at h
              split at h
              · rename_i hσ
                simp only [Option.some.injEq,Prod.mk.injEq] at h
                obtain ⟨rfl,rfl⟩:=h
                obtain ⟨hb,hcc⟩:=hc f vs [] 0 r s' hcall
                refine ⟨hb,Calls.mono (hcc C w us hσ hs (Nat.zero_le _) hr) ?_⟩
                rintro e w' ⟨u,C',rfl,h1,h2,hg,hru,_⟩
                exact ⟨u,C',rfl,h1,h2,hg,unfr_rep hru,fun e=>absurd e hdr⟩
              · simp only [Option.some.injEq, Prod.mk.injEq] at h
                obtain ⟨rfl,rfl⟩:=h
                obtain ⟨hb,hcc⟩:=hc f vs [] 0 r s' hcall
                refine ⟨hb,Calls.mono (hcc C.alone w us rfl (alone_ok hs) (Nat.zero_le _) (RepAll.swap agree_alone _ _ hl hr)) ?_⟩
                rintro e w' ⟨u,C',rfl,h1,h2,hg,hru,_⟩
                obtain ⟨k1,k2,k3⟩:=joined hs hro hg h2
                refine ⟨u,C.join C',rfl,by rw [← h1]; rfl,k1,k2,k3 _ _ (unfr_rep hru),fun e=>absurd e hdr⟩
        · cases h
      · split at h
        · rename_i hdr
          split at h
          · rename_i r s' hcall
            split at h
            · rename_i hlt
              simp only [Option.some.injEq,Prod.mk.injEq] at h
              obtain ⟨rfl,rfl⟩:=h
              obtain ⟨hb,hcc⟩:=hc f vs C.σ C.σ.length r s' hcall
              refine ⟨hb,Calls.mono (hcc C w us rfl hs (Nat.le_refl _) hr) ?_⟩
              rintro e w' ⟨u,C',rfl,_,_,hg,hru,_⟩
              have hblk : ∀ x, x < w.heap.size → w'.heap[x]? = w.heap[x]? := fun x hx => hg.blk x hx fun id o hid h => by
                have:=(List.getElem?_eq_some_iff.1 h).1
                omega
              obtain ⟨m1,m2,_⟩:=more_heap hs ro hg.os hg.tape hg.output hg.size hblk
              have hag : Agree C.σ.length C' C w' := by
                refine ⟨fun id hid => ?_,?_⟩
                · obtain ⟨a1, a2, a3⟩ := hg.low id hid
                  exact ⟨a1.symm,a2.symm,a3.symm⟩
                · rintro b _ (hf | ⟨id, o, h1, h2, h3⟩)
                  · exact .inl (by rw [hg.forb]; exact hf)
                  · obtain ⟨a1, a2, _⟩ := hg.low id (List.getElem?_eq_some_iff.1 h1).1
                    exact .inr ⟨id,o,by rw [a1]; exact h1,h2,by rw [a2]; exact h3⟩
              exact ⟨u,C,rfl,rfl,m1,m2,unfr_rep (Rep.swap hag _ _ hlt hru),fun _=>rfl⟩
            · cases h
          · cases h
        · rename_i hdr
          have hdr' : dr=false:=by simpa using hdr
          subst hdr'
          split at h
          · cases h
          · rename_i vs' hth
            split at h
            · rename_i hl
              split at h
              · rename_i σ1 hfz
                obtain ⟨k1,k2,k3⟩:=freeze_thaw hs hfz
                have hr1:=thawAll_rep k1 k2.keeps vs _ us hth k3 hr
                split at h
                · rename_i r s' hcall
                  split at h
                  · rename_i hp
                    have:=iso_run hc k1 (ro:=ro) (Nat.le_trans hro k2.len) hr1 hl hcall hp (X.adopt f) false (fun e=>by cases e)
                    have:=CallDid.after k1 k2 this
                    split at h
                    · rename_i ha
                      rw [ha] at this
                      simp only [Option.some.injEq] at h
                      simp only [if_true] at this
                      rw [h] at this
                      exact this
                    · rename_i ha
                      simp only [Option.some.injEq,Prod.mk.injEq] at h
                      obtain ⟨rfl,rfl⟩:=h
                      rw [if_neg ha,if_neg ha] at this
                      exact this
                  · cases h
                · cases h
              · cases h
            · split at h
              · rename_i r s' hcall
                obtain ⟨hb,hcc⟩:=hc f vs C.σ ro r s' hcall
                refine ⟨hb,Calls.mono (hcc C w us rfl hs hro hr) ?_⟩
                rintro e w' ⟨u,C',rfl,rfl,hs',hg,hru,_⟩
                split at h
                · rename_i hlt
                  simp only [Bool.and_eq_true] at hlt
                  simp only [Option.some.injEq,Prod.mk.injEq] at h
                  obtain ⟨rfl,rfl⟩:=h
                  obtain ⟨t1,t2,t3⟩:=take_ok rfl hs' hg hlt.2 hlt.1 hru
                  exact ⟨u,_,rfl,rfl,t1,t2,unfr_rep t3,fun e=>by cases e⟩
                · simp only [Option.some.injEq, Prod.mk.injEq] at h
                  obtain ⟨rfl,rfl⟩:=h
                  exact ⟨u,C',rfl,rfl,hs',hg,unfr_rep hru,fun e=>by cases e⟩
              · cases h
end Go.Vm
end
/- An operation does what the evaluator says. -/
section
namespace Go.Vm
open Go.RowKit (Below)
variable [Fixed]
variable {P:Program} {C:Ctx} {w:World}

theorem nth_rep:∀ {vs:List AV} {us:List Value} (t:Nat),RepAll C w vs us→Rep C w (nth vs t) (us.getD t undef)
  | [],[],t,_=>by simp [nth,Rep]
  | v::vs,u::us,0,h=>by simp only [RepAll] at h; simpa [nth] using h.1
  | v::vs,u::us,t + 1,h=>by simp only [RepAll] at h; simpa [nth] using nth_rep t h.2
  | [],_::_,_,h=>by simp only [RepAll] at h
  | _::_,[],_,h=>by simp only [RepAll] at h
theorem ev_run {S:St} {a:Act} {x:Operand} {v:AV} (ht:RepAll C w S.tmps a.tmps.toList) (h:ev S x=some v):Rep C w v (a.eval x):=by
  cases x <;> simp only [ev,Option.some.injEq,reduceCtorEq] at h
  · subst h
    have:=nth_rep (C:=C) (w:=w) (vs:=S.tmps) (us:=a.tmps.toList) ‹Nat› ht
    simpa [Act.eval] using this
  · exact ofVal_rep C w _ _ h
  · subst h
    simp only [Act.eval,Rep]
    exact ⟨[],rfl,by simp only [RepAll]⟩
theorem evs_run {S:St} {a:Act} (ht:RepAll C w S.tmps a.tmps.toList):∀ {xs:List Operand} {vs:List AV},evs S xs=some vs→RepAll C w vs (xs.map a.eval)
  | [],vs,h=>by simp only [evs,Option.some.injEq] at h; subst h; simp only [List.map_nil,RepAll]
  | x :: xs, vs, h => by
    simp only [evs] at h
    split at h
    · rename_i v vs' h1 h2
      simp only [Option.some.injEq] at h
      subst h
      simp only [List.map_cons,RepAll]
      exact ⟨ev_run ht h1,evs_run ht h2⟩
    · cases h
theorem evParts_run {S:St} {a:Act} (ht:RepAll C w S.tmps a.tmps.toList):∀ {xs:List (Nat × Operand)} {vs:List (Nat × AV)},evParts S xs=some vs→RepParts C w vs (xs.map fun x=>(x.1,a.eval x.2))
  | [],vs,h=>by simp only [evParts,Option.some.injEq] at h; subst h; trivial
  | (i, x) :: xs, vs, h => by
    simp only [evParts] at h
    split at h
    · rename_i v vs' h1 h2
      simp only [Option.some.injEq] at h
      subst h
      exact ⟨⟨rfl,ev_run ht h1⟩,evParts_run ht h2⟩
    · cases h
theorem optEv_run {S:St} {a:Act} (ht:RepAll C w S.tmps a.tmps.toList) {x:Option Operand} {v:Option AV} (h:optEv S x=some v):OptRep C w v (x.map a.eval):=by
  cases x with
  | none=>simp only [optEv,Option.some.injEq] at h; subst h; trivial
  | some x =>
    simp only [optEv] at h
    split at h
    · rename_i v' h1
      simp only [Option.some.injEq] at h
      subst h
      exact ev_run ht h1
    · cases h
theorem keep_eq {σ σ' : List Ob} {x:Option AV} {v:AV} (h:keep σ x=some (v,σ')):x=some v∧σ' = σ:=by
  cases x with
  | none=>simp [keep] at h
  | some y=>simp only [keep,Option.some.injEq,Prod.mk.injEq] at h; exact ⟨by rw [h.1],h.2.symm⟩

theorem RepParts.all:∀ {vs:List (Nat × AV)} {us:List (Nat × Value)},RepParts C w vs us→RepAll C w (vs.map (·.2)) (us.map (·.2))∧vs.map (·.1)=us.map (·.1)
  | [],[],_=>by simp [RepAll]
  | v :: vs, u :: us, h => by
    obtain ⟨a,b⟩:=RepParts.all h.2
    simp only [List.map_cons,RepAll]
    exact ⟨⟨h.1.2,a⟩,by rw [h.1.1,b]⟩
  | [],_::_,h=>h.elim
  | _::_,[],h=>h.elim
theorem RepParts.of_all:∀ {is:List Nat} {vs:List AV} {us:List (Nat × Value)},RepAll C w vs (us.map (·.2))→is=us.map (·.1)→RepParts C w (is.zip vs) us
  | [],[],[],_,_=>trivial
  | i :: is, v :: vs, u :: us, h, e => by
    simp only [List.map_cons,RepAll,List.cons.injEq] at h e
    exact ⟨⟨e.1,h.1⟩,RepParts.of_all h.2 e.2⟩
  | _,[],_::_,h,_=>by simp only [List.map_cons,RepAll] at h
  | _,_::_,[],h,_=>by simp only [List.map_nil,RepAll] at h
  | [],_,_::_,_,e=>by simp at e
  | _::_,_,[],_,e=>by simp at e
theorem byValue_run {dr : Bool} {ro : Nat} {vs vs' : List (Nat × AV)} {us : List (Nat × Value)} {σ' : List Ob} (hs : SOk C w) (h : byValue dr C.σ ro vs = some (vs', σ')) (hr : RepParts C w vs us) :
    ∃ C1:Ctx,C1.σ=σ' ∧ SOk C1 w∧Grow ro C w C1 w∧RepParts C1 w vs' us∧(dr=true→C1=C):=by
  unfold byValue at h
  split at h
  · simp only [Option.some.injEq, Prod.mk.injEq] at h
    obtain ⟨rfl,rfl⟩:=h
    exact ⟨C,rfl,hs,Grow.refl ..,hr,fun _=>rfl⟩
  · split at h
    · cases h
    · rename_i hdr
      split at h
      · rename_i ws σ1 h1 h2
        simp only [Option.some.injEq,Prod.mk.injEq] at h
        obtain ⟨rfl,rfl⟩:=h
        obtain ⟨k1,k2,k3⟩:=freeze_thaw hs h2
        obtain ⟨a,b⟩:=hr.all
        exact ⟨_,rfl,k1,k2,RepParts.of_all (thawAll_rep k1 k2.keeps _ _ _ h1 k3 a) b,fun e=>absurd e hdr⟩
      · cases h
theorem byValue1_run {dr : Bool} {ro : Nat} {v v' : AV} {u : Value} {σ' : List Ob} (hs : SOk C w) (h : byValue1 dr C.σ ro v = some (v', σ')) (hr : Rep C w v u) :
    ∃ C1:Ctx,C1.σ=σ' ∧ SOk C1 w∧Grow ro C w C1 w∧Rep C1 w v' u∧(dr=true→C1=C):=by
  unfold byValue1 at h
  split at h
  · simp only [Option.some.injEq, Prod.mk.injEq] at h
    obtain ⟨rfl,rfl⟩:=h
    exact ⟨C,rfl,hs,Grow.refl ..,hr,fun _=>rfl⟩
  · split at h
    · cases h
    · rename_i hdr
      split at h
      · rename_i ws σ1 h1 h2
        simp only [Option.some.injEq,Prod.mk.injEq] at h
        obtain ⟨rfl,rfl⟩:=h
        obtain ⟨k1,k2,k3⟩:=freeze_thaw hs h2
        exact ⟨_,rfl,k1,k2,thaw_rep k1 k2.keeps _ _ _ h1 k3 hr,fun e=>absurd e hdr⟩
      · cases h

section
variable {o:Oper} {a:Act} {next:Act→World→Prop} {Q:Exit→Act→World→Prop}
theorem wp_value {u:Value} {w' : World} (e:(execOp a.eval o).run P w = .ok (.value u) w') (h:next (a.put o.dst u) w'):o.wp P a w next Q:=by
  unfold Oper.wp
  rw [e]
  exact h
theorem wp_skipped {w' : World} (e:(execOp a.eval o).run P w = .ok .skip w') (h:next (a.put o.dst undef) w'):o.wp P a w next Q:=by
  unfold Oper.wp
  rw [e]
  exact h
theorem wp_enter {f:FuncId} {args:Array Value} {w' : World} (e:(execOp a.eval o).run P w = .ok (.enter f args) w') (h:Calls P f args w' fun e w'' => ∃ u,e = .returned u∧next (a.put o.dst u) w''):o.wp P a w next Q:=by
  unfold Oper.wp
  rw [e]
  refine Calls.mono h ?_
  rintro e w' ⟨u,rfl,h⟩
  exact h
end

theorem callFunc_run {f:FuncId} {args:Array Value} (h:Bodied P f):(callFunc f args).run P w = .ok (.enter f args) w:=by
  obtain ⟨fn,h1,h2,h3⟩:=h
  simp only [callFunc,Sem.run_bind,run_program,Result.andThen,h1]
  have e1 : (fn.name == "runtime.NumGoroutine") = false := by simpa using h3
  have e2:fn.body.isNone=false:=by cases hb:fn.body <;> simp_all
  simp [e1,e2]
end Go.Vm
end
/- An operation does what the evaluator says: all of them. -/
section
namespace Go.Vm
open Go.RowKit (Below)
variable [Fixed]
variable {P:Program} {C:Ctx} {w:World}

theorem evOp_sound {X:Ext} (hX:ExtOk P X) {call:Caller} (hc:CallOk P call) {dr:Bool} {ro:Nat} {S:St} {o:Oper} {a:Act} {v:AV} {σ' : List Ob} {next:Act→World→Prop} {Q:Exit→Act→World→Prop}
    (h:evOp P X call dr ro S o=some (v,σ')) (hσ:S.st=C.σ) (hs:SOk C w) (hro:ro ≤ C.σ.length) (ht:RepAll C w S.tmps a.tmps.toList)
    (hK:∀ u w' C',C'.σ=σ' → SOk C' w' → Grow ro C w C' w' → Rep C' w' v u→(dr=true→C' = C)→next (a.put o.dst u) w'):o.wp P a w next Q:=by
  have plain : ∀ u, σ' = C.σ → (execOp a.eval o).run P w = .ok (.value u) w → Rep C w v u → o.wp P a w next Q := fun u e hr hv =>
    wp_value hr (hK u w C e.symm hs (Grow.refl ..) hv fun _=>rfl)
  have did : ∀ (p : Sem Value), dr = false → Did ro C w σ' v (p.run P w) → (execOp a.eval o).run P w = (p.run P w).andThen (fun u w' => .ok (.value u) w') → o.wp P a w next Q := by
    rintro p hd ⟨u,w',C',h1,h2,h3,h4,h5⟩ hr
    rw [h1] at hr
    exact wp_value hr (hK u w' C' h2 h3 h4 h5 fun e=>by rw [hd] at e; cases e)
  have skipped : ∀ (p : Sem Unit), dr = false → v = .undef → Did ro C w σ' v ((p.run P w).andThen fun _ w' => .ok undef w') → (execOp a.eval o).run P w = (p.run P w).andThen (fun _ w' => .ok .skip w') → o.wp P a w next Q := by
    rintro p hd rfl ⟨u,w',C',h1,h2,h3,h4,h5⟩ hr
    cases hp:p.run P w with
    | halt e w1=>rw [hp] at h1; cases h1
    | ok x w1 =>
      rw [hp] at h1 hr
      simp only [Result.andThen,Result.ok.injEq] at h1 hr
      obtain ⟨rfl,rfl⟩:=h1
      exact wp_skipped hr (hK undef w1 C' h2 h3 h4 h5 fun e=>by rw [hd] at e; cases e)
  unfold evOp at h
  rw [hσ] at h
  split at h
  · rename_i x hop
    obtain ⟨h1,h2⟩:=keep_eq h
    exact plain _ h2 (by simp only [execOp,hop,Sem.run_pure]) (ev_run ht h1)
  · rename_i x hop
    obtain ⟨h1,h2⟩:=keep_eq h
    exact plain _ h2 (by simp only [execOp,hop,Sem.run_pure]) (ev_run ht h1)
  · rename_i c x y hop
    split at h
    · rename_i t vx vy h1 h2 h3
      simp only [Option.some.injEq,Prod.mk.injEq] at h
      obtain ⟨rfl,e2⟩:=h
      have hb:=ev_run ht h1
      simp only [Rep] at hb
      refine plain (if t then a.eval x else a.eval y) e2.symm ?_ ?_
      · simp only [execOp,hop,hb,asBool,Sem.run_bind,Sem.run_pure,Result.andThen]
      · cases t
        · exact ev_run ht h3
        · exact ev_run ht h2
    · cases h
  · rename_i op t x y nb hop
    split at h
    · rename_i vx vy h1 h2
      obtain ⟨h3,h4⟩:=keep_eq h
      obtain ⟨u,k1,k2⟩:=binv_run (P:=P) (x:=x) (y:=y) h3 (ev_run ht h1) (ev_run ht h2)
      refine plain u h4 ?_ k2
      have e : (execOp a.eval o).run P w = ((do eqGuard op t x y (a.eval x) (a.eval y); binOp op t (a.eval x) (a.eval y) : Sem Value).run P w).andThen (fun u w' => .ok (.value u) w') := by
        simp only [execOp,hop]
        rw [Sem.run_bind]
        rfl
      rw [e,k1]
      rfl
    · cases h
  · rename_i op t x hop
    split at h
    · rename_i vx h1
      obtain ⟨h3,h4⟩:=keep_eq h
      obtain ⟨u,k1,k2⟩:=unv_run (P:=P) h3 (ev_run ht h1)
      exact plain u h4 (by simp only [execOp,hop,Sem.run_bind,k1,Result.andThen,Sem.run_pure]) k2
    · cases h
  · rename_i s d x hop
    split at h
    · rename_i vx h1
      obtain ⟨h3,h4⟩:=keep_eq h
      obtain ⟨u,k1,k2⟩:=convv_run (P:=P) h3 (ev_run ht h1)
      exact plain u h4 (by simp only [execOp,hop,Sem.run_bind,k1,Result.andThen,Sem.run_pure]) k2
    · cases h
  · rename_i t hop
    split at h
    · cases h
    · rename_i hdr
      split at h
      · rename_i z hz
        split at h
        · cases h
        · rename_i hg
          simp only [Option.some.injEq,Prod.mk.injEq] at h
          obtain ⟨rfl,rfl⟩:=h
          exact did _ (by simpa using hdr) (alloc_run hs hro hz (by simpa using hg)) (by simp only [execOp,hop,Sem.run_bind]; rfl)
      · cases h
  · rename_i t x hop
    split at h
    · cases h
    · rename_i hdr
      split at h
      · rename_i vx h1
        split at h
        · rename_i hf
          simp only [Option.some.injEq,Prod.mk.injEq] at h
          obtain ⟨rfl,rfl⟩:=h
          exact did _ (by simpa using hdr) (box_run hs hro hf.1 hf.2 (ev_run ht h1)) (by simp only [execOp,hop,Sem.run_bind]; rfl)
        · cases h
      · cases h
  · rename_i t ps hop
    split at h
    · rename_i vs h1
      obtain ⟨h3,h4⟩:=keep_eq h
      obtain ⟨u,k1,k2⟩:=buildv_run (P:=P) (ups:=ps.map fun x=>(x.1,a.eval x.2)) h3 (by simpa using evParts_run ht h1)
      exact plain u h4 (by simp only [execOp,hop,Sem.run_bind]; rw [show (ps.map fun (i,x)=>(i,a.eval x))=ps.map fun x=>(x.1,a.eval x.2) from rfl,k1]; rfl) k2
    · cases h
  · rename_i t len ps hop
    split at h
    · rename_i vs h1
      unfold bsl at h
      split at h
      · rename_i vs' σ1 hby
        obtain ⟨h3,h4⟩:=keep_eq h
        obtain ⟨C1,rfl,c1,c2,c3,c4⟩:=byValue_run (us:=ps.toList.map fun x=>(x.1,a.eval x.2)) hs hby (evParts_run ht h1)
        obtain ⟨u,w',k1,k2,k3,k4⟩:=buildSlicev_run (P:=P) c1 ro (ups:=ps.map fun x=>(x.1,a.eval x.2)) h3 (by simpa using c3)
        refine wp_value (u:=u) (w' := w') ?_ (hK u w' C1 h4.symm k2 (c2.trans c1 k3) k4 c4)
        simp only [execOp,hop,Sem.run_bind]
        rw [show (ps.map fun (i,x)=>(i,a.eval x))=ps.map fun x=>(x.1,a.eval x.2) from rfl,k1]
        rfl
      · cases h
    · cases h
  · rename_i t x hop
    split at h
    · rename_i vx h1
      obtain ⟨h3,h4⟩:=keep_eq h
      obtain ⟨u,k1,k2⟩:=loadv_run (P:=P) hs h3 (ev_run ht h1)
      exact plain u h4 (by simp only [execOp,hop,Sem.run_bind,k1,Result.andThen,Sem.run_pure]) k2
    · cases h
  · rename_i t x y hop
    split at h
    · cases h
    · rename_i hdr
      split at h
      · rename_i vx vy h1 h2
        split at h
        · rename_i σ1 hst
          simp only [Option.some.injEq,Prod.mk.injEq] at h
          obtain ⟨rfl,rfl⟩:=h
          exact skipped _ (by simpa using hdr) rfl (storev_run hs hst (ev_run ht h1) (ev_run ht h2)) (by simp only [execOp,hop,Sem.run_bind]; rfl)
        · cases h
      · cases h
  · rename_i x hop
    split at h
    · rename_i vx h1
      have hx:=ev_run ht h1
      split at h
      · simp only [Option.some.injEq, Prod.mk.injEq] at h
        obtain ⟨rfl,e2⟩:=h
        have hx' := hx
        simp only [Rep] at hx
        refine plain (a.eval x) e2.symm ?_ hx'
        rw [hx.2]
        simp only [execOp,hop,hx.2,Sem.run_pure]
      · simp only [Option.some.injEq, Prod.mk.injEq] at h
        obtain ⟨rfl,e2⟩:=h
        have hx' := hx
        simp only [Rep] at hx
        obtain ⟨_,b,off,us,e,_⟩:=hx
        refine plain (a.eval x) e2.symm ?_ hx'
        simp only [execOp,hop,e,Sem.run_pure]
      · simp only [Option.some.injEq, Prod.mk.injEq] at h
        obtain ⟨rfl,e2⟩:=h
        have hx' := hx
        simp only [Rep] at hx
        obtain ⟨us,e,_⟩:=hx
        refine plain (a.eval x) e2.symm ?_ hx'
        simp only [execOp,hop,e,Sem.run_pure]
      · cases h
    · cases h
  · rename_i fn first caps hop
    split at h
    · rename_i f vs hf h1
      simp only [Option.some.injEq,Prod.mk.injEq] at h
      obtain ⟨rfl,e2⟩:=h
      have hfirst:first = #[]:=Array.toList_eq_nil_iff.1 hf
      subst hfirst
      refine plain (.func (.func f) #[] (caps.map a.eval)) e2.symm ?_ ?_
      · simp [execOp,hop,Instr.makeFunc]
      · simp only [Rep]
        exact ⟨caps.toList.map a.eval,by rw [← Array.toList_map,Array.toArray_toList],evs_run ht h1⟩
    · cases h
  · rename_i t r hop
    split at h
    · split at h
      · cases h
      · rename_i hdr
        simp only [Option.some.injEq,Prod.mk.injEq] at h
        obtain ⟨rfl,rfl⟩:=h
        exact did _ (by simpa using hdr) (makeMap_run hs hro (t:=t)) (by simp only [execOp,hop,Sem.run_bind]; rfl)
    · split at h
      · cases h
      · rename_i x hdr
        split at h
        · rename_i kt et k n hu hx
          simp only [Option.some.injEq,Prod.mk.injEq] at h
          obtain ⟨rfl,rfl⟩:=h
          have hxr:=ev_run ht hx
          simp only [Rep] at hxr
          exact did _ (by simpa using hdr) (makeMap_runH hs hro (t:=t) (k:=k) (n:=n) hu) (by simp only [execOp,hop,Option.map,hxr,Sem.run_bind]; rfl)
        · cases h
  · rename_i t l c hop
    split at h
    · cases h
    · rename_i hdr
      split at h
      · rename_i vl vc h1 h2
        exact did _ (by simpa using hdr) (makeSlicev_run hs hro h (ev_run ht h1) (ev_run ht h2)) (by simp only [execOp,hop,Sem.run_bind]; rfl)
      · cases h
  · rename_i t x lo hi mx hop
    split at h
    · rename_i vx vlo vhi vmx h1 h2 h3 h4
      unfold slc at h
      split at h
      · rename_i q hcut
        cases dr with
        | true=>simp at hcut
        | false =>
          simp only [Bool.false_eq_true,if_false] at hcut
          simp only [Option.some.injEq] at h
          subst h
          exact did _ rfl (cutOwn_run hs hcut (ev_run ht h1) (optEv_run ht h2) (optEv_run ht h3) (optEv_run ht h4)) (by simp only [execOp,hop,Sem.run_bind]; rfl)
      · split at h
        · rename_i vx' σ1 hby
          obtain ⟨h5,h6⟩:=keep_eq h
          obtain ⟨C1,rfl,c1,c2,c3,c4⟩:=byValue1_run hs hby (ev_run ht h1)
          have hopt : ∀ {v : Option AV} {u : Option Value}, OptRep C w v u → OptRep C1 w v u := by
            intro v u h
            cases v <;> cases u <;> first
              | exact h
              | exact Rep.mono c2.keeps _ _ h
          obtain ⟨u,k1,k2⟩:=slicev_run (P:=P) h5 c3 (hopt (optEv_run ht h2)) (hopt (optEv_run ht h3)) (hopt (optEv_run ht h4))
          refine wp_value (u:=u) (w' := w) ?_ (hK u w C1 h6.symm c1 c2 k2 c4)
          simp only [execOp,hop,Sem.run_bind,k1,Result.andThen,Sem.run_pure]
        · cases h
    · cases h
  · rename_i t x f hop
    split at h
    · rename_i vx h1
      obtain ⟨h3,h4⟩:=keep_eq h
      obtain ⟨u,k1,k2⟩:=fieldAddrv_run (P:=P) h3 (ev_run ht h1)
      exact plain u h4 (by simp only [execOp,hop,Sem.run_bind,k1,Result.andThen,Sem.run_pure]) k2
    · cases h
  · rename_i t x f hop
    split at h
    · rename_i vx h1
      obtain ⟨h3,h4⟩:=keep_eq h
      obtain ⟨u,k1,k2⟩:=fieldv_run (P:=P) h3 (ev_run ht h1)
      exact plain u h4 (by simp only [execOp,hop,Sem.run_bind,k1,Result.andThen,Sem.run_pure]) k2
    · cases h
  · rename_i t x i hop
    split at h
    · rename_i vx vi h1 h2
      obtain ⟨h3,h4⟩:=keep_eq h
      obtain ⟨u,k1,k2⟩:=indexAddrv_run (P:=P) hs h3 (ev_run ht h1) (ev_run ht h2)
      exact plain u h4 (by simp only [execOp,hop,Sem.run_bind,k1,Result.andThen,Sem.run_pure]) k2
    · cases h
  · rename_i t x i hop
    split at h
    · rename_i vx vi h1 h2
      obtain ⟨h3,h4⟩:=keep_eq h
      obtain ⟨u,k1,k2⟩:=indexv_run (P:=P) h3 (ev_run ht h1) (ev_run ht h2)
      exact plain u h4 (by simp only [execOp,hop,Sem.run_bind,k1,Result.andThen,Sem.run_pure]) k2
    · cases h
  · rename_i t m k ok hop
    split at h
    · rename_i vm vk h1 h2
      obtain ⟨h3,h4⟩:=keep_eq h
      obtain ⟨u,k1,k2⟩:=lookupv_run (P:=P) hs h3 (ev_run ht h1) (ev_run ht h2)
      exact plain u h4 (by simp only [execOp,hop,Sem.run_bind,k1,Result.andThen,Sem.run_pure]) k2
    · cases h
  · rename_i t m k x hop
    split at h
    · cases h
    · rename_i hdr
      split at h
      · rename_i vm vk vx h1 h2 h3
        split at h
        · rename_i σ1 hst
          simp only [Option.some.injEq,Prod.mk.injEq] at h
          obtain ⟨rfl,rfl⟩:=h
          exact skipped _ (by simpa using hdr) rfl (mapUpdatev_run hs hst (ev_run ht h1) (ev_run ht h2) (ev_run ht h3)) (by simp only [execOp,hop,Sem.run_bind]; rfl)
        · cases h
      · cases h
  · rename_i x i hop
    split at h
    · rename_i vx h1
      obtain ⟨h3,h4⟩:=keep_eq h
      obtain ⟨u,k1,k2⟩:=extractv_run (P:=P) h3 (ev_run ht h1)
      exact plain u h4 (by simp only [execOp,hop,Sem.run_bind,k1,Result.andThen,Sem.run_pure]) k2
    · cases h
  · rename_i c hop
    split at h
    · rename_i b hcal
      have hargs:∀ vs,evs S c.args.toList=some vs→∃ us,c.args.map a.eval=us.toArray∧RepAll C w vs us:=fun vs hv=>⟨c.args.toList.map a.eval,by rw [← Array.toList_map,Array.toArray_toList],evs_run ht hv⟩
      have hres : ∀ (p : Sem Value) (us : List Value), c.args.map a.eval = us.toArray → (∀ cs, (builtin b c.argTypes o.type cs us.toArray).run P w = (p.run P w).andThen fun u w' => .ok (.value u) w') →
          (execOp a.eval o).run P w=(p.run P w).andThen fun u w' => .ok (.value u) w' := by
        intro p us hus hp
        simp only [execOp,hop,resolve,hcal,Sem.run_bind,Sem.run_pure,Result.andThen,invoke]
        rw [hus]
        exact hp _
      have one : ∀ {x : AV} {us : List Value}, RepAll C w [x] us → ∃ u, us = [u] ∧ Rep C w x u := by
        intro x us h
        cases us with
        | nil=>simp only [RepAll] at h
        | cons u us => cases us with
          | nil=>simp only [RepAll] at h; exact ⟨u,rfl,h.1⟩
          | cons _ _=>simp only [RepAll] at h; exact h.2.elim
      have two : ∀ {x y : AV} {us : List Value}, RepAll C w [x, y] us → ∃ u z, us = [u, z] ∧ Rep C w x u ∧ Rep C w y z := by
        intro x y us h
        cases us with
        | nil=>simp only [RepAll] at h
        | cons u us =>
          simp only [RepAll] at h
          obtain ⟨z,rfl,hz⟩:=one (x:=y) (us:=us) (by simpa only [RepAll] using h.2)
          exact ⟨u,z,rfl,h.1,hz⟩
      split at h
      · rename_i x hargs'
        obtain ⟨us,hus,hrep⟩:=hargs _ hargs'
        obtain ⟨u,rfl,hu⟩:=one hrep
        split at h
        · rename_i t ht0
          obtain ⟨h3,h4⟩:=keep_eq h
          obtain ⟨z,k1,k2⟩:=lenv_run (P:=P) (ty:=o.type) hs ht0 h3 hu
          refine plain z h4 ?_ k2
          rw [hres (Builtin.len_ c.argTypes o.type #[u]) _ hus (fun cs=>by simp only [builtin]; rw [Sem.run_bind]; rfl),k1]
          rfl
        · cases h
      · rename_i x hargs'
        obtain ⟨us,hus,hrep⟩:=hargs _ hargs'
        obtain ⟨u,rfl,hu⟩:=one hrep
        split at h
        · rename_i t ht0
          obtain ⟨h3,h4⟩:=keep_eq h
          obtain ⟨z,k1,k2⟩:=capv_run (P:=P) (ty:=o.type) ht0 h3 hu
          refine plain z h4 ?_ k2
          rw [hres (Builtin.cap_ c.argTypes o.type #[u]) _ hus (fun cs=>by simp only [builtin]; rw [Sem.run_bind]; rfl),k1]
          rfl
        · cases h
      · rename_i s x hargs'
        split at h
        · cases h
        · rename_i hdr
          obtain ⟨us,hus,hrep⟩:=hargs _ hargs'
          obtain ⟨u,z,rfl,hu,hz⟩:=two hrep
          split at h
          · rename_i t ht0
            have hts : c.argTypes = #[t, t] := by
              unfold appT at ht0
              split at ht0
              · rename_i t1 t2 e
                split at ht0
                · rename_i e2
                  cases ht0
                  subst e2
                  exact e
                · cases ht0
              · cases ht0
            exact did _ (by simpa using hdr) (appendv_run hs hro (tx:=t) (.inl rfl) (ty:=o.type) h hu hz) (hres (Builtin.append_ #[t,t] o.type #[u,z]) _ hus (fun cs=>by simp only [builtin]; rw [Sem.run_bind,hts]; rfl))
          · split at h
            · rename_i t t' hts
              split at h
              · rename_i hstr
                exact did _ (by simpa using hdr) (appendv_run hs hro (t:=t) (tx:=t') (.inr hstr) (ty:=o.type) h hu hz) (hres (Builtin.append_ #[t,t'] o.type #[u,z]) _ hus (fun cs=>by simp only [builtin]; rw [Sem.run_bind,hts]; rfl))
              exact did _ (by simpa using hdr) (appendZv_run hs hro (ty:=o.type) h hu hz) (hres (Builtin.append_ #[t,t'] o.type #[u,z]) _ hus (fun cs=>by simp only [builtin]; rw [Sem.run_bind,hts]; rfl))
            · cases h
      · rename_i m k hargs'
        split at h
        · cases h
        · rename_i hdr
          obtain ⟨us,hus,hrep⟩:=hargs _ hargs'
          obtain ⟨u,z,rfl,hu,hz⟩:=two hrep
          split at h
          · rename_i t ht0
            split at h
            · rename_i σ1 hdel
              simp only [Option.some.injEq,Prod.mk.injEq] at h
              obtain ⟨rfl,rfl⟩:=h
              exact did _ (by simpa using hdr) (deletev_run hs (ty:=o.type) ht0 hdel hu hz) (hres (Builtin.delete_ c.argTypes o.type #[u,z]) _ hus (fun cs=>by simp only [builtin]; rw [Sem.run_bind]; rfl))
            · cases h
          · cases h
      · rename_i x xs hargs'
        obtain ⟨us,hus,hrep⟩:=hargs _ hargs'
        obtain ⟨h3,h4⟩:=keep_eq h
        cases us with
        | nil=>simp only [RepAll] at hrep
        | cons u us =>
          simp only [RepAll] at hrep
          obtain ⟨z,k1,k2⟩:=minsv_run (P:=P) false xs x v u us h3 hrep.1 hrep.2
          refine plain z h4 ?_ k2
          rw [hres (us.foldlM Builtin.min2 u) _ hus (fun cs=>by simp only [builtin]; rw [Sem.run_bind]; rfl)]
          simp only [Bool.false_eq_true,if_false] at k1
          rw [k1]
          rfl
      · rename_i x xs hargs'
        obtain ⟨us,hus,hrep⟩:=hargs _ hargs'
        obtain ⟨h3,h4⟩:=keep_eq h
        cases us with
        | nil=>simp only [RepAll] at hrep
        | cons u us =>
          simp only [RepAll] at hrep
          obtain ⟨z,k1,k2⟩:=minsv_run (P:=P) true xs x v u us h3 hrep.1 hrep.2
          refine plain z h4 ?_ k2
          rw [hres (us.foldlM Builtin.max2 u) _ hus (fun cs=>by simp only [builtin]; rw [Sem.run_bind]; rfl)]
          simp only [if_true] at k1
          rw [k1]
          rfl
      · cases h
    · rename_i g hcal
      split at h
      · rename_i f caps vs h1 h2
        have hg:=ev_run ht h1
        simp only [Rep] at hg
        obtain ⟨us,e,hcaps⟩:=hg
        obtain ⟨hb,hcalls⟩:=callv_run hX hc h hs hro ((evs_run ht h2).append hcaps)
        refine wp_enter (f:=f) (args:=(c.args.toList.map a.eval ++ us).toArray) (w' := w) ?_ (Calls.mono hcalls ?_)
        · simp only [execOp, hop, resolve, hcal, e, Deferred.ofValue, Sem.run_bind, Sem.run_pure, Result.andThen, invoke]
          have : (#[] ++ c.args.map a.eval ++ us.toArray) = (c.args.toList.map a.eval ++ us).toArray := by
            apply Array.ext'
            simp
          rw [this]
          exact callFunc_run hb
        · rintro e w' ⟨u, C', rfl, k1, k2, k3, k4, k5⟩
          exact ⟨u,rfl,hK u w' C' k1 k2 k3 k4 k5⟩
      · cases h
    · cases h
  · cases h
end Go.Vm
end
/- Regions in text order, and an operation's need of its operands alone. -/
section
namespace Go.Vm
open Go.RowKit (Below)
variable [Fixed]
variable {P:Program} {C:Ctx} {w:World}

theorem setN_length:∀ (l:List AV) (t:Nat) (v:AV),(setN l t v).length=l.length
  | [],_,_=>rfl
  | _::_,0,_=>rfl
  | _::l,t + 1,v=>by simp [setN,setN_length l t v]
theorem RepAll.set:∀ {vs:List AV} {us:List Value} (t:Nat) {v:AV} {u:Value},RepAll C w vs us→Rep C w v u→RepAll C w (setN vs t v) (us.set t u)
  | [],[],_,_,_,_,_=>by simp [setN,RepAll]
  | _::_,_::_,0,_,_,h,k=>by simp only [RepAll,setN,List.set_cons_zero] at h ⊢; exact ⟨k,h.2⟩
  | _::_,_::_,t + 1,_,_,h,k=>by simp only [RepAll,setN,List.set_cons_succ] at h ⊢; exact ⟨h.1,RepAll.set t h.2 k⟩
  | [],_::_,_,_,_,h,_=>by simp only [RepAll] at h
  | _::_,[],_,_,_,h,_=>by simp only [RepAll] at h
theorem put_tmps (a:Act) (d:Option Tmp) (u:Value):(a.put d u).tmps.toList=(match d with | some t=>a.tmps.toList.set t u | none=>a.tmps.toList)∧(a.put d u).defers=a.defers:=by
  cases d with
  | none=>exact ⟨rfl,rfl⟩
  | some t=>exact ⟨by simp [Act.put],rfl⟩
theorem put_rep {S:St} {a:Act} {d:Option Tmp} {v:AV} {u:Value} {σ:List Ob} (ht:RepAll C w S.tmps a.tmps.toList) (hv:Rep C w v u):RepAll C w (putSlot S d v σ).tmps (a.put d u).tmps.toList:=by
  rw [(put_tmps a d u).1]
  cases d with
  | none=>exact ht
  | some t=>exact ht.set t hv
theorem putSlot_st {S:St} {d:Option Tmp} {v:AV} {σ:List Ob}:(putSlot S d v σ).st=σ:=by cases d <;> rfl

theorem nth_none {l:List AV}:∀ {t:Nat},l.length ≤ t→nth l t = .undef:=by
  induction l with
  | nil=>intro t _; rfl
  | cons v l ih =>
    intro t h
    cases t with
    | zero=>simp at h
    | succ t=>exact ih (by simpa using h)
theorem wanted_run {ops:Array Oper} {S:St} {a:Act} {o:Oper} {b:Bool} (ht:RepAll C w S.tmps a.tmps.toList) (h:wantedv ops S o=some b):Region.wanted o (yielded ops a.tmps)=b:=by
  unfold wantedv at h
  unfold Region.wanted
  split at h
  · rename_i hg
    simp only [Option.some.injEq] at h
    rw [hg]
    exact h
  · rename_i j want hg
    rw [hg]
    simp only
    split at h
    · cases h
    · rename_i t hd
      unfold yielded
      rw [hd]
      simp only [Option.bind_some]
      have hlen:=ht.length
      rw [Array.length_toList] at hlen
      by_cases hlt:t < S.tmps.length
      · have hlt' : t < a.tmps.size := hlen ▸ hlt
        have hr:=nth_rep (C:=C) (w:=w) t ht
        have e:a.tmps.toList.getD t undef=a.tmps[t]:=by simp [List.getD,hlt']
        rw [e] at hr
        rw [Array.getElem?_eq_getElem hlt']
        split at h
        · rename_i b' hb
          simp only [Option.some.injEq] at h
          rw [hb] at hr
          simp only [Rep] at hr
          rw [hr,← h]
          cases b' <;> cases want <;> rfl
        · rename_i hb
          simp only [Option.some.injEq] at h
          rw [hb] at hr
          simp only [Rep] at hr
          rw [hr,← h]
          simp [undef]
        · cases h
      · have hge : ¬ t < a.tmps.size := hlen ▸ hlt
        rw [nth_none (Nat.le_of_not_lt hlt)] at h
        simp only [Option.some.injEq] at h
        rw [Array.getElem?_eq_none (Nat.le_of_not_lt hge),← h]
        simp

/-- The state that the code has reached. -/
structure At (C:Ctx) (w:World) (S:St) (a:Act) (ds:List Deferred):Prop where
  st:S.st=C.σ
  ok:SOk C w
  tmps:RepAll C w S.tmps a.tmps.toList
  defers:a.defers=ds

theorem At.step {S:St} {a:Act} {ds:List Deferred} {ro:Nat} {C' : Ctx} {w' : World} {d:Option Tmp} {v:AV} {u:Value} (h:At C w S a ds) (hs:SOk C' w') (hg:Grow ro C w C' w') (hv:Rep C' w' v u):At C' w' (putSlot S d v C'.σ) (a.put d u) ds :=
  ⟨putSlot_st,hs,put_rep (RepAll.mono hg.keeps _ _ h.tmps) hv,(put_tmps a d u).2.trans h.defers⟩

theorem vops_sound {X:Ext} (hX:ExtOk P X) {call:Caller} (hc:CallOk P call) {ro:Nat} {ops:Array Oper} {Q:Exit→Act→World→Prop} {ds:List Deferred} {S' : St}:∀ (l:List Oper) {C:Ctx} {w:World} {S:St} {a:Act},
    vops P X call false ro ops l S=some S' → At C w S a ds→ro ≤ C.σ.length→(∀ C' w' a',At C' w' S' a' ds→Grow ro C w C' w' → Q .normal a' w')→wpList P ops Q l a w
  | [], C, w, S, a, h, hat, _, hQ => by
    simp only [vops,Option.some.injEq] at h
    subst h
    exact hQ C w a hat (Grow.refl ..)
  | o :: l, C, w, S, a, h, hat, hro, hQ => by
    simp only [vops] at h
    simp only [wpList]
    split at h
    · rename_i hw
      rw [if_pos (wanted_run hat.tmps hw)]
      split at h
      · rename_i v σ' hop
        left
        refine evOp_sound hX hc hop hat.st hat.ok hro hat.tmps ?_
        intro u w' C' hσ hs hg hv _
        simp only [Bool.false_eq_true,if_false] at h
        subst hσ
        exact vops_sound hX hc l h (hat.step hs hg hv) (Nat.le_trans hro hg.len) (fun C'' w'' a'' h1 h2=>hQ C'' w'' a'' h1 (hg.trans hs h2))
      · cases h
    · rename_i hw
      have e:=wanted_run hat.tmps hw
      rw [if_neg (by rw [e]; simp)]
      refine vops_sound hX hc l h ?_ hro hQ
      rw [hat.st]
      exact hat.step hat.ok (Grow.refl 0 C w) (by simp only [Rep])
    · cases h

/-! ### what an operation looks at -/
theorem evs_congr {S S' : St}:∀ {xs:List Operand},(∀ x ∈ xs,ev S x=ev S' x)→evs S xs=evs S' xs
  | [],_=>rfl
  | x :: xs, h => by
    simp only [evs]
    rw [h x (List.mem_cons_self ..),evs_congr fun y hy=>h y (List.mem_cons_of_mem _ hy)]
theorem evParts_congr {S S' : St}:∀ {xs:List (Nat × Operand)},(∀ x ∈ xs,ev S x.2=ev S' x.2)→evParts S xs=evParts S' xs
  | [],_=>rfl
  | (i, x) :: xs, h => by
    simp only [evParts]
    rw [h (i,x) (List.mem_cons_self ..),evParts_congr fun y hy=>h y (List.mem_cons_of_mem _ hy)]
theorem optEv_congr {S S' : St} {x:Option Operand} (h:∀ y,x=some y→ev S y=ev S' y):optEv S x=optEv S' x:=by
  cases x with
  | none=>rfl
  | some y=>simp only [optEv]; rw [h y rfl]
theorem evOp_congr {X:Ext} {call:Caller} {dr:Bool} {ro:Nat} {S S' : St} {o:Oper} (hst:S.st=S'.st) (h:∀ x ∈ o.op.operands.toList,ev S x=ev S' x):evOp P X call dr ro S o=evOp P X call dr ro S' o:=by
  unfold evOp
  rw [hst]
  cases hop:o.op <;> rw [hop] at h <;> simp only [Op.operands] at h <;> simp only
  case pick=>rw [h _ (by simp),h _ (by simp),h _ (by simp)]
  case build=>rw [evParts_congr fun x hx=>h x.2 (List.mem_toArray.1 (by simpa using List.mem_map_of_mem (f:=fun x=>x.2) hx))]
  case buildSlice=>rw [evParts_congr fun x hx=>h x.2 (List.mem_toArray.1 (by simpa using List.mem_map_of_mem (f:=fun x=>x.2) hx))]
  case mapUpdate=>rw [h _ (by simp),h _ (by simp),h _ (by simp)]
  case makeMap t r =>
    cases r with
    | none=>rfl
    | some x =>
      have e:=h x (by simp [Option.toArray])
      simp only [e]
  case makeFunc=>rw [evs_congr fun x hx=>h x (by simp at hx ⊢; exact .inr hx)]
  case slice=>rw [h _ (by simp),optEv_congr fun y hy=>h y (by simp [hy]),optEv_congr fun y hy=>h y (by simp [hy]),optEv_congr fun y hy=>h y (by simp [hy])]
  case call c =>
    have ha:evs S c.args.toList=evs S' c.args.toList:=evs_congr fun x hx=>h x (by simp only [Call.operands,Array.toList_append,List.mem_append]; exact .inr hx)
    rw [ha]
    cases hcal:c.callee with
    | builtin b=>rfl
    | invoke _ _=>rfl
    | value g=>simp only; rw [h g (by simp [Call.operands,hcal])]
  all_goals first
    | rfl
    | (rw [h _ (by simp)]; done)
    | (rw [h _ (by simp),h _ (by simp)]; done)
end Go.Vm
end
/- Regions whose order is drawn: every order does what the text's order does. -/
section
namespace Go.Vm
open Go.RowKit (Below)
variable [Fixed]
variable {P:Program} {C:Ctx} {w:World}

theorem drOk_spec {ops:Array Oper} (h:drOk ops=true) {j:Nat} {o:Oper} (hj:ops[j]? = some o) :
    (∀ e ∈ o.after.toList,Region.binds .any e=true→e.on < j) ∧
    ∀ i o',ops[i]? = some o' → i ≠ j→∀ t,o'.dst=some t→o.dst ≠ some t∧(t ∈ o.looksAt ops→(i < j→edgeOn o i=true)∧(j < i→edgeOn o' j=true)):=by
  unfold drOk at h
  have mem : ∀ {k : Nat} {x : Oper}, ops[k]? = some x → (x, k) ∈ ops.toList.zipIdx := by
    intro k x hk
    rw [List.mem_zipIdx_iff_getElem?]
    simpa using hk
  have h1:=List.all_eq_true.1 h _ (mem hj)
  simp only [Bool.and_eq_true] at h1
  obtain ⟨ha,hb⟩:=h1
  refine ⟨fun e he hbind => ?_,fun i o' hi hne t ht => ?_⟩
  · have := List.all_eq_true.1 ha e he
    rw [hbind] at this
    simpa using this
  · have := List.all_eq_true.1 hb _ (mem hi)
    have hne' : (i == j)=false:=by simpa using hne
    simp only [hne',Bool.false_or,ht,Bool.and_eq_true] at this
    obtain ⟨h2,h3⟩:=this
    refine ⟨by simpa using h2,fun hl => ?_⟩
    have hc:(o.looksAt ops).contains t=true:=by simpa using hl
    rw [hc] at h3
    simp only [Bool.not_true,Bool.false_or] at h3
    constructor
    · intro hlt
      have hb:Nat.blt i j=true:=by simpa using hlt
      rw [if_pos hb] at h3
      exact h3
    · intro hlt
      have hb : ¬ Nat.blt i j=true:=by simp; omega
      rw [if_neg hb] at h3
      exact h3

theorem nth_ext:∀ {l l' : List AV},l.length=l'.length→(∀ t,nth l t=nth l' t)→l=l'
  | [],[],_,_=>rfl
  | v :: l, v' :: l', h, hn => by
    have h0:=hn 0
    simp only [nth] at h0
    rw [h0,nth_ext (l:=l) (l' := l') (by simpa using h) fun t=>hn (t + 1)]
  | [],_::_,h,_=>by simp at h
  | _::_,[],h,_=>by simp at h
theorem nth_setN:∀ {l:List AV} {t k:Nat} {v:AV},nth (setN l t v) k=if k=t∧t < l.length then v else nth l k
  | [],t,k,v=>by simp [setN]
  | x::l,0,0,v=>by simp [setN,nth]
  | x::l,0,k + 1,v=>by simp [setN,nth]
  | x::l,t + 1,0,v=>by simp [setN,nth]
  | x::l,t + 1,k + 1,v=>by simp [setN,nth,nth_setN (l:=l)]

section
variable {X:Ext} {call:Caller} {ro:Nat} {ops:Array Oper}

theorem vops_append:∀ {l1 l2:List Oper} {S S' : St},vops P X call true ro ops (l1 ++ l2) S=some S' → ∃ S1,vops P X call true ro ops l1 S=some S1∧vops P X call true ro ops l2 S1=some S'
  | [],l2,S,S',h=>⟨S,rfl,h⟩
  | o :: l1, l2, S, S', h => by
    simp only [List.cons_append,vops] at h ⊢
    split at h
    · split at h
      · rename_i v σ' _
        obtain ⟨S1,h1,h2⟩:=vops_append h
        exact ⟨S1,h1,h2⟩
      · cases h
    · obtain ⟨S1, h1, h2⟩ := vops_append h
      exact ⟨S1,h1,h2⟩
    · cases h
theorem putSlot_tmps (S:St) (d:Option Tmp) (v:AV) (σ:List Ob):(putSlot S d v σ).tmps.length=S.tmps.length∧∀ t,d ≠ some t→nth (putSlot S d v σ).tmps t=nth S.tmps t:=by
  cases d with
  | none=>exact ⟨rfl,fun _ _=>rfl⟩
  | some d =>
    refine ⟨setN_length ..,fun t ht => ?_⟩
    simp only [putSlot,nth_setN]
    rw [if_neg]
    rintro ⟨rfl,_⟩
    exact ht rfl
theorem vops_keeps:∀ {l:List Oper} {S S' : St},vops P X call true ro ops l S=some S' → S'.st=S.st∧S'.tmps.length=S.tmps.length∧∀ t,(∀ o ∈ l,o.dst ≠ some t)→nth S'.tmps t=nth S.tmps t
  | [],S,S',h=>by simp only [vops,Option.some.injEq] at h; subst h; exact ⟨rfl,rfl,fun _ _=>rfl⟩
  | o :: l, S, S', h => by
    simp only [vops] at h
    have key : ∀ v, vops P X call true ro ops l (putSlot S o.dst v S.st) = some S' → S'.st = S.st ∧ S'.tmps.length = S.tmps.length ∧ ∀ t, (∀ o' ∈ o :: l, o'.dst ≠ some t) → nth S'.tmps t = nth S.tmps t := by
      intro v h
      obtain ⟨a,b,c⟩:=vops_keeps h
      obtain ⟨d,e⟩:=putSlot_tmps S o.dst v S.st
      refine ⟨a.trans putSlot_st,b.trans d,fun t ht => ?_⟩
      rw [c t fun o' ho' => ht o' (List.mem_cons_of_mem _ ho'),e t (ht o (List.mem_cons_self ..))]
    split at h
    · split at h
      · exact key _ h
      · cases h
    · exact key _ h
    · cases h

/-- The temporaries when the operations of L have run. -/
def mixAt (ops:Array Oper) (T0 Tn:List AV) (L:Nat→Bool) (t:Nat):AV :=
  if (List.range ops.size).any (fun i=>L i && ((ops[i]?).bind (·.dst) == some t)) then nth Tn t else nth T0 t
def mix (ops:Array Oper) (T0 Tn:List AV) (L:Nat→Bool):List AV:=(List.range T0.length).map (mixAt ops T0 Tn L)
theorem any_iff {L:Nat→Bool} {t:Nat}:(List.range ops.size).any (fun i=>L i && ((ops[i]?).bind (·.dst) == some t))=true ↔ ∃ i o,ops[i]? = some o∧L i=true∧o.dst=some t:=by
  rw [List.any_eq_true]
  constructor
  · rintro ⟨i, hi, h⟩
    have hi:i < ops.size:=by simpa using hi
    have ho:ops[i]? = some ops[i]:=Array.getElem?_eq_getElem hi
    rw [ho] at h
    simp only [Bool.and_eq_true,Option.bind_some] at h
    exact ⟨i,ops[i],ho,h.1,by simpa using h.2⟩
  · rintro ⟨i, o, ho, h1, h2⟩
    refine ⟨i,by simpa using (Array.getElem?_eq_some_iff.1 ho).1,?_⟩
    rw [ho]
    simp [h1,h2]
theorem nth_map_range (f:Nat→AV):∀ (n k t:Nat),nth ((List.range' k n).map f) t=if t < n then f (k + t) else .undef
  | 0,k,t=>by simp [nth]
  | n + 1,k,0=>by simp [List.range'_succ,nth]
  | n + 1,k,t + 1=>by simp [List.range'_succ,nth,nth_map_range f n (k + 1) t,Nat.add_assoc,Nat.add_comm 1 t]
theorem nth_mix {T0 Tn:List AV} (hl:Tn.length=T0.length) {L:Nat→Bool} {t:Nat}:nth (mix ops T0 Tn L) t=mixAt ops T0 Tn L t:=by
  unfold mix
  rw [List.range_eq_range',nth_map_range]
  split
  · simp
  · rename_i h
    unfold mixAt
    split
    · rw [nth_none (by omega)]
    · rw [nth_none (by omega)]
theorem mix_length {T0 Tn:List AV} {L:Nat→Bool}:(mix ops T0 Tn L).length=T0.length:=by simp [mix]

/-- Before operation j of the text's order. -/
theorem prefix_state {S0 Sn:St} (hrun:vops P X call true ro ops ops.toList S0=some Sn) (hok:drOk ops=true) {j:Nat} {o:Oper} (hj:ops[j]? = some o) :
    ∃ Sj rest,Sj.st=S0.st∧Sj.tmps=mix ops S0.tmps Sn.tmps (fun i=>Nat.blt i j)∧vops P X call true ro ops (o::rest) Sj=some Sn∧(∀ t,o.dst=some t→∀ o' ∈ rest,o'.dst ≠ some t):=by
  have hlt:j < ops.size:=(Array.getElem?_eq_some_iff.1 hj).1
  have hj' : ops.toList[j]? = some o:=by simpa using hj
  have hsplit:ops.toList=ops.toList.take j ++ ops.toList.drop j:=(List.take_append_drop ..).symm
  have hdrop : ops.toList.drop j = o :: ops.toList.drop (j + 1) := by
    rw [List.drop_eq_getElem_cons (by simpa using hlt)]
    congr 1
    rw [List.getElem?_eq_getElem (by simpa using hlt)] at hj'
    simpa using hj'
  rw [hsplit] at hrun
  obtain ⟨Sj,h1,h2⟩:=vops_append hrun
  obtain ⟨a1,a2,a3⟩:=vops_keeps h1
  obtain ⟨b1,b2,b3⟩:=vops_keeps h2
  have hlen:Sn.tmps.length=S0.tmps.length:=b2.trans a2
  have later:∀ {i k:Nat} {x y:Oper} {t:Nat},ops[i]? = some x→ops[k]? = some y→i ≠ k→x.dst=some t→y.dst ≠ some t:=fun hi hk hne ht=>((drOk_spec hok hk).2 _ _ hi hne _ ht).1
  refine ⟨Sj,ops.toList.drop (j + 1),a1,?_,hdrop ▸ h2,?_⟩
  · apply nth_ext (by rw [a2, mix_length])
    intro t
    rw [nth_mix hlen]
    unfold mixAt
    split
    · rename_i hany
      obtain ⟨i,x,hi,hij,hx⟩:=any_iff.1 hany
      have hij:i < j:=by simpa using hij
      rw [b3 t]
      intro y hy
      obtain ⟨k,hk⟩:=List.mem_iff_getElem?.1 hy
      rw [List.getElem?_drop] at hk
      exact later hi (by simpa using hk) (by omega) hx
    · rename_i hany
      apply a3 t
      intro y hy hyt
      obtain ⟨k,hk⟩:=List.mem_iff_getElem?.1 hy
      rw [List.getElem?_take] at hk
      split at hk
      · exact hany (any_iff.2 ⟨k,y,by simpa using hk,by simpa,hyt⟩)
      · cases hk
  · intro t ht y hy
    obtain ⟨k,hk⟩:=List.mem_iff_getElem?.1 hy
    rw [List.getElem?_drop] at hk
    exact later hj (by simpa using hk) (by omega) ht

/-- An operation that is ready does in any order what it does in the text's. -/
theorem mixed_op {S0 Sn:St} (hrun:vops P X call true ro ops ops.toList S0=some Sn) (hok:drOk ops=true) {j:Nat} {o:Oper} (hj:ops[j]? = some o) {L:Nat→Bool} (hL:L j=false)
    (hcl:∀ i x,ops[i]? = some x→L i=true→∀ e ∈ x.after.toList,Region.binds .any e=true→L e.on=true)
    (hready:∀ e ∈ o.after.toList,Region.binds .any e=true→L e.on=true) :
    let SL:St:=⟨mix ops S0.tmps Sn.tmps L,S0.st⟩
    (wantedv ops SL o=some true∧∃ v σ',evOp P X call true ro SL o=some (v,σ')∧(putSlot SL o.dst v S0.st).tmps=mix ops S0.tmps Sn.tmps (fun i=>i == j || L i)) ∨
    (wantedv ops SL o=some false∧(putSlot SL o.dst .undef S0.st).tmps=mix ops S0.tmps Sn.tmps (fun i=>i == j || L i)):=by
  intro SL
  obtain ⟨Sj,rest,hst,htm,hv,hrest⟩:=prefix_state hrun hok hj
  obtain ⟨_,hlen,_⟩:=vops_keeps hrun
  have look : ∀ t, t ∈ o.looksAt ops → nth SL.tmps t = nth Sj.tmps t := by
    intro t ht
    rw [htm]
    show nth (mix ops S0.tmps Sn.tmps L) t=_
    rw [nth_mix hlen,nth_mix hlen]
    unfold mixAt
    have : (List.range ops.size).any (fun i => L i && ((ops[i]?).bind (·.dst) == some t)) = (List.range ops.size).any (fun i => Nat.blt i j && ((ops[i]?).bind (·.dst) == some t)) := by
      rw [Bool.eq_iff_iff,any_iff,any_iff]
      constructor
      · rintro ⟨i, x, hi, hLi, hx⟩
        refine ⟨i,x,hi,?_,hx⟩
        by_cases hij:i=j
        · subst hij; rw [hL] at hLi; cases hLi
        · by_cases hlt : i < j
          · simpa using hlt
          · have he := (((drOk_spec hok hj).2 i x hi hij t hx).2 ht).2 (by omega)
            obtain ⟨e,he1,he2⟩:=List.any_eq_true.1 he
            simp only [Bool.and_eq_true,beq_iff_eq] at he2
            have:=hcl i x hi hLi e he1 he2.1
            rw [he2.2,hL] at this
            cases this
      · rintro ⟨i, x, hi, hij, hx⟩
        have hij:i < j:=by simpa using hij
        refine ⟨i,x,hi,?_,hx⟩
        have he:=(((drOk_spec hok hj).2 i x hi (by omega) t hx).2 ht).1 hij
        obtain ⟨e,he1,he2⟩:=List.any_eq_true.1 he
        simp only [Bool.and_eq_true,beq_iff_eq] at he2
        have:=hready e he1 he2.1
        rwa [he2.2] at this
    rw [this]
  have hwant : wantedv ops SL o = wantedv ops Sj o := by
    unfold wantedv
    cases hg:o.guard with
    | none=>rfl
    | some g =>
      obtain ⟨k,want⟩:=g
      simp only
      cases hd:(ops[k]?).bind (·.dst) with
      | none=>rfl
      | some t =>
        simp only
        rw [look t (by simp [Oper.looksAt,hg,hd])]
  have hev : evOp P X call true ro SL o = evOp P X call true ro Sj o := by
    refine evOp_congr hst.symm fun x hx => ?_
    cases x with
    | tmp t =>
      simp only [ev]
      rw [look t (by simp only [Oper.looksAt,List.mem_append,List.mem_filterMap]; exact .inl ⟨_,hx,rfl⟩)]
    | const _=>rfl
    | func _=>rfl
    | global _=>rfl
  -- the temporaries afterwards
  have after : ∀ v, vops P X call true ro ops rest (putSlot Sj o.dst v Sj.st) = some Sn → (putSlot SL o.dst v S0.st).tmps = mix ops S0.tmps Sn.tmps (fun i => i == j || L i) := by
    intro v hr
    apply nth_ext (by rw [(putSlot_tmps ..).1]; exact mix_length.trans mix_length.symm)
    intro t
    rw [nth_mix hlen]
    by_cases ht:o.dst=some t
    · have hany : (List.range ops.size).any (fun i => (i == j || L i) && ((ops[i]?).bind (·.dst) == some t)) = true := any_iff.2 ⟨j, o, hj, by simp, ht⟩
      unfold mixAt
      rw [if_pos hany,(vops_keeps hr).2.2 t (hrest t ht),ht]
      simp only [putSlot,nth_setN]
      have e:Sj.tmps.length=SL.tmps.length:=by rw [htm,mix_length]; exact mix_length.symm
      rw [e]
      split
      · rfl
      · rename_i hn
        have hge : SL.tmps.length ≤ t := by
          rcases Nat.lt_or_ge t SL.tmps.length with h | h
          · exact absurd (by simpa using h) hn
          · exact h
        rw [nth_none hge,nth_none (by rw [e]; exact hge)]
    · rw [(putSlot_tmps ..).2 t ht]
      show nth (mix ops S0.tmps Sn.tmps L) t=_
      rw [nth_mix hlen]
      unfold mixAt
      have : (List.range ops.size).any (fun i => L i && ((ops[i]?).bind (·.dst) == some t)) = (List.range ops.size).any (fun i => (i == j || L i) && ((ops[i]?).bind (·.dst) == some t)) := by
        rw [Bool.eq_iff_iff,any_iff,any_iff]
        constructor
        · rintro ⟨i, x, hi, hLi, hx⟩
          exact ⟨i,x,hi,by simp [hLi],hx⟩
        · rintro ⟨i, x, hi, hLi, hx⟩
          refine ⟨i,x,hi,?_,hx⟩
          by_cases hij:i=j
          · subst hij
            rw [hj] at hi
            cases hi
            exact absurd hx ht
          · simpa [hij] using hLi
      rw [this]
  rw [hwant,hev]
  simp only [vops] at hv
  split at hv
  · rename_i hw
    split at hv
    · rename_i v σ' hop
      exact .inl ⟨hw,v,σ',hop,after v (by simpa using hv)⟩
    · cases hv
  · rename_i hw
    exact .inr ⟨hw,after _ hv⟩
  · cases hv
end
end Go.Vm
end
/- Regions whose order is drawn, second part. -/
section
namespace Go.Vm
open Go.RowKit (Below)
variable [Fixed]
variable {P:Program} {C:Ctx} {w:World}

theorem countP_lt {p q:Nat→Bool}:∀ {l:List Nat},(∀ i ∈ l,q i=true→p i=true)→(∃ j ∈ l,p j=true∧q j=false)→l.countP q < l.countP p
  | [],_,⟨j,hj,_⟩=>by simp at hj
  | i :: l, h, ⟨j, hj, hp, hq⟩ => by
    have hle:l.countP q ≤ l.countP p:=List.countP_mono_left fun i hi=>h i (List.mem_cons_of_mem _ hi)
    rcases List.mem_cons.1 hj with rfl | hj
    · rw [List.countP_cons, List.countP_cons, hp, hq]
      simp only [Bool.false_eq_true,if_false,if_true]
      omega
    · have := countP_lt (l := l) (fun i hi => h i (List.mem_cons_of_mem _ hi)) ⟨j, hj, hp, hq⟩
      rw [List.countP_cons,List.countP_cons]
      have h0:=h i (List.mem_cons_self ..)
      cases hqi:q i
      · simp only [Bool.false_eq_true,if_false]; omega
      · rw [h0 hqi]; simp only [if_true]; omega

section
variable {X:Ext} {call:Caller} {ro:Nat} {ops:Array Oper} {ds:List Deferred}

theorem mix_all {S0 Sn:St} (hrun:vops P X call true ro ops ops.toList S0=some Sn) {L:Nat→Bool} (hL:∀ i,i < ops.size→L i=true):mix ops S0.tmps Sn.tmps L=Sn.tmps:=by
  obtain ⟨_,hlen,hk⟩:=vops_keeps hrun
  apply nth_ext (by rw [mix_length,hlen])
  intro t
  rw [nth_mix hlen]
  unfold mixAt
  split
  · rfl
  · rename_i hany
    rw [hk t]
    intro o ho hot
    obtain ⟨i,hi⟩:=List.mem_iff_getElem?.1 ho
    have hi:ops[i]? = some o:=by simpa using hi
    exact hany (any_iff.2 ⟨i,o,hi,hL i (Array.getElem?_eq_some_iff.1 hi).1,hot⟩)
theorem mix_none {S0 Sn:St} (hrun:vops P X call true ro ops ops.toList S0=some Sn) {L:Nat→Bool} (hL:∀ i,i < ops.size→L i=false):mix ops S0.tmps Sn.tmps L=S0.tmps:=by
  obtain ⟨_,hlen,_⟩:=vops_keeps hrun
  apply nth_ext mix_length
  intro t
  rw [nth_mix hlen]
  unfold mixAt
  split
  · rename_i hany
    obtain ⟨i,o,hi,hLi,_⟩:=any_iff.1 hany
    rw [hL i (Array.getElem?_eq_some_iff.1 hi).1] at hLi
    cases hLi
  · rfl

theorem ready_iff {listed:Array Bool} (hsz:listed.size=ops.size) {j:Nat}:j ∈ Region.ready .any ops listed ↔ ∃ o,ops[j]? = some o∧listed.getD j false=false∧∀ e ∈ o.after.toList,Region.binds .any e=true→listed.getD e.on false=true:=by
  unfold Region.ready
  rw [List.mem_filter,List.mem_range,Bool.and_eq_true]
  constructor
  · rintro ⟨hj, h1, h2⟩
    have ho:ops[j]? = some ops[j]:=Array.getElem?_eq_getElem hj
    refine ⟨ops[j],ho,?_,?_⟩
    · have : listed.getD j true = false := by simpa using h1
      have hj' : j < listed.size:=by omega
      simp only [Array.getD,hj',dite_true] at this ⊢
      exact this
    · intro e he hb
      rw [ho] at h2
      simp only [Option.map_some,Option.getD_some] at h2
      rw [← Array.all_toList] at h2
      have:=List.all_eq_true.1 h2 e he
      rw [hb] at this
      simpa using this
  · rintro ⟨o, ho, h1, h2⟩
    have hj:=(Array.getElem?_eq_some_iff.1 ho).1
    have hj' : j < listed.size:=by omega
    refine ⟨hj,?_,?_⟩
    · simp only [Array.getD, hj', dite_true] at h1 ⊢
      rw [h1]; rfl
    · rw [ho]
      simp only [Option.map_some,Option.getD_some]
      rw [← Array.all_toList]
      refine List.all_eq_true.2 fun e he => ?_
      by_cases hb:Region.binds .any e=true
      · rw [h2 e he hb]; simp
      · simp [hb]

theorem wpAny_all {Q:Exit→Act→World→Prop} (hX:ExtOk P X) (hc:CallOk P call) (hok:drOk ops=true) {S0 Sn:St} (hrun:vops P X call true ro ops ops.toList S0=some Sn) (h0:S0.st=C.σ) (hro:ro ≤ C.σ.length)
    (hQ:∀ w' a',At C w' Sn a' ds→Grow ro C w C w' → Q .normal a' w') :
    ∀ (fuel : Nat) (listed : Array Bool) (w1 : World) (a : Act), listed.size = ops.size → (List.range ops.size).countP (fun i => !listed.getD i false) ≤ fuel →
      (∀ i x,ops[i]? = some x→listed.getD i false=true→∀ e ∈ x.after.toList,Region.binds .any e=true→listed.getD e.on false=true) →
      At C w1 ⟨mix ops S0.tmps Sn.tmps (fun i=>listed.getD i false),S0.st⟩ a ds→Grow ro C w C w1→wpAny P .any ops Q fuel listed a w1:=by
  -- when none is ready, all have run
  have done : ∀ (listed : Array Bool), listed.size = ops.size → Region.ready .any ops listed = [] → ∀ i, i < ops.size → listed.getD i false = true := by
    intro listed hsz hr i
    induction i using Nat.strongRecOn with
    | _ i ih =>
      intro hi
      by_cases h:listed.getD i false=true
      · exact h
      · have ho : ops[i]? = some ops[i] := Array.getElem?_eq_getElem hi
        have : i ∈ Region.ready .any ops listed := (ready_iff hsz).2 ⟨_, ho, by simpa using h, fun e he hb => by
          have:=(drOk_spec hok ho).1 e he hb
          exact ih e.on this (by omega)⟩
        rw [hr] at this
        simp at this
  have fin : ∀ (listed : Array Bool) (w1 : World) (a : Act), listed.size = ops.size → Region.ready .any ops listed = [] → At C w1 ⟨mix ops S0.tmps Sn.tmps (fun i => listed.getD i false), S0.st⟩ a ds → Grow ro C w C w1 → Q .normal a w1 := by
    intro listed w1 a hsz hr hat hg
    refine hQ w1 a ?_ hg
    rw [mix_all hrun (done listed hsz hr)] at hat
    exact ⟨(vops_keeps hrun).1.trans hat.st,hat.ok,hat.tmps,hat.defers⟩
  intro fuel
  induction fuel with
  | zero =>
    intro listed w1 a hsz hcount hcl hat hg
    have hr : Region.ready .any ops listed = [] := by
      cases hr:Region.ready .any ops listed with
      | nil=>rfl
      | cons j l =>
        obtain ⟨o,ho,h1,_⟩:=(ready_iff hsz).1 (hr ▸ List.mem_cons_self .. : j ∈ Region.ready .any ops listed)
        have hj:=(Array.getElem?_eq_some_iff.1 ho).1
        have:0 < (List.range ops.size).countP (fun i => !listed.getD i false):=List.countP_pos_iff.2 ⟨j,by simpa using hj,by rw [h1]; rfl⟩
        omega
    exact ⟨hr,fin listed w1 a hsz hr hat hg⟩
  | succ fuel ih =>
    intro listed w1 a hsz hcount hcl hat hg
    refine ⟨fun hr=>fin listed w1 a hsz hr hat hg,fun j hjr => ?_⟩
    obtain ⟨o,ho,hL,hready⟩:=(ready_iff hsz).1 hjr
    have hj:=(Array.getElem?_eq_some_iff.1 ho).1
    have hget : ∀ i, (listed.setIfInBounds j true).getD i false = (i == j || listed.getD i false) := by
      intro i
      by_cases hi:i < listed.size
      · have hi' : i < (listed.setIfInBounds j true).size := by simpa using hi
        simp only [Array.getD,hi,hi',dite_true]
        rw [Array.getInternal_eq_getElem,Array.getInternal_eq_getElem,Array.getElem_setIfInBounds]
        by_cases hij:j=i
        · simp [hij]
        · simp [hij,Ne.symm hij]
        exact hi
      · have hi' : ¬ i < (listed.setIfInBounds j true).size := by simpa using hi
        simp only [Array.getD,hi,hi',dite_false]
        have:i ≠ j:=by omega
        simp [this]
    have hcount' : (List.range ops.size).countP (fun i => !(listed.setIfInBounds j true).getD i false) ≤ fuel := by
      have : (List.range ops.size).countP (fun i => !(listed.setIfInBounds j true).getD i false) < (List.range ops.size).countP (fun i => !listed.getD i false) := by
        apply countP_lt
        · intro i _ hi
          rw [hget] at hi
          cases h:listed.getD i false
          · rfl
          · rw [h] at hi; simp at hi
        · exact ⟨j,by simpa using hj,by rw [hL]; rfl,by rw [hget]; simp⟩
      omega
    have hcl' : ∀ i x, ops[i]? = some x → (listed.setIfInBounds j true).getD i false = true → ∀ e ∈ x.after.toList, Region.binds .any e = true → (listed.setIfInBounds j true).getD e.on false = true := by
      intro i x hi hLi e he hb
      rw [hget] at hLi ⊢
      by_cases hij:i=j
      · subst hij
        rw [ho] at hi
        cases hi
        simp [hready e he hb]
      · have : listed.getD i false = true := by simpa [hij] using hLi
        simp [hcl i x hi this e he hb]
    have hm:=mixed_op hrun hok ho hL hcl hready
    unfold wpOp
    rw [ho]
    simp only
    have next : ∀ (v : AV) (u : Value) (w' : World), (putSlot (⟨mix ops S0.tmps Sn.tmps (fun i => listed.getD i false), S0.st⟩ : St) o.dst v S0.st).tmps = mix ops S0.tmps Sn.tmps (fun i => i == j || listed.getD i false) →
        SOk C w' → Grow ro C w1 C w' → Rep C w' v u→wpAny P .any ops Q fuel (listed.setIfInBounds j true) (a.put o.dst u) w' := by
      intro v u w' htm hs' hg' hv
      refine ih (listed.setIfInBounds j true) w' (a.put o.dst u) (by simpa using hsz) hcount' hcl' ?_ (hg.trans hat.ok hg')
      have hstep:=hat.step (d:=o.dst) hs' hg' hv
      have e:(fun i=>(listed.setIfInBounds j true).getD i false)=(fun i=>i == j || listed.getD i false):=funext hget
      rw [e,← htm]
      refine ⟨h0,hstep.ok,?_,hstep.defers⟩
      have:=hstep.tmps
      rwa [← h0] at this
    rcases hm with ⟨hw,v,σ',hop,htm⟩ | ⟨hw,htm⟩
    · rw [if_pos (wanted_run hat.tmps hw)]
      left
      refine evOp_sound hX hc hop hat.st hat.ok hro hat.tmps ?_
      intro u w' C' _ hs' hg' hv hC
      have:=hC rfl
      subst this
      exact next v u w' htm hs' hg' hv
    · rw [if_neg (by rw [wanted_run hat.tmps hw]; simp)]
      exact next .undef undef w1 htm hat.ok (Grow.refl ..) (by simp only [Rep])

theorem draw_sound {Q:Exit→Act→World→Prop} (hm:P.follows .mixedOrders=true) (hX:ExtOk P X) (hc:CallOk P call) (hok:drOk ops=true) {id:Nat} {S S' : St} {a:Act} (hrun:vops P X call true ro ops ops.toList S=some S')
    (hat:At C w S a ds) (hro:ro ≤ C.σ.length) (hQ:∀ w' a',At C w' S' a' ds→Grow ro C w C w' → Q .normal a' w'):(Code.region id ops true).wp P Q a w:=by
  apply wp_region_any hm
  obtain ⟨h1,h2,_⟩:=more_heap hat.ok ro (w' := { w with drawn:=w.drawn + 1 }) rfl rfl rfl (Nat.le_refl _) (fun _ _=>rfl)
  have hgd : ∀ i, (Array.replicate ops.size false).getD i false = false := by
    intro i
    simp only [Array.getD]
    split
    · rw [Array.getInternal_eq_getElem]; simp
    · rfl
  refine wpAny_all (w:=w) hX hc hok hrun hat.st hro hQ ops.size _ _ a (by simp) ?_ ?_ ?_ h2
  · exact Nat.le_trans List.countP_le_length (by simp)
  · intro i x _ hLi
    rw [hgd] at hLi
    cases hLi
  · have e : (fun i => (Array.replicate ops.size false).getD i false) = fun _ => false := funext hgd
    rw [e,mix_none hrun (fun _ _=>rfl)]
    exact ⟨hat.st,h1,RepAll.mono h2.keeps _ _ hat.tmps,hat.defers⟩
end
end Go.Vm
end
/- Regions whose order is drawn, in which rows grow: every order does what the text's order does. -/
section
namespace Go.Vm
open Go.RowKit (Below)
variable [Fixed]
variable {P:Program} {C:Ctx} {w:World}

/-! ### more memory -/
def Ext2 (σ σ' : List Ob):Prop:=∀ (id:Nat) (o:Ob),σ[id]? = some o→σ'[id]? = some o
theorem Ext2.refl (σ:List Ob):Ext2 σ σ:=fun _ _ h=>h
section
variable {X:Ext} {call:Caller} {ro:Nat} {σ σ' : List Ob}
theorem ev_ext {T:List AV} (x:Operand):ev ⟨T,σ⟩ x=ev ⟨T,σ'⟩ x:=by cases x <;> rfl
theorem evs_ext {T:List AV}:∀ (xs:List Operand),evs ⟨T,σ⟩ xs=evs ⟨T,σ'⟩ xs
  | []=>rfl
  | x::xs=>by simp only [evs,ev_ext (σ:=σ) (σ' := σ') x,evs_ext xs]
theorem evParts_ext {T:List AV}:∀ (xs:List (Nat × Operand)),evParts ⟨T,σ⟩ xs=evParts ⟨T,σ'⟩ xs
  | []=>rfl
  | (i,x)::xs=>by simp only [evParts,ev_ext (σ:=σ) (σ' := σ') x,evParts_ext xs]
theorem optEv_ext {T:List AV} (x:Option Operand):optEv ⟨T,σ⟩ x=optEv ⟨T,σ'⟩ x:=by
  cases x with
  | none=>rfl
  | some x=>simp only [optEv,ev_ext (σ:=σ) (σ' := σ') x]
theorem keep_ext {r:Option AV} {v:AV} {s:List Ob} (h:keep σ r=some (v,s)):keep σ' r=some (v,σ'):=by
  cases r with
  | none=>cases h
  | some x=>simp only [keep,Option.some.injEq,Prod.mk.injEq] at h ⊢; exact ⟨h.1,trivial⟩
theorem keep_mono {r r' : Option AV} {v:AV} {s:List Ob} (hr:∀ x,r=some x→r' = some x) (h:keep σ r=some (v,s)):keep σ' r' = some (v,σ'):=by
  cases hx:r with
  | none=>rw [hx] at h; cases h
  | some x =>
    rw [hx] at h
    rw [hr x hx]
    simp only [keep,Option.some.injEq,Prod.mk.injEq] at h ⊢
    exact ⟨h.1,trivial⟩
theorem cellsAt_ext (hext:Ext2 σ σ') {a:AV} {cs:List AV} (h:cellsAt σ a=some cs):cellsAt σ' a=some cs:=by
  unfold cellsAt at h ⊢
  split at h
  · rename_i id off
    cases ho:σ[id]? with
    | none=>rw [ho] at h; cases h
    | some o=>rw [ho] at h; simp only [hext id o ho]; exact h
  · rename_i id n off
    cases ho:σ[id]? with
    | none=>rw [ho] at h; cases h
    | some o=>rw [ho] at h; simp only [hext id o ho]; exact h
  · exact h
  · cases h
theorem loadv_ext (hext:Ext2 σ σ') {t:TypeId} {a v:AV} (h:loadv P t σ a=some v):loadv P t σ' a=some v:=by
  unfold loadv at h ⊢
  cases hc:cellsAt σ a with
  | none=>rw [hc] at h; cases h
  | some cs=>rw [hc] at h; rw [cellsAt_ext hext hc]; exact h
theorem indexAddrv_ext (hext:Ext2 σ σ') {t:TypeId} {x i v:AV} (h:indexAddrv P t σ x i=some v):indexAddrv P t σ' x i=some v:=by
  unfold indexAddrv at h ⊢
  split at h
  · exact h
  · rename_i e id n ik j hu
    cases ho:σ[id]? with
    | none=>rw [ho] at h; cases h
    | some o=>rw [ho] at h; simp only [hext id o ho]; exact h
  · exact h
  · cases h
theorem entriesOf_ext (hext:Ext2 σ σ') {m:AV} {es:List (AV × AV)} (h:entriesOf σ m=some es):entriesOf σ' m=some es:=by
  unfold entriesOf at h ⊢
  split at h
  · exact h
  · rename_i id
    cases ho:σ[id]? with
    | none=>rw [ho] at h; cases h
    | some o=>rw [ho] at h; simp only [hext id o ho]; exact h
  · cases h
theorem lookupv_ext (hext:Ext2 σ σ') {t:TypeId} {m k v:AV} {ok:Bool} (h:lookupv P t σ m k ok=some v):lookupv P t σ' m k ok=some v:=by
  unfold lookupv at h ⊢
  split at h
  · rename_i kt e hu
    split at h
    · rename_i kd es h1 h2
      simp only [h1,entriesOf_ext hext h2]
      exact h
    · cases h
  · cases h
theorem lenv_ext (hext:Ext2 σ σ') {t:TypeId} {x v:AV} (h:lenv P t σ x=some v):lenv P t σ' x=some v:=by
  unfold lenv at h ⊢
  split at h <;> first
    | exact h
    | cases h
    | (rename_i id hu
       cases ho:σ[id]? with
       | none=>rw [ho] at h; cases h
       | some o=>rw [ho] at h; simp only [hext id o ho]; exact h)
theorem bsl_ext {t:TypeId} {len:Nat} {vs:List (Nat × AV)} {v:AV} {s:List Ob} (h:bsl P t len σ true ro vs=some (v,s)):bsl P t len σ' true ro vs=some (v,σ'):=by
  unfold bsl byValue at h ⊢
  by_cases ho:AV.ownsAll (vs.map (·.2))=[]
  · rw [if_pos ho] at h ⊢
    exact keep_ext h
  · rw [if_neg ho] at h
    cases h
theorem slc_ext {t:TypeId} {x:AV} {lo hi mx:Option AV} {v:AV} {s:List Ob} (h:slc P t σ true ro x lo hi mx=some (v,s)):slc P t σ' true ro x lo hi mx=some (v,σ'):=by
  unfold slc byValue1 at h ⊢
  simp only [if_true] at h ⊢
  by_cases ho:AV.owns x=[]
  · rw [if_pos ho] at h ⊢
    exact keep_ext h
  · rw [if_neg ho] at h
    cases h
theorem callv_ext {f:FuncId} {vs:List AV} {v:AV} {s:List Ob} (h:callv X (call0 call) true f vs σ ro=some (v,s)):callv X call true f vs σ' ro=some (v,σ'):=by
  unfold callv at h ⊢
  cases hp:X.pureFn f with
  | some g =>
    rw [hp] at h
    simp only [if_true] at h ⊢
    by_cases hl:AV.ltAll 0 vs=true
    · simp only [hl, if_true] at h ⊢
      cases hg:g vs with
      | none=>rw [hg] at h; cases h
      | some r=>rw [hg] at h; simp only [Option.some.injEq,Prod.mk.injEq] at h ⊢; exact ⟨h.1,trivial⟩
    · simp only [hl, if_false, Bool.false_eq_true] at h
      cases h
  | none =>
    rw [hp] at h
    simp only at h ⊢
    cases hs:X.stFn f with
    | some g=>rw [hs] at h; simp only [if_true] at h; cases h
    | none =>
      rw [hs] at h
      simp only at h ⊢
      by_cases hl:AV.ltAll 0 vs=true
      · simp only [hl, if_true, call0] at h ⊢
        cases hc:call f vs [] 0 with
        | none=>rw [hc] at h; cases h
        | some r =>
          rw [hc] at h
          simp only at h ⊢
          by_cases hpr:r.1.pure=true
          · simp only [hpr, if_true, Bool.not_true, Bool.false_and, Bool.false_eq_true, if_false, Option.some.injEq, Prod.mk.injEq] at h ⊢
            exact ⟨h.1,trivial⟩
          · simp only [hpr, if_false, Bool.false_eq_true] at h
            cases h
      · simp only [hl, if_false, Bool.false_eq_true, if_true, call0] at h
        cases h
theorem evOp_ext (hext:Ext2 σ σ') {T:List AV} {o:Oper} {v:AV} {s:List Ob} (h:evOp P X (call0 call) true ro ⟨T,σ⟩ o=some (v,s)):evOp P X call true ro ⟨T,σ'⟩ o=some (v,σ'):=by
  unfold evOp at h ⊢
  have e1:ev ⟨T,σ⟩=ev ⟨T,σ'⟩:=funext fun x=>ev_ext (T:=T) (σ:=σ) (σ' := σ') x
  have e2:evs ⟨T,σ⟩=evs ⟨T,σ'⟩:=funext fun x=>evs_ext (T:=T) (σ:=σ) (σ' := σ') x
  have e3:evParts ⟨T,σ⟩=evParts ⟨T,σ'⟩:=funext fun x=>evParts_ext (T:=T) (σ:=σ) (σ' := σ') x
  have e4:optEv ⟨T,σ⟩=optEv ⟨T,σ'⟩:=funext fun x=>optEv_ext (T:=T) (σ:=σ) (σ' := σ') x
  rw [e1,e2,e3,e4] at h
  clear e1 e2 e3 e4
  cases hop:o.op <;> rw [hop] at h <;> simp only at h ⊢
  case move=>exact keep_ext h
  case assign=>exact keep_ext h
  case pick =>
    split at h
    · rename_i h1 h2 h3
      simp only [Option.some.injEq,Prod.mk.injEq] at h ⊢
      exact ⟨h.1,trivial⟩
    · cases h
  case binOp =>
    split at h
    · rename_i h1 h2
      exact keep_ext h
    · cases h
  case unOp =>
    split at h
    · rename_i h1
      exact keep_ext h
    · cases h
  case convert =>
    split at h
    · rename_i h1
      exact keep_ext h
    · cases h
  case alloc=>simp at h
  case box=>simp at h
  case build =>
    split at h
    · rename_i h1
      exact keep_ext h
    · cases h
  case buildSlice =>
    split at h
    · rename_i h1
      exact bsl_ext h
    · cases h
  case load =>
    split at h
    · rename_i h1
      exact keep_mono (fun x hx=>loadv_ext hext hx) h
    · cases h
  case store=>simp at h
  case nilCheck =>
    split at h
    · rename_i h1
      split at h <;> first | (simp only [Option.some.injEq,Prod.mk.injEq] at h ⊢; exact ⟨h.1,trivial⟩) | cases h
    · cases h
  case makeFunc =>
    split at h
    · rename_i h1 h2 h3
      simp only [Option.some.injEq,Prod.mk.injEq] at h ⊢
      exact ⟨h.1,trivial⟩
    · cases h
  case makeMap=>split at h <;> simp at h
  case makeSlice=>simp at h
  case slice =>
    split at h
    · rename_i h1 h2 h3 h4
      exact slc_ext h
    · cases h
  case fieldAddr =>
    split at h
    · rename_i h1
      exact keep_ext h
    · cases h
  case field =>
    split at h
    · rename_i h1
      exact keep_ext h
    · cases h
  case indexAddr =>
    split at h
    · rename_i h1 h2
      exact keep_mono (fun x hx=>indexAddrv_ext hext hx) h
    · cases h
  case index =>
    split at h
    · rename_i h1 h2
      exact keep_ext h
    · cases h
  case lookup =>
    split at h
    · rename_i h1 h2
      exact keep_mono (fun x hx=>lookupv_ext hext hx) h
    · cases h
  case mapUpdate=>simp at h
  case extract =>
    split at h
    · rename_i h1
      exact keep_ext h
    · cases h
  case call c =>
    split at h
    · split at h
      · rename_i h1
        split at h
        · rename_i h2
          exact keep_mono (fun x hx=>lenv_ext hext hx) h
        · cases h
      · rename_i h1
        split at h
        · rename_i h2
          exact keep_ext h
        · cases h
      · simp at h
      · simp at h
      · rename_i h1
        exact keep_ext h
      · rename_i h1
        exact keep_ext h
      · cases h
    · split at h
      · rename_i h1 h2
        exact callv_ext h
      · cases h
    · cases h
  all_goals cases h
end
section
variable {X:Ext} {call:Caller} {ro:Nat} {Fs:List Nat} {ops:Array Oper} {σ0:List Ob}
theorem vopm_append:∀ {l1 l2:List Oper} {S S' : St},vopm P X call ro Fs ops σ0 (l1 ++ l2) S=some S' → ∃ S1,vopm P X call ro Fs ops σ0 l1 S=some S1∧vopm P X call ro Fs ops σ0 l2 S1=some S'
  | [],l2,S,S',h=>⟨S,rfl,h⟩
  | o :: l1, l2, S, S', h => by
    simp only [List.cons_append,vopm] at h ⊢
    split at h
    · split at h
      · split at h
        · split at h
          · exact vopm_append h
          · cases h
        · cases h
      · split at h
        · exact vopm_append h
        · cases h
    · exact vopm_append h
    · cases h
theorem vopm_join:∀ {l1 l2:List Oper} {S S1 S' : St},vopm P X call ro Fs ops σ0 l1 S=some S1→vopm P X call ro Fs ops σ0 l2 S1=some S' → vopm P X call ro Fs ops σ0 (l1 ++ l2) S=some S'
  | [],l2,S,S1,S',h,k=>by simp only [vopm,Option.some.injEq] at h; subst h; exact k
  | o :: l1, l2, S, S1, S', h, k => by
    simp only [List.cons_append,vopm] at h ⊢
    split at h
    · split at h
      · split at h
        · split at h
          · exact vopm_join h k
          · cases h
        · cases h
      · split at h
        · exact vopm_join h k
        · cases h
    · exact vopm_join h k
    · cases h
/-- One operation. -/
theorem vopm_one {o:Oper} {l:List Oper} {S S' : St} (h:vopm P X call ro Fs ops σ0 (o::l) S=some S'):∃ v σ,vopm P X call ro Fs ops σ0 l (putSlot S o.dst v σ)=some S' ∧ vopm P X call ro Fs ops σ0 [o] S=some (putSlot S o.dst v σ) ∧
    ((wantedv ops S o=some true∧isEff Fs o=true∧effOk Fs σ0.length S o=true∧evE P X call ro Fs S o=some (v,σ)) ∨ (wantedv ops S o=some true∧isEff Fs o=false∧σ=S.st∧∃ s,evOp P X (call0 call) true ro ⟨S.tmps,sees Fs ops σ0 o⟩ o=some (v,s)) ∨ (wantedv ops S o=some false∧v = .undef∧σ=S.st)):=by
  simp only [vopm] at h ⊢
  cases hw:wantedv ops S o with
  | none=>rw [hw] at h; cases h
  | some b =>
    rw [hw] at h
    cases b with
    | false=>exact ⟨_,_,h,rfl,.inr (.inr ⟨rfl,rfl,rfl⟩)⟩
    | true =>
      simp only at h ⊢
      cases he:isEff Fs o with
      | true =>
        rw [he] at h
        simp only at h ⊢
        cases hk:effOk Fs σ0.length S o with
        | false=>rw [hk] at h; cases h
        | true =>
          rw [hk] at h
          simp only at h ⊢
          cases hv:evE P X call ro Fs S o with
          | none=>rw [hv] at h; cases h
          | some r =>
            obtain ⟨v,σ⟩:=r
            rw [hv] at h
            exact ⟨v,σ,h,rfl,.inl ⟨trivial,trivial,trivial,rfl⟩⟩
      | false =>
        rw [he] at h
        simp only at h ⊢
        cases hv:evOp P X (call0 call) true ro ⟨S.tmps,sees Fs ops σ0 o⟩ o with
        | none=>rw [hv] at h; cases h
        | some r =>
          obtain ⟨v,s⟩:=r
          rw [hv] at h
          exact ⟨v,S.st,h,rfl,.inr (.inl ⟨trivial,trivial,rfl,s,rfl⟩)⟩
theorem vopm_keeps:∀ {l:List Oper} {S S' : St},vopm P X call ro Fs ops σ0 l S=some S' → S'.tmps.length=S.tmps.length∧∀ t,(∀ o ∈ l,o.dst ≠ some t)→nth S'.tmps t=nth S.tmps t
  | [],S,S',h=>by simp only [vopm,Option.some.injEq] at h; subst h; exact ⟨rfl,fun _ _=>rfl⟩
  | o :: l, S, S', h => by
    obtain ⟨v,σ,h1,_,_⟩:=vopm_one h
    obtain ⟨b,c⟩:=vopm_keeps h1
    obtain ⟨d,e⟩:=putSlot_tmps S o.dst v σ
    exact ⟨b.trans d,fun t ht=>by rw [c t fun o' ho' => ht o' (List.mem_cons_of_mem _ ho'),e t (ht o (List.mem_cons_self ..))]⟩
theorem getElem?_setOb:∀ {σ:List Ob} {id k:Nat} {o:Ob},k ≠ id→(setOb σ id o)[k]? = σ[k]?
  | [],_,_,_,_=>rfl
  | _::_,0,0,_,h=>absurd rfl h
  | _::_,0,k + 1,_,_=>rfl
  | _::_,id + 1,0,_,_=>rfl
  | x :: σ, id + 1, k + 1, o, h => by
    simp only [setOb,List.getElem?_cons_succ]
    exact getElem?_setOb (by omega)
theorem appendv_ext {t:TypeId} {σ σ' : List Ob} {s x v:AV} {n0:Nat} (hs:(∃ k n sz cs,s = .list k n sz cs) ∨ ∃ id n,s = .own id n∧n0 ≤ id) (hn:n0 ≤ σ.length) (h:appendv P t σ ro s x=some (v,σ')):∀ id,id < n0→σ'[id]? = σ[id]? := by
  intro id hid
  unfold appendv at h
  split at h
  · split at h
    · split at h
      · split at h
        · split at h
          · split at h
            · simp only [Option.some.injEq, Prod.mk.injEq] at h
              rw [← h.2]
            · simp only [Option.some.injEq, Prod.mk.injEq] at h
              rw [← h.2,List.getElem?_append_left (by omega)]
          · cases h
        · rename_i id' n'
          have hge : n0 ≤ id' := by
            rcases hs with ⟨_,_,_,_,e⟩ | ⟨_,_,e,hle⟩
            · cases e
            · simp only [AV.own.injEq] at e
              rw [e.1]
              exact hle
          split at h
          · split at h
            · split at h
              · simp only [Option.some.injEq, Prod.mk.injEq] at h
                rw [← h.2]
              · split at h
                · simp only [Option.some.injEq, Prod.mk.injEq] at h
                  rw [← h.2,getElem?_setOb (by omega)]
                · cases h
            · cases h
          · split at h
            · split at h
              · simp only [Option.some.injEq, Prod.mk.injEq] at h
                rw [← h.2]
              · simp only [Option.some.injEq, Prod.mk.injEq] at h
                rw [← h.2,getElem?_setOb (by omega)]
            · cases h
          · cases h
        · cases h
      · cases h
    · cases h
  · cases h
theorem appendZv_ext {t t' : TypeId} {σ σ' : List Ob} {s x v:AV} {n0:Nat} (hn:n0 ≤ σ.length) (h:appendZv P t t' σ s x=some (v,σ')):∀ id,id < n0→σ'[id]? = σ[id]? := by
  intro id hid
  unfold appendZv at h
  split at h
  · split at h
    · split at h
      · split at h
        · split at h
          · simp only [Option.some.injEq, Prod.mk.injEq] at h
            rw [← h.2]
          · simp only [Option.some.injEq, Prod.mk.injEq] at h
            rw [← h.2,List.getElem?_append_left (by omega)]
        · cases h
      · cases h
    · cases h
  · cases h
theorem adopt1_ext {σ:List Ob} {v:AV} {n0:Nat} (hn:n0 ≤ σ.length):∀ id,id < n0→(adopt1 σ v).2[id]? = σ[id]? := by
  intro id hid
  unfold adopt1
  split
  · simp only
    rw [List.getElem?_append_left (by omega)]
  · rfl
theorem adoptv_ext {σ:List Ob} {v:AV} {n0:Nat} (hn:n0 ≤ σ.length):∀ id,id < n0→(adoptv σ v).2[id]? = σ[id]? := by
  intro id hid
  unfold adoptv
  split
  · exact adopt1_ext hn id hid
  · exact adopt1_ext hn id hid
theorem evE_evOp {S:St} {o:Oper} {r:AV × List Ob} (h:evE P X call ro Fs S o=some r):evOp P (bareX X) call false ro S o=some r:=by
  unfold evE at h
  split at h
  · exact h
  cases hc:calleeF o with
  | none=>rw [hc] at h; exact h
  | some fx =>
    obtain ⟨f,xs⟩:=fx
    rw [hc] at h
    simp only at h
    unfold calleeF at hc
    split at hc
    · rename_i c hop
      split at hc
      · rename_i g hg
        simp only [Option.some.injEq,Prod.mk.injEq] at hc
        obtain ⟨rfl,rfl⟩:=hc
        unfold evOp
        rw [hop]
        simp only [hg,ev]
        cases hv:evs S c.args.toList with
        | none=>rw [hv] at h; cases h
        | some vs =>
          rw [hv] at h
          simp only [List.append_nil] at h ⊢
          unfold callE at h
          split at h
          · rename_i hl
            unfold callv
            simp only [bareX,hl,if_true,Bool.not_false,Bool.true_and]
            cases hcc:call g vs [] 0 with
            | none=>rw [hcc] at h; cases h
            | some p =>
              obtain ⟨q,s0⟩:=p
              rw [hcc] at h
              simp only at h ⊢
              by_cases hp:q.pure=true
              · rw [if_pos hp] at h ⊢
                exact h
              · rw [if_neg hp] at h
                cases h
          · cases h
      · cases hc
    · cases hc
theorem eff_ext {S:St} {o:Oper} {v:AV} {σ' : List Ob} {n0:Nat} (htm:memL 1000000 Fs=false) (hn:n0 ≤ S.st.length) (he:isEff Fs o=true) (hk:effOk Fs n0 S o=true) (h:evE P X call ro Fs S o=some (v,σ')):∀ id,id < n0→σ'[id]? = S.st[id]? := by
  intro id hid
  have hE:=h
  unfold evE at hE
  rw [htm,Bool.and_false] at hE
  simp only at hE
  have h:=evE_evOp h
  unfold isEff at he
  unfold effOk at hk
  rw [htm] at hk
  simp only [Bool.false_eq_true,if_false] at hk
  unfold evOp at h
  split at he
  · rw [htm] at he; cases he
  · rename_i c hop
    rw [hop] at h hk
    simp only at h hk he
    split at he
    · rename_i hb
      rw [hb] at h hk
      simp only at h hk
      split at hk
      · rename_i k n sz cs x ha
        rw [ha] at h
        simp only [Bool.false_eq_true,if_false] at h
        split at h
        · exact appendv_ext (.inl ⟨_,_,_,_,rfl⟩) hn h id hid
        · split at h
          · split at h
            · exact appendv_ext (.inl ⟨_,_,_,_,rfl⟩) hn h id hid
            · exact appendZv_ext hn h id hid
          · cases h
      · rename_i i n x ha
        rw [ha] at h
        simp only [Bool.false_eq_true,if_false] at h
        split at h
        · exact appendv_ext (.inr ⟨_,_,rfl,Nat.le_of_ble_eq_true hk⟩) hn h id hid
        · split at h
          · split at h
            · exact appendv_ext (.inr ⟨_,_,rfl,Nat.le_of_ble_eq_true hk⟩) hn h id hid
            · exact appendZv_ext hn h id hid
          · cases h
      · cases hk
    · rename_i f hb
      have hcf:calleeF o=some (f,c.args):=by unfold calleeF; rw [hop]; simp only [hb]
      rw [hcf] at hE
      simp only at hE
      split at hE
      · unfold callE at hE
        split at hE
        · split at hE
          · rename_i r _ _
            split at hE
            · simp only [Option.some.injEq] at hE
              cases hA:X.adopt f with
              | true =>
                simp only [hA,if_true] at hE
                have hσ:σ' = (adoptv S.st r).2:=by rw [hE]
                rw [hσ]
                exact adoptv_ext hn id hid
              | false =>
                simp only [hA,Bool.false_eq_true,if_false,Prod.mk.injEq] at hE
                rw [← hE.2]
            · cases hE
          · cases hE
        · cases hE
      · cases hE
    · cases he
  · rename_i t x hop
    rw [hop] at h
    simp only [Bool.false_eq_true,if_false] at h
    split at h
    · split at h
      · simp only [Option.some.injEq, Prod.mk.injEq] at h
        rw [← h.2,List.getElem?_append_left (by omega)]
      · cases h
    · cases h
  · rename_i t hop
    rw [hop] at h
    simp only [Bool.false_eq_true,if_false] at h
    split at h
    · split at h
      · cases h
      · simp only [Option.some.injEq, Prod.mk.injEq] at h
        rw [← h.2,List.getElem?_append_left (by omega)]
    · cases h
  · rename_i t a x hop
    rw [hop] at h hk
    simp only [Bool.false_eq_true,if_false] at h hk
    split at hk
    · rename_i id' off ha
      rw [ha] at h
      have hge:n0 ≤ id' := Nat.le_of_ble_eq_true hk
      split at h
      · rename_i av vv h1 h2
        cases h1
        split at h
        · rename_i σ1 hst
          simp only [Option.some.injEq,Prod.mk.injEq] at h
          rw [← h.2]
          unfold storev at hst
          split at hst
          · simp only at hst
            split at hst
            · split at hst
              · simp only [Option.some.injEq] at hst
                rw [← hst,getElem?_setOb (by omega)]
              · cases hst
            · cases hst
          · cases hst
        · cases h
      · cases h
    · cases hk
  · cases he
theorem ext2_len {σ σ' : List Ob} (h:Ext2 σ σ'):σ.length ≤ σ'.length:=by
  by_cases h0:σ.length=0
  · omega
  · have hl : σ.length - 1 < σ.length := by omega
    have:=(List.getElem?_eq_some_iff.1 (h _ _ (List.getElem?_eq_getElem hl))).1
    omega
theorem vopm_ext (htm:memL 1000000 Fs=false):∀ {l:List Oper} {S S' : St},vopm P X call ro Fs ops σ0 l S=some S' → Ext2 σ0 S.st→Ext2 σ0 S'.st
  | [],S,S',h,hx=>by simp only [vopm,Option.some.injEq] at h; subst h; exact hx
  | o :: l, S, S', h, hx => by
    obtain ⟨v,σ,h1,_,h3⟩:=vopm_one h
    refine vopm_ext htm h1 ?_
    rw [putSlot_st]
    rcases h3 with ⟨_,he,hk,hv⟩ | ⟨_,_,rfl,_⟩ | ⟨_,_,rfl⟩
    · intro id ob hob
      have hid:=(List.getElem?_eq_some_iff.1 hob).1
      rw [eff_ext htm (ext2_len hx) he hk hv id hid]
      exact hx id ob hob
    · exact hx
    · exact hx
theorem effEdges_spec:∀ (L:List Oper) (k:Nat) (p:Option Nat),effEdges Fs (L.zipIdx k) p=true→∀ (j:Nat) (o:Oper),L[j]? = some o→isEff Fs o=true →
    (∀ (i:Nat) (o' : Oper),i < j→L[i]? = some o' → isEff Fs o' = true→(∀ (i' : Nat) (o'' : Oper),i < i' → i' < j→L[i']? = some o'' → isEff Fs o'' = false)→edgeTo o (k + i)=true) ∧
    (∀ q,p=some q→(∀ (i' : Nat) (o'' : Oper),i' < j→L[i']? = some o'' → isEff Fs o'' = false)→edgeTo o q=true)
  | [],_,_,_,j,o,h,_=>by simp at h
  | x :: L, k, p, h, j, o, hj, he => by
    rw [List.zipIdx_cons] at h
    simp only [effEdges] at h
    cases j with
    | zero =>
      simp only [List.getElem?_cons_zero,Option.some.injEq] at hj
      subst hj
      rw [if_pos he,Bool.and_eq_true] at h
      refine ⟨fun i _ hi=>absurd hi (by omega),fun q hq _ => ?_⟩
      subst hq
      exact h.1
    | succ j =>
      have hj' : L[j]? = some o:=by simpa using hj
      by_cases hx:isEff Fs x=true
      · rw [if_pos hx, Bool.and_eq_true] at h
        obtain ⟨a,b⟩:=effEdges_spec L (k + 1) (some k) h.2 j o hj' he
        refine ⟨fun i o' hi hio hie hbet => ?_,fun q _ hbet => ?_⟩
        · cases i with
          | zero=>exact b k rfl fun i' o'' hi' hio'' => hbet (i' + 1) o'' (by omega) (by omega) (by simpa using hio'')
          | succ i =>
            have:=a i o' (by omega) (by simpa using hio) hie fun i' o'' h1 h2 h3=>hbet (i' + 1) o'' (by omega) (by omega) (by simpa using h3)
            rw [show k + (i + 1)=k + 1 + i by omega]
            exact this
        · have := hbet 0 x (by omega) rfl
          rw [hx] at this
          cases this
      · rw [if_neg hx] at h
        obtain ⟨a,b⟩:=effEdges_spec L (k + 1) p h j o hj' he
        refine ⟨fun i o' hi hio hie hbet => ?_,fun q hq hbet => ?_⟩
        · cases i with
          | zero =>
            simp only [List.getElem?_cons_zero,Option.some.injEq] at hio
            subst hio
            exact absurd hie hx
          | succ i =>
            have:=a i o' (by omega) (by simpa using hio) hie fun i' o'' h1 h2 h3=>hbet (i' + 1) o'' (by omega) (by omega) (by simpa using h3)
            rw [show k + (i + 1)=k + 1 + i by omega]
            exact this
        · exact b q hq fun i' o'' hi' hio'' => hbet (i' + 1) o'' (by omega) (by simpa using hio'')
end
end Go.Vm
end
/- Regions whose order is drawn, in which rows grow: sound. -/
section
namespace Go.Vm
open Go.RowKit (Below)
variable [Fixed]
variable {P:Program} {C:Ctx} {w:World}
section
variable {X:Ext} {call:Caller} {ro:Nat} {Fs:List Nat} {ops:Array Oper} {S0 Sn:St} {ds:List Deferred}
theorem bareX_ok (h:ExtOk P X):ExtOk P (bareX X):=by
  refine ⟨h.mixed,h.dom,?_,?_⟩
  · intro f g hg; simp [bareX] at hg
  · intro f g hg; simp [bareX] at hg

/-- The store when the first j operations have run. -/
def stAt (P:Program) (X:Ext) (call:Caller) (ro:Nat) (Fs:List Nat) (ops:Array Oper) (S0:St) (j:Nat):List Ob:=match vopm P X call ro Fs ops S0.st (ops.toList.take j) S0 with
  | some S=>S.st
  | none=>S0.st
theorem stAt_of {j:Nat} {S:St} (h:vopm P X call ro Fs ops S0.st (ops.toList.take j) S0=some S):stAt P X call ro Fs ops S0 j=S.st:=by
  unfold stAt
  rw [h]
/-- Before and behind operation j of the text's order. -/
theorem mix_prefix (hrun:vopm P X call ro Fs ops S0.st ops.toList S0=some Sn) (hok:drOk ops=true) {j:Nat} {o:Oper} (hj:ops[j]? = some o) :
    ∃ Sj v σ rest, vopm P X call ro Fs ops S0.st (ops.toList.take j) S0 = some Sj ∧ Sj.tmps = mix ops S0.tmps Sn.tmps (fun i => Nat.blt i j) ∧ vopm P X call ro Fs ops S0.st rest (putSlot Sj o.dst v σ) = some Sn ∧ (∀ t, o.dst = some t → ∀ o' ∈ rest, o'.dst ≠ some t) ∧
      vopm P X call ro Fs ops S0.st (ops.toList.take (j + 1)) S0=some (putSlot Sj o.dst v σ) ∧
      ((wantedv ops Sj o=some true∧isEff Fs o=true∧effOk Fs S0.st.length Sj o=true∧evE P X call ro Fs Sj o=some (v,σ)) ∨ (wantedv ops Sj o=some true∧isEff Fs o=false∧σ=Sj.st∧∃ s,evOp P X (call0 call) true ro ⟨Sj.tmps,sees Fs ops S0.st o⟩ o=some (v,s)) ∨ (wantedv ops Sj o=some false∧v = .undef∧σ=Sj.st)):=by
  have hlt:j < ops.size:=(Array.getElem?_eq_some_iff.1 hj).1
  have hj' : ops.toList[j]? = some o:=by simpa using hj
  have hsplit:ops.toList=ops.toList.take j ++ ops.toList.drop j:=(List.take_append_drop ..).symm
  have hdrop : ops.toList.drop j = o :: ops.toList.drop (j + 1) := by
    rw [List.drop_eq_getElem_cons (by simpa using hlt)]
    congr 1
    rw [List.getElem?_eq_getElem (by simpa using hlt)] at hj'
    simpa using hj'
  have htake : ops.toList.take (j + 1) = ops.toList.take j ++ [o] := by
    rw [List.take_add_one,hj']
    rfl
  have hrun' := hrun
  rw [hsplit] at hrun
  obtain ⟨Sj,h1,h2⟩:=vopm_append hrun
  obtain ⟨a2,a3⟩:=vopm_keeps h1
  obtain ⟨b2,b3⟩:=vopm_keeps h2
  have hlen:Sn.tmps.length=S0.tmps.length:=b2.trans a2
  have later:∀ {i k:Nat} {x y:Oper} {t:Nat},ops[i]? = some x→ops[k]? = some y→i ≠ k→x.dst=some t→y.dst ≠ some t:=fun hi hk hne ht=>((drOk_spec hok hk).2 _ _ hi hne _ ht).1
  rw [hdrop] at h2
  obtain ⟨v,σ,k1,k2,k3⟩:=vopm_one h2
  refine ⟨Sj,v,σ,ops.toList.drop (j + 1),h1,?_,k1,?_,?_,k3⟩
  · apply nth_ext (by rw [a2, mix_length])
    intro t
    rw [nth_mix hlen]
    unfold mixAt
    split
    · rename_i hany
      obtain ⟨i,x,hi,hij,hx⟩:=any_iff.1 hany
      have hij:i < j:=by simpa using hij
      rw [b3 t]
      intro y hy
      obtain ⟨k,hk⟩:=List.mem_iff_getElem?.1 hy
      rw [List.getElem?_drop] at hk
      exact later hi (by simpa using hk) (by omega) hx
    · rename_i hany
      apply a3 t
      intro y hy hyt
      obtain ⟨k,hk⟩:=List.mem_iff_getElem?.1 hy
      rw [List.getElem?_take] at hk
      split at hk
      · exact hany (any_iff.2 ⟨k,y,by simpa using hk,by simpa,hyt⟩)
      · cases hk
  · intro t ht y hy
    obtain ⟨k,hk⟩:=List.mem_iff_getElem?.1 hy
    rw [List.getElem?_drop] at hk
    exact later hj (by simpa using hk) (by omega) ht
  · rw [htake]
    exact vopm_join h1 k2
theorem mix_len (hrun:vopm P X call ro Fs ops S0.st ops.toList S0=some Sn):Sn.tmps.length=S0.tmps.length:=(vopm_keeps hrun).1
theorem mixm_all (hrun:vopm P X call ro Fs ops S0.st ops.toList S0=some Sn) {L:Nat→Bool} (hL:∀ i,i < ops.size→L i=true):mix ops S0.tmps Sn.tmps L=Sn.tmps:=by
  obtain ⟨hlen,hk⟩:=vopm_keeps hrun
  apply nth_ext (mix_length.trans hlen.symm)
  intro t
  rw [nth_mix hlen]
  unfold mixAt
  split
  · rfl
  · rename_i hany
    refine (hk t fun o ho hot => ?_).symm
    obtain ⟨i,hi⟩:=List.mem_iff_getElem?.1 ho
    have hi' : ops[i]? = some o:=by simpa using hi
    exact hany (any_iff.2 ⟨i,o,hi',hL i (Array.getElem?_eq_some_iff.1 hi').1,hot⟩)
theorem mixm_none (hrun:vopm P X call ro Fs ops S0.st ops.toList S0=some Sn) {L:Nat→Bool} (hL:∀ i,i < ops.size→L i=false):mix ops S0.tmps Sn.tmps L=S0.tmps:=by
  obtain ⟨hlen,_⟩:=vopm_keeps hrun
  apply nth_ext mix_length
  intro t
  rw [nth_mix hlen]
  unfold mixAt
  split
  · rename_i hany
    obtain ⟨i,o,hi,hLi,_⟩:=any_iff.1 hany
    rw [hL i (Array.getElem?_eq_some_iff.1 hi).1] at hLi
    cases hLi
  · rfl
/-- What an operation that is ready looks at is, in any order, as in the text's. -/
theorem mix_look (hrun:vopm P X call ro Fs ops S0.st ops.toList S0=some Sn) (hok:drOk ops=true) {j:Nat} {o:Oper} (hj:ops[j]? = some o) {L:Nat→Bool} (hL:L j=false)
    (hcl:∀ i x,ops[i]? = some x→L i=true→∀ e ∈ x.after.toList,Region.binds .any e=true→L e.on=true)
    (hready:∀ e ∈ o.after.toList,Region.binds .any e=true→L e.on=true) (t:Nat) (ht:t ∈ o.looksAt ops):nth (mix ops S0.tmps Sn.tmps L) t=nth (mix ops S0.tmps Sn.tmps (fun i=>Nat.blt i j)) t:=by
  have hlen:=mix_len hrun
  rw [nth_mix hlen,nth_mix hlen]
  unfold mixAt
  have : (List.range ops.size).any (fun i => L i && ((ops[i]?).bind (·.dst) == some t)) = (List.range ops.size).any (fun i => Nat.blt i j && ((ops[i]?).bind (·.dst) == some t)) := by
    rw [Bool.eq_iff_iff,any_iff,any_iff]
    constructor
    · rintro ⟨i, x, hi, hLi, hx⟩
      refine ⟨i,x,hi,?_,hx⟩
      by_cases hij:i=j
      · subst hij; rw [hL] at hLi; cases hLi
      · by_cases hlt : i < j
        · simpa using hlt
        · have he := (((drOk_spec hok hj).2 i x hi hij t hx).2 ht).2 (by omega)
          obtain ⟨e,he1,he2⟩:=List.any_eq_true.1 he
          simp only [Bool.and_eq_true,beq_iff_eq] at he2
          have:=hcl i x hi hLi e he1 he2.1
          rw [he2.2,hL] at this
          cases this
    · rintro ⟨i, x, hi, hij, hx⟩
      have hij:i < j:=by simpa using hij
      refine ⟨i,x,hi,?_,hx⟩
      have he:=(((drOk_spec hok hj).2 i x hi (by omega) t hx).2 ht).1 hij
      obtain ⟨e,he1,he2⟩:=List.any_eq_true.1 he
      simp only [Bool.and_eq_true,beq_iff_eq] at he2
      have:=hready e he1 he2.1
      rwa [he2.2] at this
  rw [this]
/-- The temporaries behind it. -/
theorem mix_after (hrun:vopm P X call ro Fs ops S0.st ops.toList S0=some Sn) (hok:drOk ops=true) {j:Nat} {o:Oper} (hj:ops[j]? = some o) {L:Nat→Bool} {Sj:St} (htm:Sj.tmps=mix ops S0.tmps Sn.tmps (fun i=>Nat.blt i j)) {rest:List Oper} {v:AV} {σ τ σx:List Ob}
    (hr:vopm P X call ro Fs ops S0.st rest (putSlot Sj o.dst v σ)=some Sn) (hrest:∀ t,o.dst=some t→∀ o' ∈ rest,o'.dst ≠ some t):(putSlot ⟨mix ops S0.tmps Sn.tmps L,τ⟩ o.dst v σx).tmps=mix ops S0.tmps Sn.tmps (fun i=>i == j || L i):=by
  have hlen:=mix_len hrun
  apply nth_ext (by rw [(putSlot_tmps ..).1]; exact mix_length.trans mix_length.symm)
  intro t
  rw [nth_mix hlen]
  by_cases ht:o.dst=some t
  · have hany : (List.range ops.size).any (fun i => (i == j || L i) && ((ops[i]?).bind (·.dst) == some t)) = true := any_iff.2 ⟨j, o, hj, by simp, ht⟩
    unfold mixAt
    rw [if_pos hany,(vopm_keeps hr).2 t (hrest t ht),ht]
    simp only [putSlot,nth_setN]
    have e:Sj.tmps.length=(mix ops S0.tmps Sn.tmps L).length:=by rw [htm,mix_length]; exact mix_length.symm
    rw [e]
    split
    · rfl
    · rename_i hn
      have hge : (mix ops S0.tmps Sn.tmps L).length ≤ t := by
        rcases Nat.lt_or_ge t (mix ops S0.tmps Sn.tmps L).length with h | h
        · exact absurd (by simpa using h) hn
        · exact h
      rw [nth_none hge,nth_none (by rw [e]; exact hge)]
  · rw [(putSlot_tmps ..).2 t ht]
    show nth (mix ops S0.tmps Sn.tmps L) t=_
    rw [nth_mix hlen]
    unfold mixAt
    have : (List.range ops.size).any (fun i => L i && ((ops[i]?).bind (·.dst) == some t)) = (List.range ops.size).any (fun i => (i == j || L i) && ((ops[i]?).bind (·.dst) == some t)) := by
      rw [Bool.eq_iff_iff,any_iff,any_iff]
      constructor
      · rintro ⟨i, x, hi, hLi, hx⟩
        exact ⟨i,x,hi,by simp [hLi],hx⟩
      · rintro ⟨i, x, hi, hLi, hx⟩
        refine ⟨i,x,hi,?_,hx⟩
        by_cases hij:i=j
        · subst hij
          rw [hj] at hi
          cases hi
          exact absurd hx ht
        · simpa [hij] using hLi
    rw [this]
theorem wanted_same {S S' : St} {o:Oper} (h:∀ t,t ∈ o.looksAt ops→nth S.tmps t=nth S'.tmps t):wantedv ops S o=wantedv ops S' o:=by
  unfold wantedv
  cases hg:o.guard with
  | none=>rfl
  | some g =>
    obtain ⟨k,want⟩:=g
    simp only
    cases hd:(ops[k]?).bind (·.dst) with
    | none=>rfl
    | some t =>
      simp only
      rw [h t (by simp [Oper.looksAt,hg,hd])]
theorem evOp_same {call:Caller} {dr:Bool} {S S' : St} {o:Oper} (hst:S.st=S'.st) (h:∀ t,t ∈ o.looksAt ops→nth S.tmps t=nth S'.tmps t):evOp P X call dr ro S o=evOp P X call dr ro S' o:=by
  refine evOp_congr hst fun x hx => ?_
  cases x with
  | tmp t =>
    simp only [ev]
    rw [h t (by simp only [Oper.looksAt,List.mem_append,List.mem_filterMap]; exact .inl ⟨_,hx,rfl⟩)]
  | const _=>rfl
  | func _=>rfl
  | global _=>rfl
/-- Where no memory is made the store stays. -/
theorem stAt_const (hrun:vopm P X call ro Fs ops S0.st ops.toList S0=some Sn) (hok:drOk ops=true) {m:Nat}:∀ (d:Nat),m + d ≤ ops.size→(∀ i o,m ≤ i→i < m + d→ops[i]? = some o→isEff Fs o=false)→stAt P X call ro Fs ops S0 (m + d)=stAt P X call ro Fs ops S0 m
  | 0,_,_=>rfl
  | d + 1, hle, hne => by
    have ih:=stAt_const hrun hok d (by omega) fun i o h1 h2=>hne i o h1 (by omega)
    have hlt:m + d < ops.size:=by omega
    have ho:ops[m + d]? = some ops[m + d]:=Array.getElem?_eq_getElem hlt
    obtain ⟨Sj,v,σ,rest,h1,_,_,_,h5,h6⟩:=mix_prefix hrun hok ho
    rw [← ih,stAt_of h1,show m + (d + 1)=m + d + 1 by omega,stAt_of h5,putSlot_st]
    rcases h6 with ⟨_,he,_⟩ | ⟨_,_,e,_⟩ | ⟨_,_,e⟩
    · rw [hne (m + d) _ (by omega) (by omega) ho] at he
      cases he
    · exact e
    · exact e
theorem memN_mem {t:Nat}:∀ {l:List Nat},memN t l=true→t ∈ l
  | [],h=>by simp [memN] at h
  | x :: l, h => by
    unfold memN at h
    by_cases e:Nat.beq t x=true
    · rw [Nat.eq_of_beq_eq_true e]; exact List.mem_cons_self ..
    · rw [if_neg e] at h
      exact List.mem_cons_of_mem _ (memN_mem h)
theorem edges_iff {j:Nat} {o:Oper} (ho:ops[j]? = some o) {i:Nat}:i ∈ edgesOf ops j ↔ ∃ e ∈ o.after.toList,Region.binds .any e=true∧e.on=i:=by
  unfold edgesOf
  rw [ho]
  simp only [List.mem_filterMap]
  constructor
  · rintro ⟨e, he, h⟩
    split at h
    · rename_i hb
      simp only [Option.some.injEq] at h
      exact ⟨e,he,hb,h⟩
    · cases h
  · rintro ⟨e, he, hb, rfl⟩
    exact ⟨e,he,by rw [if_pos hb]⟩
theorem waits_spec {L:Nat→Bool} (hcl:∀ i x,ops[i]? = some x→L i=true→∀ e ∈ x.after.toList,Region.binds .any e=true→L e.on=true) {j:Nat} :
    ∀ (i:Nat) (ms:List Nat),waits ops j i ms=true→(∀ t ∈ ms,L t=true)→L j=true
  | 0,_,h,_=>by simp [waits] at h
  | i + 1, ms, h, hm => by
    simp only [waits] at h
    split at h
    · rename_i hi
      have hLi:=hm i (memN_mem hi)
      rw [Bool.or_eq_true,beq_iff_eq] at h
      rcases h with h | h
      · rw [← h]; exact hLi
      · refine waits_spec hcl i _ h fun k hk => ?_
        rcases List.mem_append.1 hk with hk | hk
        · cases ho : ops[i]? with
          | none=>simp [edgesOf,ho] at hk
          | some o =>
            obtain ⟨e,he,hb,rfl⟩:=(edges_iff ho).1 hk
            exact hcl i o ho hLi e he hb
        · exact hm k hk
    · exact waits_spec hcl i _ h hm
/-- What has run of the operations that make memory: those before m. -/
def Cut (Fs:List Nat) (ops:Array Oper) (L:Nat→Bool) (m:Nat):Prop:=m ≤ ops.size∧∀ i o,ops[i]? = some o→isEff Fs o=true→(L i=true ↔ i < m)
theorem dstAt_eq (hok:drOk ops=true) {j:Nat} {o:Oper} (hj:ops[j]? = some o) (hd:o.dst.isSome=true):dstAt ops o.dst=j:=by
  have hlt:=(Array.getElem?_eq_some_iff.1 hj).1
  obtain ⟨t,ht⟩:=Option.isSome_iff_exists.1 hd
  unfold dstAt
  cases hf:ops.toList.findIdx? fun x=>x.dst == o.dst with
  | none =>
    rw [List.findIdx?_eq_none_iff] at hf
    have:=hf o (List.mem_iff_getElem?.2 ⟨j,by simpa using hj⟩)
    simp at this
  | some i =>
    obtain ⟨h1,h2,_⟩:=List.findIdx?_eq_some_iff_getElem.1 hf
    have hi:ops[i]? = some ops.toList[i]:=by rw [Array.getElem?_eq_getElem (by simpa using h1)]; simp
    simp only [Option.getD_some]
    by_cases e:i=j
    · exact e
    · have := ((drOk_spec hok hj).2 i _ hi e t (by rw [ht] at h2; simpa using h2)).1
      exact absurd ht this
theorem early_start (hok:drOk ops=true) (hrun:vopm P X call ro Fs ops S0.st ops.toList S0=some Sn) (hch:effEdges Fs ops.toList.zipIdx none=true) {j:Nat} {o:Oper} (ho:ops[j]? = some o) (hd:o.dst.isSome=true) (hea:early Fs ops (dstAt ops o.dst)=true) {L:Nat→Bool} (hL:L j=false)
    (hcl:∀ i x,ops[i]? = some x→L i=true→∀ e ∈ x.after.toList,Region.binds .any e=true→L e.on=true) {m:Nat} (hcut:Cut Fs ops L m):stAt P X call ro Fs ops S0 m=S0.st:=by
  rw [dstAt_eq hok ho hd] at hea
  have h0 : stAt P X call ro Fs ops S0 0 = S0.st := by
    unfold stAt
    simp only [List.take_zero,vopm]
  rw [← h0]
  have hall : ∀ i x, i < m → ops[i]? = some x → isEff Fs x = false := by
    intro i x hi hx
    cases he:isEff Fs x with
    | false=>rfl
    | true =>
      exfalso
      have hfind : ∃ e, ops.toList.findIdx? (isEff Fs) = some e := by
        cases hf:ops.toList.findIdx? (isEff Fs) with
        | some e=>exact ⟨e,rfl⟩
        | none =>
          have:=List.findIdx?_eq_none_iff.1 hf x (List.mem_iff_getElem?.2 ⟨i,by simpa using hx⟩)
          rw [he] at this; cases this
      obtain ⟨i0,hf⟩:=hfind
      unfold early at hea
      rw [hf] at hea
      simp only at hea
      obtain ⟨h1,h2,h3⟩:=List.findIdx?_eq_some_iff_getElem.1 hf
      have he0:ops[i0]? = some ops.toList[i0]:=by rw [Array.getElem?_eq_getElem (by simpa using h1)]; simp
      have hi0 : i0 ≤ i := by
        rcases Nat.lt_or_ge i i0 with h | h
        · have := h3 i h
          have hx' : ops.toList[i] = x := by
            have:=(Array.getElem?_eq_some_iff.1 hx)
            obtain ⟨_,h⟩:=this
            simpa using h
          rw [hx'] at this
          exact absurd he this
        · exact h
      have hLi:L i0=true:=(hcut.2 i0 _ he0 h2).2 (by omega)
      have := waits_spec hcl i0 _ hea fun t ht => by
        obtain ⟨ed,he1,he2,rfl⟩:=(edges_iff he0).1 ht
        exact hcl i0 _ he0 hLi ed he1 he2
      rw [hL] at this
      cases this
  have:=stAt_const hrun hok (m:=0) m (by have:=hcut.1; omega) fun i x _ hi hx=>hall i x (by omega) hx
  rwa [Nat.zero_add] at this
theorem wpAny_mix {Q:Exit→Act→World→Prop} (hX:ExtOk P X) (hc:CallOk P call) (hok:drOk ops=true) (hch:effEdges Fs ops.toList.zipIdx none=true) (hrun:vopm P X call ro Fs ops S0.st ops.toList S0=some Sn) (h0:S0.st=C.σ) (hro:ro ≤ C.σ.length)
    (hQ:∀ C' w' a',At C' w' Sn a' ds→Grow ro C w C' w' → Q .normal a' w') :
    ∀ (fuel : Nat) (listed : Array Bool) (m : Nat) (C1 : Ctx) (w1 : World) (a : Act), listed.size = ops.size → (List.range ops.size).countP (fun i => !listed.getD i false) ≤ fuel →
      (∀ i x,ops[i]? = some x→listed.getD i false=true→∀ e ∈ x.after.toList,Region.binds .any e=true→listed.getD e.on false=true)→Cut Fs ops (fun i=>listed.getD i false) m →
      At C1 w1 ⟨mix ops S0.tmps Sn.tmps (fun i=>listed.getD i false),stAt P X call ro Fs ops S0 m⟩ a ds→Grow ro C w C1 w1→wpAny P .any ops Q fuel listed a w1:=by
  have done : ∀ (listed : Array Bool), listed.size = ops.size → Region.ready .any ops listed = [] → ∀ i, i < ops.size → listed.getD i false = true := by
    intro listed hsz hr i
    induction i using Nat.strongRecOn with
    | _ i ih =>
      intro hi
      by_cases h:listed.getD i false=true
      · exact h
      · have ho : ops[i]? = some ops[i] := Array.getElem?_eq_getElem hi
        have : i ∈ Region.ready .any ops listed := (ready_iff hsz).2 ⟨_, ho, by simpa using h, fun e he hb => by
          have:=(drOk_spec hok ho).1 e he hb
          exact ih e.on this (by omega)⟩
        rw [hr] at this
        simp at this
  have hfull : ops.toList.take ops.size = ops.toList := by
    rw [List.take_of_length_le]
    simp
  have fin : ∀ (listed : Array Bool) (m : Nat) (C1 : Ctx) (w1 : World) (a : Act), listed.size = ops.size → Region.ready .any ops listed = [] → Cut Fs ops (fun i => listed.getD i false) m → At C1 w1 ⟨mix ops S0.tmps Sn.tmps (fun i => listed.getD i false), stAt P X call ro Fs ops S0 m⟩ a ds → Grow ro C w C1 w1 → Q .normal a w1 := by
    intro listed m C1 w1 a hsz hr hcut hat hg
    have hall:=done listed hsz hr
    refine hQ C1 w1 a ?_ hg
    rw [mixm_all hrun hall] at hat
    have hend:stAt P X call ro Fs ops S0 ops.size=Sn.st:=stAt_of (by rw [hfull]; exact hrun)
    have hsame : stAt P X call ro Fs ops S0 m = Sn.st := by
      have := stAt_const hrun hok (m := m) (ops.size - m) (by have := hcut.1; omega) fun i o h1 h2 hio => by
        cases he:isEff Fs o with
        | false=>rfl
        | true =>
          have:=(hcut.2 i o hio he).1 (hall i (Array.getElem?_eq_some_iff.1 hio).1)
          omega
      rw [show m + (ops.size - m)=ops.size by have:=hcut.1; omega] at this
      rw [← this,hend]
    exact ⟨hsame.symm.trans hat.st,hat.ok,hat.tmps,hat.defers⟩
  have hext : memL 1000000 Fs = false → ∀ m, m ≤ ops.size → Ext2 S0.st (stAt P X call ro Fs ops S0 m) := by
    intro htm m hm
    have hr:=hrun
    rw [← List.take_append_drop m ops.toList] at hr
    obtain ⟨Sm,h1,_⟩:=vopm_append hr
    rw [stAt_of h1]
    exact vopm_ext htm h1 (Ext2.refl _)
  intro fuel
  induction fuel with
  | zero =>
    intro listed m C1 w1 a hsz hcount hcl hcut hat hg
    have hr : Region.ready .any ops listed = [] := by
      cases hr:Region.ready .any ops listed with
      | nil=>rfl
      | cons j l =>
        obtain ⟨o,ho,h1,_⟩:=(ready_iff hsz).1 (hr ▸ List.mem_cons_self .. : j ∈ Region.ready .any ops listed)
        have hj:=(Array.getElem?_eq_some_iff.1 ho).1
        have:0 < (List.range ops.size).countP (fun i => !listed.getD i false):=List.countP_pos_iff.2 ⟨j,by simpa using hj,by rw [h1]; rfl⟩
        omega
    exact ⟨hr,fin listed m C1 w1 a hsz hr hcut hat hg⟩
  | succ fuel ih =>
    intro listed m C1 w1 a hsz hcount hcl hcut hat hg
    refine ⟨fun hr=>fin listed m C1 w1 a hsz hr hcut hat hg,fun j hjr => ?_⟩
    obtain ⟨o,ho,hL,hready⟩:=(ready_iff hsz).1 hjr
    have hj:=(Array.getElem?_eq_some_iff.1 ho).1
    have hget : ∀ i, (listed.setIfInBounds j true).getD i false = (i == j || listed.getD i false) := by
      intro i
      by_cases hi:i < listed.size
      · have hi' : i < (listed.setIfInBounds j true).size := by simpa using hi
        simp only [Array.getD,hi,hi',dite_true]
        rw [Array.getInternal_eq_getElem,Array.getInternal_eq_getElem,Array.getElem_setIfInBounds]
        by_cases hij:j=i
        · simp [hij]
        · simp [hij,Ne.symm hij]
        exact hi
      · have hi' : ¬ i < (listed.setIfInBounds j true).size := by simpa using hi
        simp only [Array.getD,hi,hi',dite_false]
        have:i ≠ j:=by omega
        simp [this]
    have hcount' : (List.range ops.size).countP (fun i => !(listed.setIfInBounds j true).getD i false) ≤ fuel := by
      have : (List.range ops.size).countP (fun i => !(listed.setIfInBounds j true).getD i false) < (List.range ops.size).countP (fun i => !listed.getD i false) := by
        apply countP_lt
        · intro i _ hi
          rw [hget] at hi
          cases h:listed.getD i false
          · rfl
          · rw [h] at hi; simp at hi
        · exact ⟨j,by simpa using hj,by rw [hL]; rfl,by rw [hget]; simp⟩
      omega
    have hcl' : ∀ i x, ops[i]? = some x → (listed.setIfInBounds j true).getD i false = true → ∀ e ∈ x.after.toList, Region.binds .any e = true → (listed.setIfInBounds j true).getD e.on false = true := by
      intro i x hi hLi e he hb
      rw [hget] at hLi ⊢
      by_cases hij:i=j
      · subst hij
        rw [ho] at hi
        cases hi
        simp [hready e he hb]
      · have : listed.getD i false = true := by simpa [hij] using hLi
        simp [hcl i x hi this e he hb]
    obtain ⟨Sj,v,σ,rest,p1,p2,p3,p4,p5,p6⟩:=mix_prefix hrun hok ho
    have hlook : ∀ t, t ∈ o.looksAt ops → nth (mix ops S0.tmps Sn.tmps (fun i => listed.getD i false)) t = nth Sj.tmps t := by
      intro t ht
      rw [p2]
      exact mix_look hrun hok ho hL hcl hready t ht
    have hro1:ro ≤ C1.σ.length:=Nat.le_trans hro hg.len
    have efun:(fun i=>(listed.setIfInBounds j true).getD i false)=(fun i=>i == j || listed.getD i false):=funext hget
    -- behind the operation
    have next : ∀ (m' : Nat) (u : Value) (w' : World) (C' : Ctx), C'.σ = stAt P X call ro Fs ops S0 m' → Cut Fs ops (fun i => (listed.setIfInBounds j true).getD i false) m' → SOk C' w' → Grow ro C1 w1 C' w' → Rep C' w' v u → wpAny P .any ops Q fuel (listed.setIfInBounds j true) (a.put o.dst u) w' := by
      intro m' u w' C' hσ hcut' hs' hg' hv
      refine ih (listed.setIfInBounds j true) m' C' w' (a.put o.dst u) (by simpa using hsz) hcount' hcl' hcut' ?_ (hg.trans hat.ok hg')
      have hstep:=hat.step (d:=o.dst) hs' hg' hv
      have htm:=mix_after (τ:=stAt P X call ro Fs ops S0 m) (σx:=C'.σ) (L:=fun i=>listed.getD i false) hrun hok ho p2 p3 p4
      rw [efun,← htm]
      exact ⟨hσ.symm,hstep.ok,hstep.tmps,hstep.defers⟩
    -- where it makes no memory the cut stays
    have stay : (isEff Fs o = false ∨ True) → isEff Fs o = false → Cut Fs ops (fun i => (listed.setIfInBounds j true).getD i false) m := by
      intro _ hne
      refine ⟨hcut.1,fun i x hi hie => ?_⟩
      simp only [hget]
      have hij : i ≠ j := by
        intro e
        subst e
        rw [ho] at hi
        cases hi
        rw [hne] at hie
        cases hie
      simp only [beq_eq_false_iff_ne.2 hij,Bool.false_or]
      exact hcut.2 i x hi hie
    unfold wpOp
    rw [ho]
    simp only
    have hwant:wantedv ops ⟨mix ops S0.tmps Sn.tmps (fun i=>listed.getD i false),stAt P X call ro Fs ops S0 m⟩ o=wantedv ops Sj o:=wanted_same hlook
    -- an operation that makes memory: none of its kind lies between the cut and it
    have effcut : isEff Fs o = true → m ≤ j ∧ (∀ i x, m ≤ i → i < j → ops[i]? = some x → isEff Fs x = false) := by
      intro he
      have hmj : m ≤ j := by
        rcases Nat.lt_or_ge j m with h | h
        · have := (hcut.2 j o ho he).2 h
          simp only at this
          rw [hL] at this
          cases this
        · exact h
      refine ⟨hmj,?_⟩
      -- the last of its kind before it has run
      have last : ∀ (n : Nat), n ≤ j → (∀ i x, n ≤ i → i < j → ops[i]? = some x → isEff Fs x = false) → m ≤ n → (∀ i x, m ≤ i → i < j → ops[i]? = some x → isEff Fs x = false) := by
        intro n
        induction n with
        | zero=>intro _ h1 h2 i x h3 h4 h5; exact h1 i x (by omega) h4 h5
        | succ n ihn =>
          intro hn h1 h2
          by_cases hmn:m ≤ n
          · refine ihn (by omega) (fun i x h3 h4 h5 => ?_) hmn
            by_cases hin:i=n
            · subst hin
              cases hx:isEff Fs x with
              | false=>rfl
              | true =>
                exfalso
                have hedge:=(effEdges_spec ops.toList 0 none (by simpa using hch) j o (by simpa using ho) he).1 i x (by omega) (by simpa using h5) hx (fun i' o'' q1 q2 q3=>h1 i' o'' (by omega) q2 (by simpa using q3))
                unfold edgeTo at hedge
                obtain ⟨e,he1,he2⟩:=List.any_eq_true.1 hedge
                simp only [Bool.and_eq_true,beq_iff_eq] at he2
                have hrun1:=hready e he1 he2.1
                rw [he2.2,Nat.zero_add] at hrun1
                have:=(hcut.2 i x h5 hx).1 hrun1
                omega
            · exact h1 i x (by omega) h4 h5
          · intro i x h3 h4 h5
            exact h1 i x (by omega) h4 h5
      exact last j (Nat.le_refl _) (fun i x h3 h4=>by omega) hmj
    rcases p6 with ⟨hw,he,hk,hv⟩ | ⟨hw,he,hσ,s,hv⟩ | ⟨hw,hvu,hσ⟩
    · rw [if_pos (wanted_run hat.tmps (hwant.trans hw))]
      left
      obtain ⟨hmj,hnone⟩:=effcut he
      have hst : stAt P X call ro Fs ops S0 m = Sj.st := by
        have:=stAt_const hrun hok (m:=m) (j - m) (by omega) fun i x h1 h2 h3=>hnone i x h1 (by omega) h3
        rw [show m + (j - m)=j by omega] at this
        rw [← this,stAt_of p1]
      have hop:evOp P (bareX X) call false ro ⟨mix ops S0.tmps Sn.tmps (fun i=>listed.getD i false),stAt P X call ro Fs ops S0 m⟩ o=some (v,σ):=(evOp_same (ops:=ops) hst hlook).trans (evE_evOp hv)
      refine evOp_sound (bareX_ok hX) hc hop hat.st hat.ok hro1 hat.tmps ?_
      intro u w' C' hσ' hs' hg' hvr _
      refine next (j + 1) u w' C' ?_ ?_ hs' hg' hvr
      · rw [hσ',stAt_of p5,putSlot_st]
      · refine ⟨by omega, fun i x hi hie => ?_⟩
        simp only [hget]
        by_cases hij:i=j
        · subst hij
          simp
        · simp only [beq_eq_false_iff_ne.2 hij, Bool.false_or]
          have h1:=hcut.2 i x hi hie
          simp only at h1
          rw [h1]
          constructor
          · intro h; omega
          · intro h
            rcases Nat.lt_or_ge i m with h2 | h2
            · exact h2
            · have := hnone i x h2 (by omega) hi
              rw [hie] at this
              cases this
    · rw [if_pos (wanted_run hat.tmps (hwant.trans hw))]
      left
      have hop : evOp P X call true ro ⟨mix ops S0.tmps Sn.tmps (fun i => listed.getD i false), stAt P X call ro Fs ops S0 m⟩ o = some (v, stAt P X call ro Fs ops S0 m) := by
        refine evOp_ext (σ:=sees Fs ops S0.st o) ?_ (s:=s) ?_
        · unfold sees
          cases htm:memL 1000000 Fs with
          | false=>exact hext htm m hcut.1
          | true =>
            have hnil:Ext2 [] (stAt P X call ro Fs ops S0 m):=fun id o h=>by simp at h
            have key : (if (o.dst.isSome && early Fs ops (dstAt ops o.dst)) = true then S0.st else []) = S0.st ∧ o.dst.isSome = true ∧ early Fs ops (dstAt ops o.dst) = true ∨ (if (o.dst.isSome && early Fs ops (dstAt ops o.dst)) = true then S0.st else []) = [] := by
              cases hd:(o.dst.isSome && early Fs ops (dstAt ops o.dst)) with
              | true=>rw [Bool.and_eq_true] at hd; exact .inl ⟨rfl,hd.1,hd.2⟩
              | false=>exact .inr rfl
            have main : Ext2 (if (o.dst.isSome && early Fs ops (dstAt ops o.dst)) = true then S0.st else []) (stAt P X call ro Fs ops S0 m) := by
              rcases key with ⟨e,hd,hea⟩ | e
              · rw [e, early_start hok hrun hch ho hd hea hL hcl hcut]
                exact Ext2.refl _
              · rw [e]; exact hnil
            simp only [if_true]
            split
            · exact main
            · exact main
            · exact main
            · exact hnil
        · rw [← hv]
          exact evOp_same (ops:=ops) (S:=⟨mix ops S0.tmps Sn.tmps (fun i=>listed.getD i false),sees Fs ops S0.st o⟩) (S' := ⟨Sj.tmps,sees Fs ops S0.st o⟩) rfl hlook
      refine evOp_sound hX hc hop hat.st hat.ok hro1 hat.tmps ?_
      intro u w' C' hσ' hs' hg' hvr _
      exact next m u w' C' hσ' (stay (.inr trivial) he) hs' hg' hvr
    · rw [if_neg (by rw [wanted_run hat.tmps (hwant.trans hw)]; simp)]
      subst hvu
      cases he:isEff Fs o with
      | false=>exact next m undef w1 C1 hat.st.symm (stay (.inr trivial) he) hat.ok (Grow.refl ..) (by simp only [Rep])
      | true =>
        obtain ⟨hmj,hnone⟩:=effcut he
        have hst : stAt P X call ro Fs ops S0 m = Sj.st := by
          have:=stAt_const hrun hok (m:=m) (j - m) (by omega) fun i x h1 h2 h3=>hnone i x h1 (by omega) h3
          rw [show m + (j - m)=j by omega] at this
          rw [← this,stAt_of p1]
        refine next (j + 1) undef w1 C1 ?_ ?_ hat.ok (Grow.refl ..) (by simp only [Rep])
        · rw [stAt_of p5, putSlot_st, hσ, ← hst]
          exact hat.st.symm
        · refine ⟨by omega, fun i x hi hie => ?_⟩
          simp only [hget]
          by_cases hij:i=j
          · subst hij
            simp
          · simp only [beq_eq_false_iff_ne.2 hij, Bool.false_or]
            have h1:=hcut.2 i x hi hie
            simp only at h1
            rw [h1]
            constructor
            · intro h; omega
            · intro h
              rcases Nat.lt_or_ge i m with h2 | h2
              · exact h2
              · have := hnone i x h2 (by omega) hi
                rw [hie] at this
                cases this
theorem mixreg_sound {Q:Exit→Act→World→Prop} (hm:P.follows .mixedOrders=true) (hX:ExtOk P X) (hc:CallOk P call) (hok:drOk ops=true) (hch:effChain Fs ops=true) {id:Nat} {S S' : St} {a:Act} (hrun:vopm P X call ro Fs ops S.st ops.toList S=some S')
    (hat:At C w S a ds) (hro:ro ≤ C.σ.length) (hQ:∀ C' w' a',At C' w' S' a' ds→Grow ro C w C' w' → Q .normal a' w'):(Code.region id ops true).wp P Q a w:=by
  apply wp_region_any hm
  obtain ⟨h1,h2,_⟩:=more_heap hat.ok ro (w' := { w with drawn:=w.drawn + 1 }) rfl rfl rfl (Nat.le_refl _) (fun _ _=>rfl)
  have hgd : ∀ i, (Array.replicate ops.size false).getD i false = false := by
    intro i
    simp only [Array.getD]
    split
    · rw [Array.getInternal_eq_getElem]; simp
    · rfl
  unfold effChain at hch
  rw [Bool.and_eq_true] at hch
  refine wpAny_mix (w:=w) hX hc hok hch.2 hrun hat.st hro hQ ops.size _ 0 C _ a (by simp) ?_ ?_ ?_ ?_ h2
  · exact Nat.le_trans List.countP_le_length (by simp)
  · intro i x _ hLi
    rw [hgd] at hLi
    cases hLi
  · refine ⟨Nat.zero_le _, fun i x _ _ => ?_⟩
    simp only [hgd]
    simp
  · have e : (fun i => (Array.replicate ops.size false).getD i false) = fun _ => false := funext hgd
    rw [e,mixm_none hrun (fun _ _=>rfl)]
    exact ⟨hat.st,h1,RepAll.mono h2.keeps _ _ hat.tmps,hat.defers⟩
end
end Go.Vm
end
/- A region whose order is drawn and whose last operations each wait for all that stand ahead: up to them every order does what the text's does; they come last, in the text's order. -/
section
namespace Go.Vm
open Go.RowKit (Below)
variable [Fixed]
variable {P:Program} {C:Ctx} {w:World}
section
variable {X:Ext} {call:Caller} {ro:Nat} {ops:Array Oper} {ds:List Deferred}
theorem cover_spec {L:Nat→Bool} (hcl:∀ i x,ops[i]? = some x→L i=true→∀ e ∈ x.after.toList,Region.binds .any e=true→L e.on=true) :
    ∀ (i:Nat) (ms:List Nat),cover ops i ms=true→(∀ t ∈ ms,L t=true)→∀ t,t < i→L t=true
  | 0,_,_,_,t,ht=>by omega
  | i + 1, ms, h, hm, t, ht => by
    simp only [cover,Bool.and_eq_true] at h
    have hi:=hm i (memN_mem h.1)
    by_cases e:t=i
    · rw [e]; exact hi
    · refine cover_spec hcl i _ h.2 (fun k hk => ?_) t (by omega)
      rcases List.mem_append.1 hk with hk | hk
      · cases ho : ops[i]? with
        | none=>simp [edgesOf,ho] at hk
        | some o =>
          obtain ⟨e,he,hb,rfl⟩:=(edges_iff ho).1 hk
          exact hcl i o ho hi e he hb
      · exact hm k hk
theorem tail_ready {m j:Nat} {o:Oper} {L:Nat→Bool} (ht:tailOk ops m=true) (ho:ops[j]? = some o) (hj:m ≤ j) (hready:∀ e ∈ o.after.toList,Region.binds .any e=true→L e.on=true)
    (hcl:∀ i x,ops[i]? = some x→L i=true→∀ e ∈ x.after.toList,Region.binds .any e=true→L e.on=true):∀ t,t < j→L t=true:=by
  have hlt:=(Array.getElem?_eq_some_iff.1 ho).1
  have:=List.all_eq_true.1 ht j (by simpa using hlt)
  have hb : Nat.blt j m = false := by
    cases h:Nat.blt j m with
    | false=>rfl
    | true => have : j < m := by simpa using h
              omega
  rw [hb,Bool.false_or] at this
  refine cover_spec hcl j _ this fun t ht => ?_
  obtain ⟨e,he,hb,rfl⟩:=(edges_iff ho).1 ht
  exact hready e he hb
theorem set_get {listed:Array Bool} {j i:Nat} (hj:j < listed.size):(listed.setIfInBounds j true).getD i false=(i == j || listed.getD i false):=by
  by_cases hi:i < listed.size
  · have hi' : i < (listed.setIfInBounds j true).size := by simpa using hi
    simp only [Array.getD,hi,hi',dite_true]
    rw [Array.getInternal_eq_getElem,Array.getInternal_eq_getElem,Array.getElem_setIfInBounds]
    by_cases hij:j=i
    · simp [hij]
    · simp [hij,Ne.symm hij]
    exact hi
  · have hi' : ¬ i < (listed.setIfInBounds j true).size := by simpa using hi
    simp only [Array.getD,hi,hi',dite_false]
    have:i ≠ j:=by omega
    simp [this]
/-- The last ones, in the text's order. -/
theorem tail_any {Q:Exit→Act→World→Prop} {m:Nat} (hok:drOk ops=true) (ht:tailOk ops m=true):∀ (n k fuel:Nat) (listed:Array Bool) (a:Act) (w:World),ops.size - k=n→m ≤ k→listed.size=ops.size→(∀ i,i < ops.size→listed.getD i false=decide (i < k))→n ≤ fuel →
    wpList P ops Q (ops.toList.drop k) a w→wpAny P .any ops Q fuel listed a w:=by
  intro n
  induction n with
  | zero =>
    intro k fuel listed a w hn hk hsz hl hf h
    have hr : Region.ready .any ops listed = [] := by
      cases hr:Region.ready .any ops listed with
      | nil=>rfl
      | cons j l =>
        obtain ⟨o,ho,h1,_⟩:=(ready_iff hsz).1 (hr ▸ List.mem_cons_self .. : j ∈ Region.ready .any ops listed)
        have hj:=(Array.getElem?_eq_some_iff.1 ho).1
        rw [hl j hj,decide_eq_true (by omega)] at h1
        cases h1
    have hd:ops.toList.drop k=[]:=List.drop_eq_nil_of_le (by simp only [Array.length_toList]; omega)
    rw [hd] at h
    cases fuel with
    | zero=>exact ⟨hr,h⟩
    | succ f=>exact ⟨fun _=>h,fun j hj=>by rw [hr] at hj; simp at hj⟩
  | succ n ih =>
    intro k fuel listed a w hn hk hsz hl hf h
    have hlt:k < ops.size:=by omega
    have ho:ops[k]? = some ops[k]:=Array.getElem?_eq_getElem hlt
    obtain ⟨f,rfl⟩:∃ f,fuel=f + 1:=⟨fuel - 1,by omega⟩
    have hdrop : ops.toList.drop k = ops[k] :: ops.toList.drop (k + 1) := by
      rw [List.drop_eq_getElem_cons (by simpa using hlt)]
      simp
    rw [hdrop] at h
    have hcl : ∀ i x, ops[i]? = some x → listed.getD i false = true → ∀ e ∈ x.after.toList, Region.binds .any e = true → listed.getD e.on false = true := by
      intro i x hi hL e he hb
      have hi' := (Array.getElem?_eq_some_iff.1 hi).1
      rw [hl i hi'] at hL
      have hik:=of_decide_eq_true hL
      have:=(drOk_spec hok hi).1 e he hb
      rw [hl e.on (by omega),decide_eq_true (by omega)]
    refine ⟨fun hr => ?_,fun j hj => ?_⟩
    · have : k ∈ Region.ready .any ops listed := (ready_iff hsz).2 ⟨_, ho, by rw [hl k hlt, decide_eq_false (by omega)], fun e he hb => by
        have:=(drOk_spec hok ho).1 e he hb
        rw [hl e.on (by omega),decide_eq_true (by omega)]⟩
      rw [hr] at this
      simp at this
    · obtain ⟨o, hoj, h1, hready⟩ := (ready_iff hsz).1 hj
      have hj' := (Array.getElem?_eq_some_iff.1 hoj).1
      rw [hl j hj'] at h1
      have hkj:k ≤ j:=by have:=of_decide_eq_false h1; omega
      have hjk : j = k := by
        rcases Nat.lt_or_ge k j with h2 | h2
        · have := tail_ready (L := fun i => listed.getD i false) ht hoj (by omega) hready hcl k h2
          simp only [hl k hlt] at this
          have:=of_decide_eq_true this
          omega
        · omega
      subst hjk
      rw [ho] at hoj
      cases hoj
      have h' : wpOp P ops Q j (wpList P ops Q (ops.toList.drop (j + 1))) a w := by
        unfold wpOp
        rw [ho]
        exact h
      refine wpOp_mono (fun a' w' h3 => ?_) h'
      refine ih (j + 1) f _ a' w' (by omega) (by omega) (by simpa using hsz) (fun i hi => ?_) (by omega) h3
      rw [set_get (by omega),hl i hi]
      by_cases e:i=j
      · simp [e]
      · have : (i == j) = false := by simpa using e
        rw [this,Bool.false_or]
        by_cases h4:i < j
        · rw [decide_eq_true h4,decide_eq_true (by omega)]
        · rw [decide_eq_false h4,decide_eq_false (by omega)]
/-- Before operation j of the first m. -/
theorem prefix_stateP {m:Nat} {S0 Sm:St} (hrun:vops P X call true ro ops (ops.toList.take m) S0=some Sm) (hok:drOk ops=true) {j:Nat} {o:Oper} (hj:ops[j]? = some o) (hjm:j < m) :
    ∃ Sj rest,Sj.st=S0.st∧Sj.tmps=mix ops S0.tmps Sm.tmps (fun i=>Nat.blt i j)∧vops P X call true ro ops (o::rest) Sj=some Sm∧(∀ t,o.dst=some t→∀ o' ∈ rest,o'.dst ≠ some t):=by
  obtain ⟨l,hl⟩:∃ l,ops.toList.take m=l:=⟨_,rfl⟩
  have hget : ∀ {k : Nat} {x : Oper}, l[k]? = some x → ops[k]? = some x ∧ k < m := by
    intro k x hk
    rw [← hl,List.getElem?_take] at hk
    split at hk
    · exact ⟨by simpa using hk,by assumption⟩
    · cases hk
  have hlj : l[j]? = some o := by
    rw [← hl,List.getElem?_take,if_pos hjm]
    simpa using hj
  have hlt:j < l.length:=(List.getElem?_eq_some_iff.1 hlj).1
  rw [hl] at hrun
  have hsplit:l=l.take j ++ l.drop j:=(List.take_append_drop ..).symm
  have hdrop : l.drop j = o :: l.drop (j + 1) := by
    rw [List.drop_eq_getElem_cons hlt]
    congr 1
    rw [List.getElem?_eq_getElem hlt] at hlj
    simpa using hlj
  rw [hsplit] at hrun
  obtain ⟨Sj,h1,h2⟩:=vops_append hrun
  obtain ⟨a1,a2,a3⟩:=vops_keeps h1
  obtain ⟨b1,b2,b3⟩:=vops_keeps h2
  have hlen:Sm.tmps.length=S0.tmps.length:=b2.trans a2
  have later:∀ {i k:Nat} {x y:Oper} {t:Nat},ops[i]? = some x→ops[k]? = some y→i ≠ k→x.dst=some t→y.dst ≠ some t:=fun hi hk hne ht=>((drOk_spec hok hk).2 _ _ hi hne _ ht).1
  refine ⟨Sj,l.drop (j + 1),a1,?_,hdrop ▸ h2,?_⟩
  · apply nth_ext (by rw [a2, mix_length])
    intro t
    rw [nth_mix hlen]
    unfold mixAt
    split
    · rename_i hany
      obtain ⟨i,x,hi,hij,hx⟩:=any_iff.1 hany
      have hij:i < j:=by simpa using hij
      rw [b3 t]
      intro y hy
      obtain ⟨k,hk⟩:=List.mem_iff_getElem?.1 hy
      rw [List.getElem?_drop] at hk
      exact later hi (hget hk).1 (by omega) hx
    · rename_i hany
      apply a3 t
      intro y hy hyt
      obtain ⟨k,hk⟩:=List.mem_iff_getElem?.1 hy
      rw [List.getElem?_take] at hk
      split at hk
      · exact hany (any_iff.2 ⟨k,y,(hget hk).1,by simpa,hyt⟩)
      · cases hk
  · intro t ht y hy
    obtain ⟨k,hk⟩:=List.mem_iff_getElem?.1 hy
    rw [List.getElem?_drop] at hk
    exact later hj (hget hk).1 (by omega) ht
theorem mixed_opP {m:Nat} {S0 Sm:St} (hrun:vops P X call true ro ops (ops.toList.take m) S0=some Sm) (hok:drOk ops=true) {j:Nat} {o:Oper} (hj:ops[j]? = some o) (hjm:j < m) {L:Nat→Bool} (hL:L j=false)
    (hcl:∀ i x,ops[i]? = some x→L i=true→∀ e ∈ x.after.toList,Region.binds .any e=true→L e.on=true)
    (hready:∀ e ∈ o.after.toList,Region.binds .any e=true→L e.on=true) :
    let SL:St:=⟨mix ops S0.tmps Sm.tmps L,S0.st⟩
    (wantedv ops SL o=some true∧∃ v σ',evOp P X call true ro SL o=some (v,σ')∧(putSlot SL o.dst v S0.st).tmps=mix ops S0.tmps Sm.tmps (fun i=>i == j || L i)) ∨
    (wantedv ops SL o=some false∧(putSlot SL o.dst .undef S0.st).tmps=mix ops S0.tmps Sm.tmps (fun i=>i == j || L i)):=by
  intro SL
  obtain ⟨Sj,rest,hst,htm,hv,hrest⟩:=prefix_stateP hrun hok hj hjm
  obtain ⟨_,hlen,_⟩:=vops_keeps hrun
  have look : ∀ t, t ∈ o.looksAt ops → nth SL.tmps t = nth Sj.tmps t := by
    intro t ht
    rw [htm]
    show nth (mix ops S0.tmps Sm.tmps L) t=_
    rw [nth_mix hlen,nth_mix hlen]
    unfold mixAt
    have : (List.range ops.size).any (fun i => L i && ((ops[i]?).bind (·.dst) == some t)) = (List.range ops.size).any (fun i => Nat.blt i j && ((ops[i]?).bind (·.dst) == some t)) := by
      rw [Bool.eq_iff_iff,any_iff,any_iff]
      constructor
      · rintro ⟨i, x, hi, hLi, hx⟩
        refine ⟨i,x,hi,?_,hx⟩
        by_cases hij:i=j
        · subst hij; rw [hL] at hLi; cases hLi
        · by_cases hlt : i < j
          · simpa using hlt
          · have he := (((drOk_spec hok hj).2 i x hi hij t hx).2 ht).2 (by omega)
            obtain ⟨e,he1,he2⟩:=List.any_eq_true.1 he
            simp only [Bool.and_eq_true,beq_iff_eq] at he2
            have:=hcl i x hi hLi e he1 he2.1
            rw [he2.2,hL] at this
            cases this
      · rintro ⟨i, x, hi, hij, hx⟩
        have hij:i < j:=by simpa using hij
        refine ⟨i,x,hi,?_,hx⟩
        have he:=(((drOk_spec hok hj).2 i x hi (by omega) t hx).2 ht).1 hij
        obtain ⟨e,he1,he2⟩:=List.any_eq_true.1 he
        simp only [Bool.and_eq_true,beq_iff_eq] at he2
        have:=hready e he1 he2.1
        rwa [he2.2] at this
    rw [this]
  have hwant : wantedv ops SL o = wantedv ops Sj o := by
    unfold wantedv
    cases hg:o.guard with
    | none=>rfl
    | some g =>
      obtain ⟨k,want⟩:=g
      simp only
      cases hd:(ops[k]?).bind (·.dst) with
      | none=>rfl
      | some t =>
        simp only
        rw [look t (by simp [Oper.looksAt,hg,hd])]
  have hev : evOp P X call true ro SL o = evOp P X call true ro Sj o := by
    refine evOp_congr hst.symm fun x hx => ?_
    cases x with
    | tmp t =>
      simp only [ev]
      rw [look t (by simp only [Oper.looksAt,List.mem_append,List.mem_filterMap]; exact .inl ⟨_,hx,rfl⟩)]
    | const _=>rfl
    | func _=>rfl
    | global _=>rfl
  have after : ∀ v, vops P X call true ro ops rest (putSlot Sj o.dst v Sj.st) = some Sm → (putSlot SL o.dst v S0.st).tmps = mix ops S0.tmps Sm.tmps (fun i => i == j || L i) := by
    intro v hr
    apply nth_ext (by rw [(putSlot_tmps ..).1]; exact mix_length.trans mix_length.symm)
    intro t
    rw [nth_mix hlen]
    by_cases ht:o.dst=some t
    · have hany : (List.range ops.size).any (fun i => (i == j || L i) && ((ops[i]?).bind (·.dst) == some t)) = true := any_iff.2 ⟨j, o, hj, by simp, ht⟩
      unfold mixAt
      rw [if_pos hany,(vops_keeps hr).2.2 t (hrest t ht),ht]
      simp only [putSlot,nth_setN]
      have e:Sj.tmps.length=SL.tmps.length:=by rw [htm,mix_length]; exact mix_length.symm
      rw [e]
      split
      · rfl
      · rename_i hn
        have hge : SL.tmps.length ≤ t := by
          rcases Nat.lt_or_ge t SL.tmps.length with h | h
          · exact absurd (by simpa using h) hn
          · exact h
        rw [nth_none hge,nth_none (by rw [e]; exact hge)]
    · rw [(putSlot_tmps ..).2 t ht]
      show nth (mix ops S0.tmps Sm.tmps L) t=_
      rw [nth_mix hlen]
      unfold mixAt
      have : (List.range ops.size).any (fun i => L i && ((ops[i]?).bind (·.dst) == some t)) = (List.range ops.size).any (fun i => (i == j || L i) && ((ops[i]?).bind (·.dst) == some t)) := by
        rw [Bool.eq_iff_iff,any_iff,any_iff]
        constructor
        · rintro ⟨i, x, hi, hLi, hx⟩
          exact ⟨i,x,hi,by simp [hLi],hx⟩
        · rintro ⟨i, x, hi, hLi, hx⟩
          refine ⟨i,x,hi,?_,hx⟩
          by_cases hij:i=j
          · subst hij
            rw [hj] at hi
            cases hi
            exact absurd hx ht
          · simpa [hij] using hLi
      rw [this]
  rw [hwant,hev]
  simp only [vops] at hv
  split at hv
  · rename_i hw
    split at hv
    · rename_i v σ' hop
      exact .inl ⟨hw,v,σ',hop,after v (by simpa using hv)⟩
    · cases hv
  · rename_i hw
    exact .inr ⟨hw,after _ hv⟩
  · cases hv
theorem mix_allP {m:Nat} {S0 Sm:St} (hrun:vops P X call true ro ops (ops.toList.take m) S0=some Sm) {L:Nat→Bool} (hL:∀ i,i < ops.size→i < m→L i=true) (hL' : ∀ i,L i=true→i < m) (hok:drOk ops=true):mix ops S0.tmps Sm.tmps L=Sm.tmps:=by
  obtain ⟨_,hlen,hk⟩:=vops_keeps hrun
  apply nth_ext (by rw [mix_length,hlen])
  intro t
  rw [nth_mix hlen]
  unfold mixAt
  split
  · rfl
  · rename_i hany
    rw [hk t]
    intro o ho hot
    obtain ⟨i,hi⟩:=List.mem_iff_getElem?.1 ho
    rw [List.getElem?_take] at hi
    split at hi
    · rename_i him
      have hi:ops[i]? = some o:=by simpa using hi
      exact hany (any_iff.2 ⟨i,o,hi,hL i (Array.getElem?_eq_some_iff.1 hi).1 him,hot⟩)
    · cases hi
theorem wpAny_tail {Q:Exit→Act→World→Prop} (hX:ExtOk P X) (hc:CallOk P call) (hok:drOk ops=true) {m:Nat} (hms:m ≤ ops.size) {S0 Sm:St} (hrun:vops P X call true ro ops (ops.toList.take m) S0=some Sm) (ht:tailOk ops m=true) (h0:S0.st=C.σ) (hro:ro ≤ C.σ.length)
    (hQ:∀ w' a',At C w' Sm a' ds→Grow ro C w C w' → wpList P ops Q (ops.toList.drop m) a' w') :
    ∀ (fuel : Nat) (listed : Array Bool) (w1 : World) (a : Act), listed.size = ops.size → (List.range ops.size).countP (fun i => !listed.getD i false) ≤ fuel → (∀ i, listed.getD i false = true → i < m) →
      (∀ i x,ops[i]? = some x→listed.getD i false=true→∀ e ∈ x.after.toList,Region.binds .any e=true→listed.getD e.on false=true) →
      At C w1 ⟨mix ops S0.tmps Sm.tmps (fun i=>listed.getD i false),S0.st⟩ a ds→Grow ro C w C w1→wpAny P .any ops Q fuel listed a w1:=by
  -- all of the first have run
  have last : ∀ (fuel : Nat) (listed : Array Bool) (w1 : World) (a : Act), listed.size = ops.size → (List.range ops.size).countP (fun i => !listed.getD i false) ≤ fuel → (∀ i, listed.getD i false = true → i < m) → (∀ i, i < m → listed.getD i false = true) →
      At C w1 ⟨mix ops S0.tmps Sm.tmps (fun i=>listed.getD i false),S0.st⟩ a ds→Grow ro C w C w1→wpAny P .any ops Q fuel listed a w1:=by
    intro fuel listed w1 a hsz hcount h1 h2 hat hg
    have hl : ∀ i, i < ops.size → listed.getD i false = decide (i < m) := by
      intro i _
      by_cases h:i < m
      · rw [h2 i h,decide_eq_true h]
      · rw [decide_eq_false h]
        cases hh:listed.getD i false with
        | false=>rfl
        | true=>exact absurd (h1 i hh) h
    refine tail_any hok ht (ops.size - m) m fuel listed a w1 rfl (Nat.le_refl _) hsz hl ?_ (hQ w1 a ?_ hg)
    · refine Nat.le_trans ?_ hcount
      have : (List.range ops.size).countP (fun i => !listed.getD i false) = (List.range ops.size).countP (fun i => !decide (i < m)) := by
        apply List.countP_congr
        intro i hi
        rw [hl i (by simpa using hi)]
      rw [this]
      have hsplit : List.range ops.size = List.range m ++ (List.range (ops.size - m)).map (m + ·) := by
        rw [← List.range_add,Nat.add_sub_cancel' hms]
      rw [hsplit,List.countP_append]
      have : ((List.range (ops.size - m)).map (m + ·)).countP (fun i => !decide (i < m)) = ops.size - m := by
        rw [List.countP_eq_length.2]
        · simp
        · intro i hi
          obtain ⟨k,_,rfl⟩:=List.mem_map.1 hi
          simp
      omega
    · rw [mix_allP hrun (fun i _ h => h2 i h) h1 hok] at hat
      exact ⟨(vops_keeps hrun).1.trans hat.st,hat.ok,hat.tmps,hat.defers⟩
  intro fuel
  induction fuel with
  | zero =>
    intro listed w1 a hsz hcount h1 hcl hat hg
    refine last 0 listed w1 a hsz hcount h1 (fun i hi => ?_) hat hg
    cases h:listed.getD i false with
    | true=>rfl
    | false =>
      have:0 < (List.range ops.size).countP (fun i => !listed.getD i false):=List.countP_pos_iff.2 ⟨i,by simp; omega,by rw [h]; rfl⟩
      omega
  | succ fuel ih =>
    intro listed w1 a hsz hcount h1 hcl hat hg
    by_cases hall:∀ i,i < m→listed.getD i false=true
    · exact last _ listed w1 a hsz hcount h1 hall hat hg
    refine ⟨fun hr => ?_,fun j hjr => ?_⟩
    · exfalso
      apply hall
      intro i
      induction i using Nat.strongRecOn with
      | _ i ihi =>
        intro hi
        cases h:listed.getD i false with
        | true=>rfl
        | false =>
          have ho:ops[i]? = some ops[i]:=Array.getElem?_eq_getElem (by omega)
          have : i ∈ Region.ready .any ops listed := (ready_iff hsz).2 ⟨_, ho, h, fun e he hb => by
            have:=(drOk_spec hok ho).1 e he hb
            exact ihi e.on this (by omega)⟩
          rw [hr] at this
          simp at this
    · obtain ⟨o, ho, hL, hready⟩ := (ready_iff hsz).1 hjr
      have hj:=(Array.getElem?_eq_some_iff.1 ho).1
      have hjm : j < m := by
        rcases Nat.lt_or_ge j m with h | h
        · exact h
        · exact absurd (fun i hi=>tail_ready (L:=fun i=>listed.getD i false) ht ho h hready hcl i (by omega)) hall
      have hget:∀ i,(listed.setIfInBounds j true).getD i false=(i == j || listed.getD i false):=fun i=>set_get (by omega)
      have hcount' : (List.range ops.size).countP (fun i => !(listed.setIfInBounds j true).getD i false) ≤ fuel := by
        have : (List.range ops.size).countP (fun i => !(listed.setIfInBounds j true).getD i false) < (List.range ops.size).countP (fun i => !listed.getD i false) := by
          apply countP_lt
          · intro i _ hi
            rw [hget] at hi
            cases h:listed.getD i false
            · rfl
            · rw [h] at hi; simp at hi
          · exact ⟨j,by simpa using hj,by rw [hL]; rfl,by rw [hget]; simp⟩
        omega
      have h1' : ∀ i, (listed.setIfInBounds j true).getD i false = true → i < m := by
        intro i hi
        rw [hget] at hi
        by_cases hij:i=j
        · omega
        · exact h1 i (by simpa [hij] using hi)
      have hcl' : ∀ i x, ops[i]? = some x → (listed.setIfInBounds j true).getD i false = true → ∀ e ∈ x.after.toList, Region.binds .any e = true → (listed.setIfInBounds j true).getD e.on false = true := by
        intro i x hi hLi e he hb
        rw [hget] at hLi ⊢
        by_cases hij:i=j
        · subst hij
          rw [ho] at hi
          cases hi
          simp [hready e he hb]
        · have : listed.getD i false = true := by simpa [hij] using hLi
          simp [hcl i x hi this e he hb]
      have hm:=mixed_opP hrun hok ho hjm hL hcl hready
      unfold wpOp
      rw [ho]
      simp only
      have next : ∀ (v : AV) (u : Value) (w' : World), (putSlot (⟨mix ops S0.tmps Sm.tmps (fun i => listed.getD i false), S0.st⟩ : St) o.dst v S0.st).tmps = mix ops S0.tmps Sm.tmps (fun i => i == j || listed.getD i false) →
          SOk C w' → Grow ro C w1 C w' → Rep C w' v u→wpAny P .any ops Q fuel (listed.setIfInBounds j true) (a.put o.dst u) w' := by
        intro v u w' htm hs' hg' hv
        refine ih (listed.setIfInBounds j true) w' (a.put o.dst u) (by simpa using hsz) hcount' h1' hcl' ?_ (hg.trans hat.ok hg')
        have hstep:=hat.step (d:=o.dst) hs' hg' hv
        have e:(fun i=>(listed.setIfInBounds j true).getD i false)=(fun i=>i == j || listed.getD i false):=funext hget
        rw [e,← htm]
        refine ⟨h0,hstep.ok,?_,hstep.defers⟩
        have:=hstep.tmps
        rwa [← h0] at this
      rcases hm with ⟨hw,v,σ',hop,htm⟩ | ⟨hw,htm⟩
      · rw [if_pos (wanted_run hat.tmps hw)]
        left
        refine evOp_sound hX hc hop hat.st hat.ok hro hat.tmps ?_
        intro u w' C' _ hs' hg' hv hC
        have:=hC rfl
        subst this
        exact next v u w' htm hs' hg' hv
      · rw [if_neg (by rw [wanted_run hat.tmps hw]; simp)]
        exact next .undef undef w1 htm hat.ok (Grow.refl ..) (by simp only [Rep])
theorem draw_tail {Q:Exit→Act→World→Prop} (hm:P.follows .mixedOrders=true) (hX:ExtOk P X) (hc:CallOk P call) (hok:drOk ops=true) {id m:Nat} (hms:m ≤ ops.size) {S Sm:St} {a:Act} (hrun:vops P X call true ro ops (ops.toList.take m) S=some Sm) (ht:tailOk ops m=true)
    (hat:At C w S a ds) (hro:ro ≤ C.σ.length) (hQ:∀ w' a',At C w' Sm a' ds→Grow ro C w C w' → wpList P ops Q (ops.toList.drop m) a' w'):(Code.region id ops true).wp P Q a w:=by
  apply wp_region_any hm
  obtain ⟨h1,h2,_⟩:=more_heap hat.ok ro (w' := { w with drawn:=w.drawn + 1 }) rfl rfl rfl (Nat.le_refl _) (fun _ _=>rfl)
  have hgd : ∀ i, (Array.replicate ops.size false).getD i false = false := by
    intro i
    simp only [Array.getD]
    split
    · rw [Array.getInternal_eq_getElem]; simp
    · rfl
  refine wpAny_tail (w:=w) hX hc hok hms hrun ht hat.st hro hQ ops.size _ _ a (by simp) ?_ ?_ ?_ ?_ h2
  · exact Nat.le_trans List.countP_le_length (by simp)
  · intro i hi
    rw [hgd] at hi
    cases hi
  · intro i x _ hLi
    rw [hgd] at hLi
    cases hLi
  · have e : (fun i => (Array.replicate ops.size false).getD i false) = fun _ => false := funext hgd
    rw [e]
    have : mix ops S.tmps Sm.tmps (fun _ => false) = S.tmps := by
      obtain ⟨_,hlen,_⟩:=vops_keeps hrun
      apply nth_ext mix_length
      intro t
      rw [nth_mix hlen]
      unfold mixAt
      split
      · rename_i hany
        obtain ⟨i,o,_,hLi,_⟩:=any_iff.1 hany
        cases hLi
      · rfl
    rw [this]
    exact ⟨hat.st,h1,RepAll.mono h2.keeps _ _ hat.tmps,hat.defers⟩
end
end Go.Vm
end
/- Code, bodies, calls: what the evaluator says, the machine does. -/
section
namespace Go.Vm
open Go.RowKit (Below)
variable [Fixed]
variable {P:Program} {C:Ctx} {w:World}

def Ex.toExit:Ex→Exit
  | .normal => .normal
  | .exit id => .exit id
  | .ret => .ret

/-- Within a loop, ahead of a round. -/
def Within (P:Program) (c:Code) (Q:Exit→Act→World→Prop) (a:Act) (w:World):Prop :=
  ∀ (b:Frame) (k:List Item) (cs:List Frame),∃ e a' w',Q e a' w' ∧ Arrives P (lone (b.at a (.code c :: .inLoop c::k)) cs w) b k cs e a' w'
theorem within_round {c:Code} {Q:Exit→Act→World→Prop} {a:Act} {w:World} (h:c.wp P (Exit.then (Within P c Q) Q) a w):Within P c Q a w:=by
  intro b k cs
  obtain ⟨e,a₁,w₁,hq,harr⟩:=h b (.inLoop c::k) cs
  cases e with
  | normal =>
    obtain ⟨e₂,a₂,w₂,hq₂,harr₂⟩:=hq b k cs
    exact ⟨e₂,a₂,w₂,hq₂,.of_steps (Steps.trans harr (.one step_inLoop)) harr₂⟩
  | exit id=>exact ⟨_,a₁,w₁,hq,.pass (x := .inLoop c) rfl (fun _ _ => .inl (by simp)) harr⟩
  | goto l=>exact ⟨_,a₁,w₁,hq,.pass (x := .inLoop c) rfl (fun _ _ => .inl (by simp)) harr⟩
  | ret=>exact ⟨_,a₁,w₁,hq,.pass (x := .inLoop c) rfl (fun _ _ => .inl (by simp)) harr⟩
  | panic ch=>exact ⟨_,a₁,w₁,hq,.pass (x := .inLoop c) rfl (fun _ _ => .inl (by simp)) harr⟩
  | outgrown=>exact ⟨_,a₁,w₁,hq,.pass (x := .inLoop c) rfl (fun _ _ => .inl (by simp)) harr⟩
theorem wp_within {c:Code} {Q:Exit→Act→World→Prop} {a:Act} {w:World} (h:Within P c Q a w):(Code.loop c).wp P Q a w:=by
  intro b k cs
  obtain ⟨e,a',w',hq,harr⟩:=h b k cs
  exact ⟨e,a',w',hq,.of_steps (.one step_loop) harr⟩

theorem forgetT_rep:∀ {ts:List Nat} {vs:List AV} {us:List Value},RepAll C w vs us→RepAll C w (forgetT ts vs) us
  | [],_,_,h=>h
  | t :: ts, vs, us, h => by
    refine forgetT_rep (ts:=ts) ?_
    by_cases ht:t < us.length
    · have := h.set t (v := .any) (u := us[t]) (by simp only [Rep])
      rwa [List.set_getElem_self] at this
    · have := h.set t (v := .any) (u := undef) (by simp only [Rep])
      rwa [List.set_eq_of_length_le (by omega)] at this
theorem set_rep {C1:Ctx} {v:AV}:∀ {vs:List AV} {us:List Value} {t:Nat},RepAll C1 w vs us→(∀ u,us[t]? = some u→Rep C1 w v u)→RepAll C1 w (setN vs t v) us
  | [],[],_,_,_=>by simp only [setN,RepAll]
  | [],_::_,_,h,_=>by simp only [RepAll] at h
  | _::_,[],_,h,_=>by simp only [RepAll] at h
  | x :: vs, u :: us, 0, h, k => by
    simp only [RepAll] at h
    simp only [setN,RepAll]
    exact ⟨k u rfl,h.2⟩
  | x :: vs, u :: us, t + 1, h, k => by
    simp only [RepAll] at h
    simp only [setN,RepAll]
    exact ⟨h.1,set_rep h.2 fun u hu=>k u (by simpa using hu)⟩
theorem nth_at:∀ {vs:List AV} {us:List Value} {t:Nat},RepAll C w vs us→∃ u,Rep C w (nth vs t) u∧∀ u',us[t]? = some u' → u' = u
  | [],[],t,_=>⟨undef,by simp only [nth,Rep],fun u' h=>by simp at h⟩
  | [],_::_,_,h=>by simp only [RepAll] at h
  | _::_,[],_,h=>by simp only [RepAll] at h
  | x :: vs, u :: us, 0, h => by
    simp only [RepAll] at h
    exact ⟨u,h.1,fun u' h' => by simpa using h'.symm⟩
  | x :: vs, u :: us, t + 1, h => by
    simp only [RepAll] at h
    obtain ⟨u1,h1,h2⟩:=nth_at (t:=t) h.2
    exact ⟨u1,h1,fun u' h' => h2 u' (by simpa using h')⟩
theorem settle_at {ro:Nat} {a:Act} {ds:List Deferred}:∀ {ts:List Nat} {C:Ctx} {S S' : St},settle ro ts S=some S' → At C w S a ds→∃ C',At C' w S' a ds∧Grow ro C w C' w
  | [], C, S, S', h, hat => by
    simp only [settle,Option.some.injEq] at h
    subst h
    exact ⟨C,hat,Grow.refl ..⟩
  | t :: ts, C, S, S', h, hat => by
    simp only [settle] at h
    split at h
    · rename_i v σ hv
      obtain ⟨u,hu,hu2⟩:=nth_at (t:=t) hat.tmps
      rw [hat.st] at hv
      obtain ⟨C1,k1,k2,k3,k4,_⟩:=byValue1_run hat.ok hv hu
      have hat1:At C1 w ⟨setN S.tmps t v,σ⟩ a ds:=⟨k1.symm,k2,set_rep (RepAll.mono k3.keeps _ _ hat.tmps) (fun u' h' => by rw [hu2 u' h']; exact k4),hat.defers⟩
      obtain ⟨C2,j1,j2⟩:=settle_at h hat1
      exact ⟨C2,j1,Grow.trans k2 k3 j2⟩
    · cases h
theorem At.forget {S:St} {a:Act} {ds:List Deferred} (ts:List Nat) (h:At C w S a ds):At C w (forget ts S) a ds:=⟨h.st,h.ok,forgetT_rep h.tmps,h.defers⟩
theorem fin_at {ro:Nat} {a:Act} {ds:List Deferred} {ts fs ms:List Nat} {w1:World} {C1:Ctx} {S S' : St} (h:fin ro ts fs ms C.σ.length S=some S') (hat:At C1 w1 S a ds) (hg:Grow ro C w C1 w1):∃ C',At C' w1 S' a ds∧Grow ro C w C' w1:=by
  unfold fin at h
  split at h
  · rename_i S2 hs
    obtain ⟨C2,h1,h2⟩:=settle_at hs hat
    have h3:=Grow.trans hat.ok hg h2
    have h4:=h1.forget fs
    split at h
    · simp only [Option.some.injEq] at h
      subst h
      exact ⟨C2,h4,h3⟩
    · unfold trim at h
      split at h
      · rename_i hc
        rw [Bool.and_eq_true] at hc
        simp only [Option.some.injEq] at h
        subst h
        rw [h4.st] at hc
        obtain ⟨t1,t2,t3⟩:=take_ok (v := .tup (forget fs S2).tmps) (u := .tuple a.tmps.toList.toArray) rfl h4.ok h3 hc.2 (by simpa [AV.lt] using hc.1) (by simp only [Rep]; exact ⟨_,rfl,h4.tmps⟩)
        refine ⟨_,⟨by rw [h4.st],t1,?_,h4.defers⟩,t2⟩
        simp only [Rep] at t3
        obtain ⟨us,e,t3⟩:=t3
        have e1:a.tmps=us.toArray:=by simpa using e
        have e2:a.tmps.toList=us:=by rw [e1]
        rw [e2]
        exact t3
      · cases h
  · cases h
/-! ### a region that ends in 'alloc; store' -/
theorem RowIs.lt {C:Ctx} {id n:Nat} {p:Nat→Nat→Prop} (h:RowIs C id n p):id < C.σ.length:=by
  unfold RowIs at h
  cases ho:C.σ[id]? with
  | none=>rw [ho] at h; exact h.elim
  | some o=>exact (List.getElem?_eq_some_iff.1 ho).1
mutual
theorem Rep.lt {C:Ctx} {w:World}:∀ (v:AV) (u:Value),Rep C w v u→AV.lt C.σ.length v=true
  | .int _ _,_,_ | .bool _,_,_ | .str _,_,_ | .pnil,_,_ | .mnil,_,_ | .fnil,_,_ | .inil,_,_ | .undef,_,_ | .any,_,_ | .raw _,_,_ | .ptag _,_,_=>rfl
  | .ref id off, u, h => by
    simp only [Rep] at h
    obtain ⟨⟨cs,hc⟩,_⟩:=h
    simpa [AV.lt] using (List.getElem?_eq_some_iff.1 hc).1
  | .map id, u, h => by
    simp only [Rep] at h
    obtain ⟨⟨cs,hc⟩,_⟩:=h
    simpa [AV.lt] using (List.getElem?_eq_some_iff.1 hc).1
  | .eref id n off, u, h => by
    simp only [Rep] at h
    simpa [AV.lt] using RowIs.lt h.2
  | .own id n, u, h => by
    simp only [Rep] at h
    simpa [AV.lt] using RowIs.lt h.2
  | .list k n sz cs, u, h => by
    simp only [Rep] at h
    obtain ⟨h0,h1,a,cap,h2,h3,h4,h5,h6,h7⟩:=h
    simp only [AV.lt]
    by_cases hn:0 < n
    · obtain ⟨b, o, us, k1, k2, k3, k4, k5⟩ := h7 hn
      exact RepAll.lt cs us k5
    · have : cs = [] := by
        have:n=0:=by omega
        subst this
        exact List.eq_nil_of_length_eq_zero (by simpa using h0)
      subst this
      rfl
  | .eaddr cs, u, h => by
    simp only [Rep] at h
    obtain ⟨h1,b,o,us,k1,k2,k3,k4,k5⟩:=h
    simp only [AV.lt]
    exact RepAll.lt cs us k5
  | .clo f caps, u, h => by
    simp only [Rep] at h
    obtain ⟨us,e,h⟩:=h
    simp only [AV.lt]
    exact RepAll.lt caps us h
  | .agg cs, u, h => by
    simp only [Rep] at h
    obtain ⟨h1,us,e,h⟩:=h
    simp only [AV.lt]
    exact RepAll.lt cs us h
  | .tup cs, u, h => by
    simp only [Rep] at h
    obtain ⟨us,e,h⟩:=h
    simp only [AV.lt]
    exact RepAll.lt cs us h
  | .iface t v, u, h => by
    simp only [Rep] at h
    obtain ⟨x,e,h⟩:=h
    simp only [AV.lt]
    exact Rep.lt v x h
theorem RepAll.lt {C:Ctx} {w:World}:∀ (vs:List AV) (us:List Value),RepAll C w vs us→AV.ltAll C.σ.length vs=true
  | [],[],_=>rfl
  | v :: vs, u :: us, h => by
    simp only [RepAll] at h
    simp only [AV.ltAll,Rep.lt v u h.1,RepAll.lt vs us h.2,Bool.and_self]
  | [],_::_,h=>by simp only [RepAll] at h
  | _::_,[],h=>by simp only [RepAll] at h
end
theorem vops_app {X:Ext} (hX:ExtOk P X) {call:Caller} (hc:CallOk P call) {ro:Nat} {ops:Array Oper} {Q:Exit→Act→World→Prop} {ds:List Deferred} {l2:List Oper} {S' : St}:∀ (l:List Oper) {C:Ctx} {w:World} {S:St} {a:Act},
    vops P X call false ro ops l S=some S' → At C w S a ds→ro ≤ C.σ.length→(∀ C' w' a',At C' w' S' a' ds→Grow ro C w C' w' → wpList P ops Q l2 a' w')→wpList P ops Q (l ++ l2) a w
  | [], C, w, S, a, h, hat, _, hQ => by
    simp only [vops,Option.some.injEq] at h
    subst h
    exact hQ C w a hat (Grow.refl ..)
  | o :: l, C, w, S, a, h, hat, hro, hQ => by
    simp only [vops] at h
    simp only [List.cons_append,wpList]
    split at h
    · rename_i hw
      rw [if_pos (wanted_run hat.tmps hw)]
      split at h
      · rename_i v σ' hop
        left
        refine evOp_sound hX hc hop hat.st hat.ok hro hat.tmps ?_
        intro u w' C' hσ hs hg hv _
        simp only [Bool.false_eq_true,if_false] at h
        subst hσ
        exact vops_app hX hc l h (hat.step hs hg hv) (Nat.le_trans hro hg.len) (fun C'' w'' a'' h1 h2=>hQ C'' w'' a'' h1 (hg.trans hs h2))
      · cases h
    · rename_i hw
      have e:=wanted_run hat.tmps hw
      rw [if_neg (by rw [e]; simp)]
      refine vops_app hX hc l h ?_ hro hQ
      rw [hat.st]
      exact hat.step hat.ok (Grow.refl 0 C w) (by simp only [Rep])
    · cases h
theorem splitLast_eq:∀ {l ms:List Oper} {b:Oper},splitLast l=some (ms,b)→l=ms ++ [b]
  | [],_,_,h=>by simp [splitLast] at h
  | [x], ms, b, h => by
    simp only [splitLast,Option.some.injEq,Prod.mk.injEq] at h
    obtain ⟨rfl,rfl⟩:=h
    rfl
  | x :: y :: l, ms, b, h => by
    simp only [splitLast] at h
    split at h
    · rename_i ms' b' h'
      simp only [Option.some.injEq,Prod.mk.injEq] at h
      obtain ⟨rfl,rfl⟩:=h
      rw [splitLast_eq h',List.cons_append]
    · cases h
theorem splitBox_eq:∀ {l pre ms:List Oper} {a b:Oper},splitBox l=some (pre,a,ms,b)→l=pre ++ a::(ms ++ [b])
  | [],_,_,_,_,h=>by simp [splitBox] at h
  | x :: l, pre, ms, a, b, h => by
    simp only [splitBox] at h
    split at h
    · split at h
      · rename_i ms' b' h'
        simp only [Option.some.injEq,Prod.mk.injEq] at h
        obtain ⟨rfl,rfl,rfl,rfl⟩:=h
        rw [splitLast_eq h',List.nil_append]
      · cases h
    · split at h
      · rename_i pre' a' ms' b' h'
        simp only [Option.some.injEq,Prod.mk.injEq] at h
        obtain ⟨rfl,rfl,rfl,rfl⟩:=h
        rw [splitBox_eq h',List.cons_append]
      · cases h
theorem ev_setN {S:St} {d:Tmp} {v:AV} {σ:List Ob} {x:Operand} (h:isTmp d x=false):ev ⟨setN S.tmps d v,σ⟩ x=ev S x:=by
  cases x with
  | tmp t =>
    have hne : t ≠ d := by
      intro e
      subst e
      simp [isTmp] at h
    simp only [ev,nth_setN]
    split
    · rename_i hh
      exact absurd hh.1 hne
    · rfl
  | const _=>rfl
  | func _=>rfl
  | global _=>rfl
theorem setOb_last:∀ {σ:List Ob} {o o' : Ob},setOb (σ ++ [o]) σ.length o' = σ ++ [o']
  | [],_,_=>rfl
  | x::σ,o,o' => by simp only [List.cons_append,List.length_cons,setOb,setOb_last]
theorem set_rep2 {C1:Ctx} {v:AV} {u:Value}:∀ {vs:List AV} {us:List Value} {t:Nat},RepAll C1 w vs us→Rep C1 w v u→RepAll C1 w (setN vs t v) (us.set t u)
  | [],[],_,_,_=>by simp only [setN,List.set_nil,RepAll]
  | [],_::_,_,h,_=>by simp only [RepAll] at h
  | _::_,[],_,h,_=>by simp only [RepAll] at h
  | x :: vs, y :: us, 0, h, k => by
    simp only [RepAll] at h
    simp only [setN,List.set_cons_zero,RepAll]
    exact ⟨k,h.2⟩
  | x :: vs, y :: us, t + 1, h, k => by
    simp only [RepAll] at h
    simp only [setN,List.set_cons_succ,RepAll]
    exact ⟨h.1,set_rep2 h.2 k⟩
theorem midv_length {d:Tmp}:∀ {ms:List Oper} {S S' : St},midv d ms S=some S' → S'.tmps.length=S.tmps.length
  | [],S,S',h=>by simp only [midv,Option.some.injEq] at h; subst h; rfl
  | o :: ms, S, S', h => by
    simp only [midv] at h
    split at h
    · split at h
      · rw [midv_length h,setN_length]
      · cases h
    · cases h
theorem ev_list {T:List AV} {us:List Value} {σ:List Ob} {a:Act} {d:Tmp} {u1:Value} {x:Operand} {v:AV} (hT:RepAll C w T us) (ha:a.tmps.toList=us.set d u1) (hx:isTmp d x=false) (h:ev ⟨T,σ⟩ x=some v):Rep C w v (a.eval x):=by
  have h1:=ev_run (C:=C) (w:=w) (S:=⟨T,σ⟩) (a := { a with tmps:=us.toArray }) (by simpa using hT) h
  have e : ({ a with tmps := us.toArray } : Act).eval x = a.eval x := by
    cases x with
    | tmp t =>
      have hne : t ≠ d := by
        intro e
        subst e
        simp [isTmp] at hx
      have ea:a.tmps=(us.set d u1).toArray:=by rw [← ha]
      simp only [Act.eval,ea]
      simp [Array.getD,List.getElem_set_ne (Ne.symm hne)]
    | const _=>rfl
    | func _=>rfl
    | global _=>rfl
  rwa [e] at h1
theorem vbox_store {X:Ext} (hX:ExtOk P X) {call:Caller} (hc:CallOk P call) {ops:Array Oper} {Q:Exit→Act→World→Prop} {ds:List Deferred} {ro:Nat} {t:TypeId} {d:Tmp} {x:Operand} {p q:Oper} (hb:boxOps p q=some (t,d,x)) (hs:SOk C w) {z:AV} (hz:zerov P t=some z) {S' : St}
    {C1:Ctx} {w1:World} {u1:Value} (e1:C1.σ=C.σ ++ [.cells z.cells]) (hs1:SOk C1 w1) (hg1:Grow C.σ.length C w C1 w1) (hr1:Rep C1 w1 (.ref C.σ.length 0) u1) (hro:ro ≤ C.σ.length)
    (hQ:∀ C' w' a',At C' w' S' a' ds→Grow ro C w C' w' → Q .normal a' w') :
    ∀ (ms:List Oper) (T:List AV) (us:List Value) (a:Act) (S2:St),midv d ms ⟨T,C.σ⟩=some S2→vboxv P S2 t d x=some S' → RepAll C w T us→a.tmps.toList=us.set d u1→a.defers=ds→d < T.length→wpList P ops Q (ms ++ [q]) a w1
  | [], T, us, a, S2, hm, h, hT, ha, hdf, hd => by
    simp only [midv,Option.some.injEq] at hm
    subst hm
    unfold boxOps at hb
    split at hb
    case h_2=>cases hb
    rename_i t0 d0 t1 y0 x0 hp1 hp2 hp3 hq1 hq2 hq3
    split at hb
    case isFalse=>cases hb
    rename_i hcond
    obtain ⟨rfl,hy,hx⟩:=hcond
    simp only [Option.some.injEq,Prod.mk.injEq] at hb
    obtain ⟨rfl,rfl,rfl⟩:=hb
    have hy' : y0 = .tmp d0 := by
      cases y0 <;> simp [isTmp] at hy
      rw [hy]
    subst hy'
    unfold vboxv at h
    split at h
    case h_2=>cases h
    rename_i v z' hv hz'
    rw [hz] at hz'
    cases hz'
    split at h
    case isFalse=>cases h
    rename_i hk
    obtain ⟨hfl,hlen,hzl,hinf,_,hvg,_,_⟩:=hk
    simp only [Option.some.injEq] at h
    subst h
    have hlow1:=hg1.low
    have hT1 : RepAll C1 w1 (setN T d0 (.ref C.σ.length 0)) a.tmps.toList := by
      rw [ha]
      exact set_rep2 (RepAll.mono hg1.keeps _ _ hT) hr1
    have hat1:At C1 w1 ⟨setN T d0 (.ref C.σ.length 0),C1.σ⟩ a ds:=⟨rfl,hs1,hT1,hdf⟩
    have hw2:Region.wanted q (yielded ops a.tmps)=true:=by simp [Region.wanted,hq3]
    simp only [List.nil_append,wpList]
    rw [if_pos hw2]
    left
    have hop2 : evOp P X call false C.σ.length ⟨setN T d0 (.ref C.σ.length 0), C1.σ⟩ q = some (.undef, C.σ ++ [.cells v.cells]) := by
      unfold evOp
      rw [hq1]
      simp only [Bool.false_eq_true,if_false]
      have hev1 : ev ⟨setN T d0 (.ref C.σ.length 0), C1.σ⟩ (.tmp d0) = some (.ref C.σ.length 0) := by
        simp [ev,nth_setN,hd]
      have hev2 : ev ⟨setN T d0 (.ref C.σ.length 0), C1.σ⟩ x0 = some v := by
        rw [← hv]
        exact ev_setN (S:=⟨T,C.σ⟩) hx
      rw [hev1,hev2]
      have hget:(C.σ ++ [Ob.cells z.cells])[C.σ.length]? = some (.cells z.cells):=by simp
      have hov : overlay z.cells 0 v.cells = v.cells := by
        unfold overlay
        rw [List.take_zero,List.nil_append,Nat.zero_add,List.drop_eq_nil_of_le (by omega),List.append_nil]
      have hset:setOb (C.σ ++ [Ob.cells z.cells]) C.σ.length (.cells v.cells)=C.σ ++ [.cells v.cells]:=setOb_last
      simp only [storev,hfl,hlen,hinf,e1,hget,true_and,if_true]
      rw [if_pos ⟨Nat.le_refl _,by omega,hvg⟩,hov,hset]
    refine evOp_sound hX hc hop2 rfl hs1 (by rw [e1]; simp) hat1.tmps ?_
    intro u2 w2 C2 e2 hs2 hg2 _ _
    have hdef:(a.put q.dst u2).defers=ds:=(put_tmps _ _ _).2.trans hdf
    have hg:Grow C.σ.length C w C2 w2:=hg1.trans hs1 hg2
    obtain ⟨hs', hgC, _⟩ := more_heap hs ro hg.os hg.tape hg.output hg.size (fun b hb => hg.blk b hb (fun id o h1 h2 => by
      have:=(List.getElem?_eq_some_iff.1 h2).1
      omega))
    refine hQ C w2 _ ⟨rfl,hs',?_,hdef⟩ hgC
    have hq : (a.put q.dst u2).tmps.toList = us.set d0 u1 := by
      rw [(put_tmps _ _ _).1,hq2]
      exact ha
    rw [hq]
    have hold:=RepAll.mono hgC.keeps _ _ hT
    have hone:C2.σ[C.σ.length]? = some (.cells v.cells):=by rw [e2]; simp
    have hm:=hs2.ob _ _ hone
    simp only [ObOk] at hm
    obtain ⟨o1,us2,el,hm1,_,hm2⟩:=hm
    have hr2:Rep C2 w2 (.ref C.σ.length 0) u1:=Rep.mono hg2.keeps _ _ hr1
    simp only [Rep] at hr2
    obtain ⟨_,rfl⟩:=hr2
    have hvC:Rep C w v (a.eval x0):=ev_list hT ha hx hv
    have hvl : AV.ltAll C.σ.length v.cells = true := by
      have hone' : v.one = true ∨ ∃ cs, v = .agg cs := by
        cases v <;> simp [AV.flat,AV.one] at hfl ⊢
      exact RepAll.lt _ _ (hvC.cells hone').1
    have hagree : Agree C.σ.length C2 C w2 := by
      refine ⟨fun id h => ?_,fun b hb hm => ?_⟩
      · obtain ⟨k1, k2, k3⟩ := hg.low id h
        exact ⟨k1.symm,k2.symm,k3.symm⟩
      · rcases hm with hf | ⟨id, o, k1, k2, rfl⟩
        · exact .inl (by rw [hg.forb]; exact hf)
        · have hid := (List.getElem?_eq_some_iff.1 k1).1
          obtain ⟨j1,j2,_⟩:=hg.low id hid
          exact .inr ⟨id,o,by rw [j1]; exact k1,k2,j2⟩
    have hblt:C2.φ C.σ.length < w2.heap.size:=hs2.blk _ _ hone trivial
    have he : Rep C w2 (.eaddr v.cells) (.pointer (some ⟨C2.φ C.σ.length, 0, none⟩)) := by
      simp only [Rep]
      refine ⟨o1,C2.φ C.σ.length,0,us2,rfl,hblt,?_,?_,RepAll.swap hagree _ _ hvl hm2⟩
      · rintro (hf | ⟨id, o, k1, k2, k3⟩)
        · exact hs2.nof _ _ hone trivial (by rw [hg.forb]; exact hf)
        · have hid := (List.getElem?_eq_some_iff.1 k1).1
          obtain ⟨j1,j2,_⟩:=hg.low id hid
          have:=hs2.inj id C.σ.length o _ (by rw [j1]; exact k1) k2 hone trivial (by rw [j2]; exact k3)
          omega
      · intro i y hy
        unfold World.cell?
        simp only [hm1,Nat.zero_add]
        simpa using hy
    exact set_rep2 hold he
  | o :: ms, T, us, a, S2, hm, h, hT, ha, hdf, hd => by
    simp only [midv] at hm
    split at hm
    case h_2=>cases hm
    rename_i e y hok
    split at hm
    case h_2=>cases hm
    rename_i v hv
    have hopv : (∃ hg : o.guard = none, True) ∧ o.dst = some e ∧ e ≠ d ∧ isTmp d y = false ∧ (o.op = .assign y ∨ o.op = .move y) := by
      unfold midOk at hok
      split at hok
      · rename_i h1 h2 h3
        split at hok
        · rename_i hc2
          simp only [Option.some.injEq,Prod.mk.injEq] at hok
          obtain ⟨rfl,rfl⟩:=hok
          refine ⟨⟨h3,trivial⟩,h2,fun e => ?_,hc2.2,.inl h1⟩
          subst e
          simp at hc2
        · cases hok
      · rename_i h1 h2 h3
        split at hok
        · rename_i hc2
          simp only [Option.some.injEq,Prod.mk.injEq] at hok
          obtain ⟨rfl,rfl⟩:=hok
          refine ⟨⟨h3,trivial⟩,h2,fun e => ?_,hc2.2,.inr h1⟩
          subst e
          simp at hc2
        · cases hok
      · cases hok
    obtain ⟨⟨hg0,_⟩,hdst,hne,hy,hop⟩:=hopv
    have hw2:Region.wanted o (yielded ops a.tmps)=true:=by simp [Region.wanted,hg0]
    simp only [List.cons_append,wpList]
    rw [if_pos hw2]
    left
    have hrun : (execOp a.eval o).run P w1 = .ok (.value (a.eval y)) w1 := by
      rcases hop with hop | hop <;> simp only [execOp,hop,Sem.run_pure]
    refine wp_value hrun ?_
    have hlen:T.length=us.length:=RepAll.length hT
    refine vbox_store hX hc hb hs hz e1 hs1 hg1 hr1 hro hQ ms (setN T e v) (us.set e (a.eval y)) _ S2 hm h (set_rep2 hT (ev_list hT ha hy hv)) ?_ ((put_tmps _ _ _).2.trans hdf) (by rw [setN_length]; exact hd)
    rw [(put_tmps _ _ _).1,hdst]
    simp only
    rw [ha,List.set_comm _ _ hne.symm]
theorem vbox_two {X:Ext} (hX:ExtOk P X) {call:Caller} (hc:CallOk P call) {ops:Array Oper} {Q:Exit→Act→World→Prop} {ds:List Deferred} {ro:Nat} {S S2 S' : St} {a:Act} {p q:Oper} {ms:List Oper} {t:TypeId} {d:Tmp} {x:Operand} (hb:boxOps p q=some (t,d,x)) (hm:midv d ms S=some S2) (h:vboxv P S2 t d x=some S')
    (hat:At C w S a ds) (hro:ro ≤ C.σ.length) (hQ:∀ C' w' a',At C' w' S' a' ds→Grow ro C w C' w' → Q .normal a' w'):wpList P ops Q (p::(ms ++ [q])) a w:=by
  have hb' := hb
  unfold boxOps at hb'
  split at hb'
  case h_2=>cases hb'
  rename_i t0 d0 t1 y0 x0 hp1 hp2 hp3 hq1 hq2 hq3
  split at hb'
  case isFalse=>cases hb'
  rename_i hcond
  obtain ⟨rfl,hy,hx⟩:=hcond
  simp only [Option.some.injEq,Prod.mk.injEq] at hb'
  obtain ⟨rfl,rfl,rfl⟩:=hb'
  have hzz : ∃ z, zerov P t0 = some z ∧ d0 < S2.tmps.length ∧ headTag z.cells = false ∧ selfPtr P t0 = false := by
    unfold vboxv at h
    split at h
    · rename_i v z hv hz
      split at h
      · rename_i hk
        exact ⟨z,hz,hk.2.2.2.2.1,hk.2.2.2.2.2.2⟩
      · cases h
    · cases h
  obtain ⟨z,hz,hd2,hzg,hzs⟩:=hzz
  have hd:d0 < S.tmps.length:=by rw [midv_length hm] at hd2; exact hd2
  have hw1:Region.wanted p (yielded ops a.tmps)=true:=by simp [Region.wanted,hp3]
  simp only [wpList]
  rw [if_pos hw1]
  left
  have hop1 : evOp P X call false C.σ.length S p = some (.ref C.σ.length 0, C.σ ++ [.cells z.cells]) := by
    unfold evOp
    rw [hp1]
    simp only [hz,hat.st]
    rw [tagBox_id hzs,hzg]
    simp
  refine evOp_sound hX hc hop1 hat.st hat.ok (Nat.le_refl _) hat.tmps ?_
  intro u1 w1 C1 e1 hs1 hg1 hr1 _
  refine vbox_store hX hc hb hat.ok hz e1 hs1 hg1 hr1 hro hQ ms S.tmps a.tmps.toList _ S2 ?_ h hat.tmps ?_ ((put_tmps _ _ _).2.trans hat.defers) hd
  · rw [← hm,← hat.st]
  · rw [(put_tmps _ _ _).1,hp2]
section
variable {X:Ext} {call:Caller} {ro lf:Nat} {fg:Nat→List Nat} {ds:List Deferred}

/-- What is to be shown of a piece of code. -/
def Sound (P:Program) (X:Ext) (call:Caller) (lf ro:Nat) (fg:Nat→List Nat) (ds:List Deferred) (c:Code):Prop :=
  ∀ (C : Ctx) (w : World) (S S' : St) (a : Act) (x : Ex) (Q : Exit → Act → World → Prop), vexec P X call lf ro fg c S = some (x, S') → At C w S a ds → ro ≤ C.σ.length →
    (∀ C' w' a',At C' w' S' a' ds→Grow ro C w C' w' → Q x.toExit a' w')→c.wp P Q a w

theorem iter_sound {ts:List Nat} {c:Code} (hc:Sound P X call lf ro fg ds c):∀ (n:Nat) (C:Ctx) (w:World) (S S' : St) (a:Act) (x:Ex) (Q:Exit→Act→World→Prop),iter (fun S=>vexec P X call lf ro fg c (forget ts S)) n S=some (x,S')→At C w S a ds→ro ≤ C.σ.length →
    (∀ C' w' a',At C' w' S' a' ds→Grow ro C w C' w' → Q x.toExit a' w')→Within P c Q a w
  | 0,_,_,_,_,_,_,_,h,_,_,_=>by simp [iter] at h
  | n + 1, C, w, S, S', a, x, Q, h, hat, hro, hQ => by
    simp only [iter] at h
    apply within_round
    cases hv:vexec P X call lf ro fg c (forget ts S) with
    | none=>rw [hv] at h; cases h
    | some r =>
      obtain ⟨y,S1⟩:=r
      rw [hv] at h
      refine hc C w _ S1 a y _ hv (hat.forget ts) hro ?_
      intro C1 w1 a1 hat1 hg1
      cases y with
      | normal =>
        exact iter_sound hc n C1 w1 S1 S' a1 x Q h hat1 (Nat.le_trans hro hg1.len) fun C2 w2 a2 hat2 hg2=>hQ C2 w2 a2 hat2 (hg1.trans hat1.ok hg2)
      | exit id =>
        simp only [Option.some.injEq,Prod.mk.injEq] at h
        obtain ⟨rfl,rfl⟩:=h
        exact hQ C1 w1 a1 hat1 hg1
      | ret =>
        simp only [Option.some.injEq,Prod.mk.injEq] at h
        obtain ⟨rfl,rfl⟩:=h
        exact hQ C1 w1 a1 hat1 hg1

theorem vexec_sound (hX:ExtOk P X) (hcall:CallOk P call):∀ (c:Code),codeOk c=true→Sound P X call lf ro fg ds c
  | .skip, _ => by
    intro C w S S' a x Q h hat hro hQ
    simp only [vexec,Option.some.injEq,Prod.mk.injEq] at h
    obtain ⟨rfl,rfl⟩:=h
    exact wp_skip (hQ C w a hat (Grow.refl ..))
  | .region id ops dr, hok => by
    intro C w S S' a x Q h hat hro hQ
    simp only [vexec] at h
    split at h
    case h_2 =>
      cases dr with
      | true=>cases h
      | false =>
        simp only at h
        split at h
        · rename_i S1 hv
          simp only [Option.some.injEq,Prod.mk.injEq] at h
          obtain ⟨rfl,rfl⟩:=h
          unfold vbox at hv
          split at hv
          · rename_i pre p ms q hsp
            split at hv
            · rename_i t d y hbx
              split at hv
              · rename_i S2 hpre
                split at hv
                · rename_i S3 hmid
                  refine wp_region_list ?_
                  rw [splitBox_eq hsp]
                  refine vops_app hX hcall pre hpre hat hro fun C1 w1 a1 h1 h2 => ?_
                  refine vbox_two hX hcall hbx hmid hv h1 (Nat.le_trans hro h2.len) fun C2 w2 a2 h3 h4 => ?_
                  exact hQ C2 w2 a2 (h3.forget _) (h2.trans h1.ok h4)
                · cases hv
              · cases hv
            · cases hv
          · cases hv
        · cases h
    split at h
    · rename_i S1 hv
      split at h
      case h_2=>cases h
      rename_i S2 hset
      simp only [Option.some.injEq,Prod.mk.injEq] at h
      obtain ⟨rfl,rfl⟩:=h
      have hQ : ∀ C' w' a', At C' w' S1 a' ds → Grow ro C w C' w' → Q .normal a' w' := fun C' w' a' h1 h2 => by
        rw [hat.st] at hset
        obtain ⟨C2,h3,h4⟩:=fin_at hset h1 h2
        exact hQ C2 w' a' h3 h4
      unfold vreg at hv
      cases htl:tailL (fg (2000 + id)) with
      | some m =>
        rw [htl] at hv
        simp only at hv
        split at hv
        · rename_i hcn
          simp only [Bool.and_eq_true] at hcn
          obtain ⟨⟨rfl,htk⟩,hms⟩:=hcn
          split at hv
          · rename_i S1' hpre
            exact draw_tail hX.mixed hX hcall (by simpa [codeOk] using hok) (Nat.le_of_ble_eq_true hms) hpre htk hat hro fun w1 a1 hat1 hg1 =>
              vops_sound hX hcall _ hv hat1 hro fun C' w' a' h1 h2=>hQ C' w' a' h1 (hg1.trans hat1.ok h2)
          · cases hv
        · cases hv
      | none =>
      rw [htl] at hv
      simp only at hv
      cases dr with
      | false=>exact wp_region_list (vops_sound hX hcall ops.toList (by simpa using hv) hat hro fun C' w' a' h1 h2=>hQ C' w' a' h1 h2)
      | true =>
        rw [Bool.true_and] at hv
        cases hch:effChain (fg (2000 + id)) ops with
        | false =>
          rw [hch] at hv
          exact draw_sound hX.mixed hX hcall (by simpa [codeOk] using hok) hv hat hro (fun w' a' h1 h2=>hQ C w' a' h1 h2)
        | true =>
          rw [hch] at hv
          exact mixreg_sound hX.mixed hX hcall (by simpa [codeOk] using hok) hch hv hat hro (fun C' w' a' h1 h2=>hQ C' w' a' h1 h2)
    · cases h
  | .seq c d, hok => by
    intro C w S S' a x Q h hat hro hQ
    simp only [codeOk,Bool.and_eq_true] at hok
    simp only [vexec] at h
    apply wp_seq
    cases hv:vexec P X call lf ro fg c S with
    | none=>rw [hv] at h; cases h
    | some r =>
      obtain ⟨y,S1⟩:=r
      rw [hv] at h
      refine vexec_sound hX hcall c hok.1 C w S S1 a y _ hv hat hro ?_
      intro C1 w1 a1 hat1 hg1
      cases y with
      | normal=>exact vexec_sound hX hcall d hok.2 C1 w1 S1 S' a1 x Q h hat1 (Nat.le_trans hro hg1.len) fun C2 w2 a2 hat2 hg2=>hQ C2 w2 a2 hat2 (hg1.trans hat1.ok hg2)
      | exit id =>
        simp only [Option.some.injEq,Prod.mk.injEq] at h
        obtain ⟨rfl,rfl⟩:=h
        exact hQ C1 w1 a1 hat1 hg1
      | ret =>
        simp only [Option.some.injEq,Prod.mk.injEq] at h
        obtain ⟨rfl,rfl⟩:=h
        exact hQ C1 w1 a1 hat1 hg1
  | .cond y c d, hok => by
    intro C w S S' a x Q h hat hro hQ
    simp only [codeOk,Bool.and_eq_true] at hok
    simp only [vexec] at h
    split at h
    · rename_i he
      have:=ev_run hat.tmps he
      simp only [Rep] at this
      exact wp_cond_true this (vexec_sound hX hcall c hok.1 C w S S' a x Q h hat hro hQ)
    · rename_i he
      have:=ev_run hat.tmps he
      simp only [Rep] at this
      exact wp_cond_false this (vexec_sound hX hcall d hok.2 C w S S' a x Q h hat hro hQ)
    · cases h
  | .block id c, hok => by
    intro C w S S' a x Q h hat hro hQ
    simp only [codeOk] at hok
    simp only [vexec] at h
    apply wp_block
    cases hv:vexec P X call lf ro fg c S with
    | none=>rw [hv] at h; cases h
    | some r =>
      obtain ⟨y,S1⟩:=r
      rw [hv] at h
      refine vexec_sound hX hcall c hok C w S S1 a y _ hv hat hro ?_
      intro C1 w1 a1 hat1 hg1
      cases y with
      | normal =>
        simp only [Option.some.injEq,Prod.mk.injEq] at h
        obtain ⟨rfl,rfl⟩:=h
        exact hQ C1 w1 a1 hat1 hg1
      | ret =>
        simp only [Option.some.injEq,Prod.mk.injEq] at h
        obtain ⟨rfl,rfl⟩:=h
        exact hQ C1 w1 a1 hat1 hg1
      | exit id' =>
        simp only at h
        simp only [Ex.toExit,Exit.inBlock]
        split at h
        · rename_i hid
          simp only [Option.some.injEq,Prod.mk.injEq] at h
          obtain ⟨rfl,rfl⟩:=h
          rw [if_pos hid]
          exact hQ C1 w1 a1 hat1 hg1
        · rename_i hid
          simp only [Option.some.injEq,Prod.mk.injEq] at h
          obtain ⟨rfl,rfl⟩:=h
          rw [if_neg hid]
          exact hQ C1 w1 a1 hat1 hg1
  | .loop c, hok => by
    intro C w S S' a x Q h hat hro hQ
    simp only [codeOk] at hok
    simp only [vexec] at h
    exact wp_within (iter_sound (vexec_sound hX hcall c hok) lf C w S S' a x Q h hat hro hQ)
  | .exit id, _ => by
    intro C w S S' a x Q h hat hro hQ
    simp only [vexec,Option.some.injEq,Prod.mk.injEq] at h
    obtain ⟨rfl,rfl⟩:=h
    exact wp_exit (hQ C w a hat (Grow.refl ..))
  | .ret, _ => by
    intro C w S S' a x Q h hat hro hQ
    simp only [vexec,Option.some.injEq,Prod.mk.injEq] at h
    obtain ⟨rfl,rfl⟩:=h
    exact wp_ret (hQ C w a hat (Grow.refl ..))
  | .rangeFunc ..,_=>by intro C w S S' a x Q h; simp [vexec] at h
  | .label _,_=>by intro C w S S' a x Q h; simp [vexec] at h
  | .goto _,_=>by intro C w S S' a x Q h; simp [vexec] at h
  | .scope ..,_=>by intro C w S S' a x Q h; simp [vexec] at h
  | .refuse ..,_=>by intro C w S S' a x Q h; simp [vexec] at h
end
end Go.Vm
end
/- Bodies and calls: what the evaluator says of a call, the machine does. -/
section
namespace Go.Vm
open Go.RowKit (Below)
variable [Fixed]
variable {P:Program} {C:Ctx} {w:World}

def resOp (tmps:Array Value):ResultVar→Sem Value
  | .tmp t=>pure (tmps.getD t undef)
  | .cell x t=>do loadVar t (← asAddr (tmps.getD x undef))
theorem results_eq (fn:Func) (tmps:Array Value):results fn tmps=(do let vs ← fn.results.mapM (resOp tmps); pure (if h:vs.size=1 then vs[0] else .tuple vs)):=by
  unfold results
  congr 1
mutual
theorem thaw_same {σ:List Ob}:∀ (v v' : AV),AV.owns v=[]→AV.thaw σ v=some v' → v' = v:=by
  intro v v' ho h
  match v with
  | .own id n=>simp [AV.owns] at ho
  | .list k n sz cs =>
    simp only [AV.thaw] at h
    simp only [AV.owns] at ho
    split at h
    · rename_i cs' hcs
      simp only [Option.some.injEq] at h
      rw [← h,thawAll_same cs cs' ho hcs]
    · cases h
  | .agg cs =>
    simp only [AV.thaw] at h
    simp only [AV.owns] at ho
    split at h
    · rename_i cs' hcs
      simp only [Option.some.injEq] at h
      rw [← h,thawAll_same cs cs' ho hcs]
    · cases h
  | .tup cs =>
    simp only [AV.thaw] at h
    simp only [AV.owns] at ho
    split at h
    · rename_i cs' hcs
      simp only [Option.some.injEq] at h
      rw [← h,thawAll_same cs cs' ho hcs]
    · cases h
  | .int _ _ | .bool _ | .str _ | .pnil | .mnil | .fnil | .inil | .undef | .any | .raw _ | .ptag _ | .ref _ _ | .eref _ _ _ | .map _ | .eaddr _ | .clo _ _ | .iface _ _ =>
    simp only [AV.thaw,Option.some.injEq] at h
    exact h.symm
theorem thawAll_same {σ:List Ob}:∀ (vs vs' : List AV),AV.ownsAll vs=[]→AV.thawAll σ vs=some vs' → vs' = vs:=by
  intro vs vs' ho h
  match vs with
  | []=>simp only [AV.thawAll,Option.some.injEq] at h; exact h.symm
  | v :: vs =>
    simp only [AV.ownsAll,List.append_eq_nil_iff] at ho
    simp only [AV.thawAll] at h
    split at h
    · rename_i x xs h1 h2
      simp only [Option.some.injEq] at h
      rw [← h,thaw_same v x ho.1 h1,thawAll_same vs xs ho.2 h2]
    · cases h
end

theorem resultv_run {S:St} {a:Act} (hs:SOk C w) (ht:RepAll C w S.tmps a.tmps.toList) (hσ:S.st=C.σ) {r:ResultVar} {v:AV} (h:resultv P S r=some v) :
    ∃ u,(resOp a.tmps r).run P w = .ok u w∧Rep C w v u:=by
  have hget:∀ t,a.tmps.toList.getD t undef=a.tmps.getD t undef:=by intro t; simp
  cases r with
  | tmp t =>
    simp only [resultv,Option.some.injEq] at h
    subst h
    exact ⟨_,rfl,by rw [← hget]; exact nth_rep t ht⟩
  | cell x t =>
    simp only [resultv] at h
    rw [hσ] at h
    have hx:=nth_rep x ht
    rw [hget] at hx
    have hx' := hx
    unfold loadv at h
    split at h
    · rename_i cs hcs
      obtain ⟨b,o,us,e,_⟩:=cellsAt_run hs hcs hx
      have h' : loadv P t C.σ (nth S.tmps x) = some v := by
        unfold loadv
        rw [hcs]
        exact h
      obtain ⟨z,k1,k2⟩:=loadv_run (P:=P) hs h' hx'
      refine ⟨z,?_,k2⟩
      simp only [resOp]
      rw [e] at k1 ⊢
      simp only [Instr.loadAt,Instr.sureAddr,Sem.run_bind,Sem.run_pure,Result.andThen] at k1
      simp only [asAddr,Sem.run_bind,Sem.run_pure,Result.andThen]
      exact k1
    · cases h
theorem resultsv_run {S:St} {a:Act} (hs:SOk C w) (ht:RepAll C w S.tmps a.tmps.toList) (hσ:S.st=C.σ):∀ {rs:List ResultVar} {vs:List AV},resultsv P S rs=some vs →
    ∃ us,(rs.mapM (resOp a.tmps)).run P w = .ok us w∧RepAll C w vs us
  | [], vs, h => by
    simp only [resultsv,Option.some.injEq] at h
    subst h
    exact ⟨[],rfl,by simp only [RepAll]⟩
  | r :: rs, vs, h => by
    simp only [resultsv] at h
    split at h
    · rename_i v vs' h1 h2
      simp only [Option.some.injEq] at h
      subst h
      obtain ⟨u,k1,k2⟩:=resultv_run (P:=P) hs ht hσ h1
      obtain ⟨us,k3,k4⟩:=resultsv_run hs ht hσ h2
      refine ⟨u::us,?_,by simp only [RepAll]; exact ⟨k2,k4⟩⟩
      rw [List.mapM_cons]
      simp only [Sem.run_bind,k1,Result.andThen,k3,Sem.run_pure]
    · cases h
def oneVal:List Value→Value
  | [u]=>u
  | us => .tuple us.toArray
theorem results_run {S:St} {a:Act} {fn:Func} (hs:SOk C w) (ht:RepAll C w S.tmps a.tmps.toList) (hσ:S.st=C.σ) {vs:List AV} (h:resultsv P S fn.results.toList=some vs) :
    ∃ us,(results fn a.tmps).run P w = .ok (oneVal us) w∧RepAll C w vs us:=by
  obtain ⟨us,h1,h2⟩:=resultsv_run (P:=P) hs ht hσ h
  refine ⟨us,?_,h2⟩
  have e : (fn.results.mapM (resOp a.tmps)).run P w = .ok us.toArray w := by
    rw [← Array.toArray_toList (xs:=fn.results),List.mapM_toArray,Sem.run_map]
    rw [h1]
    rfl
  rw [results_eq,Sem.run_bind,e]
  simp only [Result.andThen]
  match us with
  | []=>rfl
  | [u]=>rfl
  | u::u' :: us=>rfl
theorem oneOf_rep {vs:List AV} {us:List Value} (h:RepAll C w vs us):Rep C w (oneOf vs) (oneVal us):=by
  match vs,us with
  | [],[]=>simp only [oneOf,oneVal,Rep]; exact ⟨[],rfl,by simp only [RepAll]⟩
  | [v],[u]=>simp only [RepAll] at h; exact h.1
  | v::v' :: vs,u::u' :: us=>simp only [oneOf,oneVal,Rep]; exact ⟨_,rfl,h⟩
  | [],_::_=>simp only [RepAll] at h
  | _::_,[]=>simp only [RepAll] at h
  | [_],_::_::_=>simp only [RepAll] at h; exact h.2.elim
  | _::_::_,[_]=>simp only [RepAll] at h; exact h.2.elim
theorem fresh_unfr1 {C:Ctx} {w w' : World} {v:AV} {u:Value}:Fresh C w w' (unfr1 v) u ∨ ∃ vs,v = .tup vs:=by
  cases v
  case tup vs=>exact .inr ⟨vs,rfl⟩
  case list k n sz cs=>left; cases k <;> simp [unfr1,Fresh]
  all_goals (left; simp [unfr1,Fresh])
theorem fresh_unfr {C:Ctx} {w w' : World} {v:AV} {u:Value}:Fresh C w w' (unfr v) u:=by
  unfold unfr
  split
  · rename_i v vs
    cases v
    case list k n sz cs=>cases k <;> simp [unfr1,Fresh]
    all_goals simp [unfr1,Fresh]
  · rename_i hv
    rcases fresh_unfr1 (C:=C) (w:=w) (w' := w') (v:=v) (u:=u) with h | ⟨vs,e⟩
    · exact h
    · subst e
      cases vs with
      | nil=>simp [unfr1,Fresh]
      | cons v vs=>exact (hv v vs rfl).elim

/-- The end of a body. -/
theorem vend_run {fn:Func} {σ0:List Ob} {ro:Nat} {S:St} {a:Act} {r:AV} {σ' : List Ob} {C0:Ctx} {w0:World} (h:vend P fn σ0 ro S=some (r,σ')) (hat:At C w S a []) (h0:C0.σ=σ0) (hg:Grow ro C0 w0 C w) :
    ∃ u C',(results fn a.tmps).run P w = .ok u w∧C'.σ=σ' ∧ SOk C' w∧Grow ro C0 w0 C' w∧Rep C' w r u∧Fresh C' w0 w r u:=by
  unfold vend at h
  split at h
  · rename_i rs hrs
    unfold vend1 at h
    split at h
    · rename_i ws σ1 hth hfz
      simp only [Option.some.injEq,Prod.mk.injEq] at h
      obtain ⟨hr,rfl⟩:=h
      obtain ⟨us,k1,k2⟩:=results_run (P:=P) hat.ok hat.tmps hat.st hrs
      rw [hat.st] at hth hfz
      obtain ⟨f1,f2,f3⟩:=freeze_thaw hat.ok hfz
      have hws:=thawAll_rep f1 f2.keeps rs ws us hth f3 k2
      have plain : r = unfr (oneOf ws) → ∃ u C', (results fn a.tmps).run P w = .ok u w ∧ C'.σ = σ1 ∧ SOk C' w ∧ Grow ro C0 w0 C' w ∧ Rep C' w r u ∧ Fresh C' w0 w r u := by
        intro e
        subst e
        exact ⟨_,_,k1,rfl,f1,hg.trans hat.ok f2,unfr_rep (oneOf_rep hws),fresh_unfr⟩
      unfold resOf at hr
      split at hr
      · rename_i id n rs' k n' sz cs ws'
        rw [hat.st] at hr
        split at hr
        · rename_i n2 sz2 cs2 ho
          split at hr
          · rename_i hown
            subst hr
            -- the row's place
            cases us with
            | nil=>simp only [RepAll] at k2
            | cons u0 us =>
              simp only [RepAll] at k2 hws
              obtain ⟨hu0,hus⟩:=k2
              have hthaw : n = n2 ∧ sz = sz2 ∧ cs = cs2 ∧ n = n' := by
                simp only [AV.thawAll,AV.thaw,ho] at hth
                split at hth
                · rename_i x xs hx _
                  split at hx
                  · rename_i hn
                    simp only [Option.some.injEq] at hx
                    simp only [Option.some.injEq,List.cons.injEq] at hth
                    rw [← hx] at hth
                    simp only [AV.list.injEq] at hth
                    exact ⟨hn.symm,hth.1.2.2.1.symm,hth.1.2.2.2.symm,hth.1.2.1⟩
                  · cases hx
                · cases hth
              obtain ⟨e1,rfl,rfl,e4⟩:=hthaw
              subst e1
              subst e4
              obtain ⟨g0,g1,gn,gm,us1,vs1,e1,gX,glen,grep⟩:=hat.ok.ob id _ ho
              have hu0' : u0 = .slice (some ⟨C.φ id, 0, none⟩) n (C.κ id) := by
                simp only [Rep] at hu0
                have:=hu0.2
                unfold RowIs at this
                rw [ho] at this
                exact this.2 rfl
              have hblt:=hat.ok.blk _ _ ho trivial
              have hbge : w0.heap.size ≤ C.φ id := by
                rcases Nat.lt_or_ge (C.φ id) w0.heap.size with hlt | hge
                · have hm := hg.may _ hlt (.inr ⟨id, _, ho, trivial, rfl⟩)
                  rcases hm with hf | ⟨j,oj,hj,_⟩
                  · exact (hat.ok.nof _ _ ho trivial (by rw [hg.forb]; exact hf)).elim
                  · rw [h0] at hj; simp at hj
                · exact hge
              -- the context in which the row's block is barred
              let C2:Ctx:=⟨σ1,C.φ,C.κ,C.forb⟩
              have hmay : ∀ b, Mut (C2.bar (C.φ id)) b → Mut C b := by
                rintro b ((hf | rfl) | ⟨j,oj,hj,hlj,hp⟩)
                · exact .inl hf
                · exact .inr ⟨id,_,ho,trivial,rfl⟩
                · by_cases hb : b < w.heap.size
                  · exact f2.may b hb (.inr ⟨j,oj,hj,hlj,hp⟩)
                  · have : b < w.heap.size := by rw [← hp]; exact f1.blk j oj hj hlj
                    exact absurd this hb
              have hkeep:Keeps C w (C2.bar (C.φ id)) w:=⟨Nat.le_refl _,fun _ _ _=>rfl,fun b _ h=>hmay b h,f2.turn⟩
              have hws' : ws' = rs' := by
                simp only [AV.thawAll] at hth
                split at hth
                · rename_i x xs _ hxs
                  simp only [Option.some.injEq,List.cons.injEq] at hth
                  rw [← hth.2]
                  exact thawAll_same _ _ hown hxs
                · cases hth
              subst hws'
              have hnew:NewRow C2 w0 w n sz cs u0 (C.φ id):=⟨C.κ id,us1,vs1,e1,hu0',hbge,gn,gm,gX,glen,RepAll.mono hkeep _ _ grep⟩
              refine ⟨oneVal (u0::us),C2,k1,rfl,f1,hg.trans hat.ok f2,?_,?_⟩
              · apply oneOf_rep
                simp only [RepAll]
                refine ⟨?_,hws.2⟩
                have h0r:=hws.1
                simp only [Rep] at h0r ⊢
                obtain ⟨q0,q1,a1,cap1,q2,q3,q4,_,_,q7⟩:=h0r
                exact ⟨q0,q1,a1,cap1,q2,q3,q4,by simp,by simp,q7⟩
              · cases ws' with
                | nil =>
                  cases us with
                  | nil=>exact ⟨_,hnew⟩
                  | cons _ _=>simp only [RepAll] at hus
                | cons v vs =>
                  cases us with
                  | nil=>simp only [RepAll] at hus
                  | cons u1 us=>exact ⟨_,u0,u1::us,rfl,hnew,RepAll.mono hkeep _ _ hus⟩
          · exact plain hr.symm
        · exact plain hr.symm
      · exact plain hr.symm
    · cases h
  · cases h
/-- What is to be shown of one call. -/
def CallAt (P:Program) (f:FuncId) (vs:List AV) (σ:List Ob) (ro:Nat) (r:AV) (σ' : List Ob):Prop :=
  Bodied P f ∧ ∀ (C : Ctx) (w : World) (us : List Value), C.σ = σ → SOk C w → ro ≤ σ.length → RepAll C w vs us →
    Calls P f us.toArray w fun e w' => ∃ u C',e = .returned u∧C'.σ=σ' ∧ SOk C' w' ∧ Grow ro C w C' w' ∧ Rep C' w' r u∧Fresh C' w w' r u
theorem body_at {X:Ext} (hX:ExtOk P X) {call:Caller} (hcall:CallOk P call) {f:FuncId} {fn:Func} {c:Code} {lf:Nat} {fg:Nat→List Nat} {vs:List AV} {σ:List Ob} {ro:Nat} {r:AV} {σ' : List Ob}
    (hdom:X.dom f=true) (hf:P.funcs[f]? = some fn) (hb:fn.body=some c) (h:vbody P X call lf fg fn c vs σ ro=some (r,σ')):CallAt P f vs σ ro r σ' := by
  obtain ⟨hname,hcode⟩:=hX.dom f fn hdom hf
  refine ⟨⟨fn,hf,by rw [hb]; rfl,hname⟩,?_⟩
  intro C w us hσ hs hro hr
  unfold vbody at h
  have hat : At C w { tmps := vs ++ List.replicate (fn.ntmps - vs.length) .undef, st := σ } { tmps := us.toArray ++ Array.replicate (fn.ntmps - us.toArray.size) undef, defers := [] } [] := by
    refine ⟨hσ.symm,hs,?_,rfl⟩
    have hrep : ∀ k, RepAll C w (List.replicate k AV.undef) (List.replicate k undef) := by
      intro k
      induction k with
      | zero=>simp only [List.replicate_zero,RepAll]
      | succ k ih=>simp only [List.replicate_succ,RepAll,Rep]; exact ⟨trivial,ih⟩
    have:=hr.append (hrep (fn.ntmps - vs.length))
    have e:fn.ntmps - us.length=fn.ntmps - vs.length:=by rw [hr.length]
    simpa [e] using this
  have fin : ∀ (x : Ex) (S : St), vexec P X call lf ro fg c { tmps := vs ++ List.replicate (fn.ntmps - vs.length) .undef, st := σ } = some (x, S) → (x = .normal ∨ x = .ret) → vend P fn σ ro S = some (r, σ') →
      Calls P f us.toArray w fun e w' => ∃ u C',e = .returned u∧C'.σ=σ' ∧ SOk C' w' ∧ Grow ro C w C' w' ∧ Rep C' w' r u∧Fresh C' w w' r u:=by
    intro x S hx hxx hend
    refine calls_of_wp hf hb (vexec_sound hX hcall c (hcode c hb) C w _ S _ x _ hx hat (by rw [hσ]; exact hro) ?_)
    intro C1 w1 a1 hat1 hg1
    obtain ⟨u,C',e1,e2,e3,e4,e5,e6⟩:=vend_run hend hat1 hσ hg1
    rcases hxx with rfl | rfl <;> exact ⟨hat1.defers,u,e1,u,C',rfl,e2,e3,e4,e5,e6⟩
  split at h
  · rename_i S hx
    exact fin _ S hx (.inl rfl) h
  · rename_i S hx
    exact fin _ S hx (.inr rfl) h
  · cases h
/-! ### calls that get no names, told by a specification -/
abbrev Spec:=FuncId→List AV→Option AV
def callerOf (T:Spec):Caller:=fun f vs σ _=>match σ with
  | [] => match T f vs with
    | some r=>some (r,[])
    | none=>none
  | _::_=>none
def SpecOk (P:Program) (T:Spec):Prop:=∀ f vs r,T f vs=some r→CallAt P f vs [] 0 r []
theorem callerOf_ok {T:Spec} (h:SpecOk P T):CallOk P (callerOf T):=by
  intro f vs σ ro r σ' hc
  unfold callerOf at hc
  split at hc
  · split at hc
    · rename_i x hx
      simp only [Option.some.injEq,Prod.mk.injEq] at hc
      obtain ⟨rfl,rfl⟩:=hc
      obtain ⟨h1,h2⟩:=h f vs x hx
      refine ⟨h1,fun C w us hσ hs hro hr => ?_⟩
      have:ro=0:=by simpa using hro
      subst this
      exact h2 C w us hσ hs hro hr
    · cases hc
  · cases hc
/-- What came to be in the call is left away. -/
theorem CallAt.clean {f:FuncId} {vs:List AV} {r:AV} {σ' : List Ob} (hp:r.pure=true) (h:CallAt P f vs [] 0 r σ'):CallAt P f vs [] 0 r []:=by
  refine ⟨h.1,fun C w us hσ hs hro hr=>Calls.mono (h.2 C w us hσ hs hro hr) ?_⟩
  rintro e w' ⟨u,C',rfl,rfl,hs',hg,hru,hf⟩
  obtain ⟨t1,t2,t3⟩:=take_ok (m:=0) (by rw [hσ]; rfl) hs' hg (by simp [ltObs]) hp hru
  refine ⟨u,_,rfl,by simp,t1,t2,t3,?_⟩
  have hag : ∀ b, Agree 0 (C'.bar b) ((⟨C'.σ.take 0, C'.φ, C'.κ, C'.forb⟩ : Ctx).bar b) w' := by
    intro b
    refine ⟨fun _ h=>absurd h (by omega),?_⟩
    rintro x _ (hf | ⟨id,o,h1,_⟩)
    · exact .inl hf
    · simp [Ctx.bar] at h1
  have hrow : ∀ {n sz : Nat} {cs : List AV} {u : Value} {b : Nat}, AV.ltAll 0 cs = true → NewRow C' w w' n sz cs u b → NewRow ⟨C'.σ.take 0, C'.φ, C'.κ, C'.forb⟩ w w' n sz cs u b := by
    rintro n sz cs u b hp ⟨cap,us,vs,e,h1,h2,h3,h4,h5,h6,h7⟩
    exact ⟨cap,us,vs,e,h1,h2,h3,h4,h5,h6,RepAll.swap (hag b) _ _ hp h7⟩
  cases r
  case list k n sz cs =>
    cases k <;> simp only [Fresh] at hf ⊢
    obtain ⟨b,hb⟩:=hf
    exact ⟨b,hrow (by simpa [AV.pure,AV.lt] using hp) hb⟩
  case tup vs =>
    cases vs with
    | nil=>simp [Fresh]
    | cons v vs =>
      cases v
      case list k n sz cs =>
        cases k <;> simp only [Fresh] at hf ⊢
        obtain ⟨b,u0,us,e,hb,hrest⟩:=hf
        simp only [AV.pure,AV.lt,AV.ltAll,Bool.and_eq_true] at hp
        exact ⟨b,u0,us,e,hrow hp.1 hb,RepAll.swap (hag b) _ _ hp.2 hrest⟩
      all_goals simp [Fresh]
  all_goals simp [Fresh]
/-- A specification grows by a function whose body does what is told. -/
theorem SpecOk.more {X:Ext} (hX:ExtOk P X) {T:Spec} {call:Caller} (hT:SpecOk P T) (hcall:CallOk P call) {f:FuncId} {fn:Func} {c:Code} (hdom:X.dom f=true) (hf:P.funcs[f]? = some fn) (hb:fn.body=some c) {s:List AV→Option AV}
    (h:∀ vs r,s vs=some r→r.pure=true∧∃ lf fg σ',vbody P X call lf fg fn c vs [] 0=some (r,σ')):SpecOk P (fun g vs=>if g=f then s vs else T g vs):=by
  intro g vs r hr
  simp only at hr
  split at hr
  · rename_i e
    subst e
    obtain ⟨hp,lf,fg,σ',hv⟩:=h vs r hr
    exact (body_at hX hcall hdom hf hb hv).clean hp
  · exact hT g vs r hr
end Go.Vm
end
/- The evaluator along one path: what cannot be seen is answered ahead, and is to be shown. -/
section
namespace Go.Vm

inductive Ans where
  | b (x:Bool)
  | v (x:AV)
  | c (x:AV) (σ:List Ob)
  | l (x:Ex) (S:St)
structure Orc where
  n:Nat
  qs:List (Nat × Ans)
def Orc.ask {α:Type} (O:Orc) (k:Option Ans→Orc→α):α :=
  match O.qs with
  | []=>k none O
  | (m,a)::qs=>if Nat.beq m O.n then k (some a) ⟨O.n + 1,qs⟩ else k none ⟨O.n + 1,(m,a)::qs⟩
abbrev R (β:Type):=Option (β × Prop)
def addP {β:Type} (p:Prop) (r:R β):R β :=
  match r with
  | some (x,q)=>some (x,p∧q)
  | none=>none
theorem addP_some {β:Type} {p q:Prop} {r:R β} {x:β} (h:addP p r=some (x,q)) (hq:q):p∧∃ q',r=some (x,q')∧q' := by
  unfold addP at h
  split at h
  · rename_i y q'
    simp only [Option.some.injEq,Prod.mk.injEq] at h
    obtain ⟨rfl,rfl⟩:=h
    exact ⟨hq.1,q',rfl,hq.2⟩
  · cases h
theorem ask_some {β:Type} {O:Orc} {k:Option Ans→Orc→R β} {x:β × Prop} (h:O.ask k=some x):∃ a O',k a O' = some x:=by
  unfold Orc.ask at h
  split at h
  · exact ⟨_,_,h⟩
  · split at h
    · exact ⟨_,_,h⟩
    · exact ⟨_,_,h⟩

section
variable (P:Program) {β:Type}
def askB (b:Bool) (O:Orc) (k:Bool→Orc→R β):R β :=
  O.ask fun a O => match a with
    | none => match b with
      | true=>k true O
      | false=>k false O
    | some (.b x)=>addP (b=x) (k x O)
    | some _=>none
def owant (ops:Array Oper) (S:St) (o:Oper) (O:Orc) (k:Bool→Orc→R β):R β :=
  match o.guard with
  | none=>k true O
  | some (j, want) => match (ops[j]?).bind (·.dst) with
    | none=>none
    | some t => match nth S.tmps t with
      | .bool b=>askB b O fun b O=>k (b == want) O
      | .undef=>k false O
      | _=>none
def oop (X:Ext) (call:Caller) (dr:Bool) (ro:Nat) (S:St) (o:Oper) (O:Orc) (k:AV→List Ob→Orc→R β):R β :=
  O.ask fun a O => match a with
    | none => match evOp P X call dr ro S o with
      | some (v,σ)=>k v σ O
      | none=>none
    | some (.v x)=>addP (evOp P X call dr ro S o=some (x,S.st)) (k x S.st O)
    | some (.c x σ)=>addP (evOp P X call dr ro S o=some (x,σ)) (k x σ O)
    | some (.b x) => match evOp P X call dr ro S o with
      | some (.bool b,σ)=>addP (b=x) (k (.bool x) σ O)
      | _=>none
    | some _=>none
def oopE (X:Ext) (call:Caller) (ro:Nat) (L:List Nat) (S:St) (o:Oper) (O:Orc) (k:AV→List Ob→Orc→R β):R β :=
  O.ask fun a O => match a with
    | none => match evE P X call ro L S o with
      | some (v,σ)=>k v σ O
      | none=>none
    | some (.v x)=>addP (evE P X call ro L S o=some (x,S.st)) (k x S.st O)
    | some (.c x σ)=>addP (evE P X call ro L S o=some (x,σ)) (k x σ O)
    | some (.b x) => match evE P X call ro L S o with
      | some (.bool b,σ)=>addP (b=x) (k (.bool x) σ O)
      | _=>none
    | some _=>none
def oops (X:Ext) (call:Caller) (dr:Bool) (ro:Nat) (ops:Array Oper):List Oper→St→Orc→(St→Orc→R β)→R β
  | [],S,O,k=>k S O
  | o :: rest, S, O, k => owant ops S o O fun b O => match b with
    | true=>oop P X call dr ro S o O fun v σ O=>oops X call dr ro ops rest (putSlot S o.dst v (if dr then S.st else σ)) O k
    | false=>oops X call dr ro ops rest (putSlot S o.dst .undef S.st) O k
def oopm (X:Ext) (call:Caller) (ro:Nat) (Fs:List Nat) (ops:Array Oper) (σ0:List Ob):List Oper→St→Orc→(St→Orc→R β)→R β
  | [],S,O,k=>k S O
  | o :: rest, S, O, k => owant ops S o O fun b O => match b with
    | true => match isEff Fs o with
      | true => match effOk Fs σ0.length S o with
        | true=>oopE P X call ro Fs S o O fun v σ O=>oopm X call ro Fs ops σ0 rest (putSlot S o.dst v σ) O k
        | false=>none
      | false=>oop P X (call0 call) true ro ⟨S.tmps,sees Fs ops σ0 o⟩ o O fun v _ O=>oopm X call ro Fs ops σ0 rest (putSlot S o.dst v S.st) O k
    | false=>oopm X call ro Fs ops σ0 rest (putSlot S o.dst .undef S.st) O k
def oreg (X:Ext) (call:Caller) (dr:Bool) (ro:Nat) (Fs:List Nat) (ops:Array Oper) (S:St) (O:Orc) (k:St→Orc→R β):R β :=
  match tailL Fs with
  | some m => match dr && tailOk ops m && Nat.ble m ops.size with
    | true=>oops P X call true ro ops (ops.toList.take m) S O fun S1 O=>oops P X call false ro ops (ops.toList.drop m) S1 O k
    | false=>none
  | none => match dr && effChain Fs ops with
    | true=>oopm P X call ro Fs ops S.st ops.toList S O k
    | false=>oops P X call dr ro ops ops.toList S O k
def ofin (ro:Nat) (ts fs ms:List Nat) (m:Nat) (S:St) (O:Orc) (k:St→Orc→R β):R β :=
  match ts,ms with
  | [],[]=>k (forget fs S) O
  | ts, ms => O.ask fun an O => match an with
    | some (.l _ S')=>addP (fin ro ts fs ms m S=some S') (k S' O)
    | none => match fin ro ts fs ms m S with
      | some S' => k S' O
      | none=>none
    | some _=>none
def obox (X:Ext) (call:Caller) (ro:Nat) (ops:Array Oper) (S:St) (O:Orc) (k:St→Orc→R β):R β :=
  match splitBox ops.toList with
  | some (pre, a, ms, b) => match boxOps a b with
    | some (t, d, x) => oops P X call false ro ops pre S O fun S1 O => match midv d ms S1 with
      | some S2 => match vboxv P S2 t d x with
        | some S3=>k S3 O
        | none=>none
      | none=>none
    | none=>none
  | none=>none
def oexec (X:Ext) (call:Caller) (lf ro:Nat) (fg:Nat→List Nat):Code→St→Orc→(Ex→St→Orc→R β)→R β
  | .skip,S,O,k=>k .normal S O
  | .region id ops dr, S, O, k => O.ask fun an O => match an with
    | some (.l x S')=>addP (vexec P X call lf ro fg (.region id ops dr) S=some (x,S')) (k x S' O)
    | none => match fg (5000 + id) with
      | []=>oreg P X call dr ro (fg (2000 + id)) ops S O fun S1 O=>ofin ro (fg (3000 + id)) (fg id) (fg (4000 + id)) S.st.length S1 O fun S O=>k .normal S O
      | _ :: _ => match dr with
        | true=>none
        | false=>obox P X call ro ops S O fun S1 O=>k .normal (forget (fg id) S1) O
    | some _=>none
  | .seq a b, S, O, k => oexec X call lf ro fg a S O fun x S O => match x with
    | .normal=>oexec X call lf ro fg b S O k
    | .exit id=>k (.exit id) S O
    | .ret=>k .ret S O
  | .cond c a b, S, O, k => match ev S c with
    | some (.bool t) => askB t O fun t O => match t with
      | true=>oexec X call lf ro fg a S O k
      | false=>oexec X call lf ro fg b S O k
    | _=>none
  | .block id a, S, O, k => oexec X call lf ro fg a S O fun x S O => match x with
    | .exit id' => if id' = id then k .normal S O else k (.exit id') S O
    | .normal=>k .normal S O
    | .ret=>k .ret S O
  | .loop a, S, O, k => O.ask fun an O => match an with
    | some (.l x S')=>addP (vexec P X call lf ro fg (.loop a) S=some (x,S')) (k x S' O)
    | none => match vexec P X call lf ro fg (.loop a) S with
      | some (x,S')=>k x S' O
      | none=>none
    | some _=>none
  | .exit id,S,O,k=>k (.exit id) S O
  | .ret,S,O,k=>k .ret S O
  | _,_,_,_=>none

variable {P}
theorem askB_sound {b:Bool} {O:Orc} {k:Bool→Orc→R β} {r:β} {p:Prop} (h:askB b O k=some (r,p)) (hp:p):∃ O' p',k b O' = some (r,p')∧p' := by
  unfold askB at h
  obtain ⟨a,O',h⟩:=ask_some h
  split at h
  · cases b <;> exact ⟨_,p,h,hp⟩
  · obtain ⟨h1, q, h2, h3⟩ := addP_some h hp
    subst h1
    exact ⟨_,q,h2,h3⟩
  · cases h
theorem owant_sound {ops:Array Oper} {S:St} {o:Oper} {O:Orc} {k:Bool→Orc→R β} {r:β} {p:Prop} (h:owant ops S o O k=some (r,p)) (hp:p):∃ b O' p',wantedv ops S o=some b∧k b O' = some (r,p')∧p' := by
  unfold owant at h
  unfold wantedv
  split at h
  · rename_i hg
    exact ⟨true,_,p,by rw [hg],h,hp⟩
  · rename_i j want hg
    rw [hg]
    simp only
    cases hd:(ops[j]?).bind (·.dst) with
    | none=>rw [hd] at h; cases h
    | some t =>
      rw [hd] at h
      simp only at h ⊢
      split at h
      · rename_i b hb
        obtain ⟨O',p',h1,h2⟩:=askB_sound h hp
        exact ⟨b == want,O',p',by rw [hb],h1,h2⟩
      · rename_i hb
        exact ⟨false,_,p,by rw [hb],h,hp⟩
      · cases h
theorem oop_sound {X:Ext} {call:Caller} {dr:Bool} {ro:Nat} {S:St} {o:Oper} {O:Orc} {k:AV→List Ob→Orc→R β} {r:β} {p:Prop} (h:oop P X call dr ro S o O k=some (r,p)) (hp:p) :
    ∃ v σ O' p',evOp P X call dr ro S o=some (v,σ)∧k v σ O' = some (r,p')∧p' := by
  unfold oop at h
  obtain ⟨a,O',h⟩:=ask_some h
  split at h
  · split at h
    · rename_i v σ hv
      exact ⟨v,σ,_,p,hv,h,hp⟩
    · cases h
  · obtain ⟨h1, q, h2, h3⟩ := addP_some h hp
    exact ⟨_,_,_,q,h1,h2,h3⟩
  · obtain ⟨h1, q, h2, h3⟩ := addP_some h hp
    exact ⟨_,_,_,q,h1,h2,h3⟩
  · split at h
    · rename_i b σ hv
      obtain ⟨h1,q,h2,h3⟩:=addP_some h hp
      subst h1
      exact ⟨_,_,_,q,hv,h2,h3⟩
    · cases h
  · cases h
theorem oopE_sound {X:Ext} {call:Caller} {ro:Nat} {L:List Nat} {S:St} {o:Oper} {O:Orc} {k:AV→List Ob→Orc→R β} {r:β} {p:Prop} (h:oopE P X call ro L S o O k=some (r,p)) (hp:p) :
    ∃ v σ O' p',evE P X call ro L S o=some (v,σ)∧k v σ O' = some (r,p')∧p' := by
  unfold oopE at h
  obtain ⟨a,O',h⟩:=ask_some h
  split at h
  · split at h
    · rename_i v σ hv
      exact ⟨v,σ,_,p,hv,h,hp⟩
    · cases h
  · obtain ⟨h1, q, h2, h3⟩ := addP_some h hp
    exact ⟨_,_,_,q,h1,h2,h3⟩
  · obtain ⟨h1, q, h2, h3⟩ := addP_some h hp
    exact ⟨_,_,_,q,h1,h2,h3⟩
  · split at h
    · rename_i b σ hv
      obtain ⟨h1,q,h2,h3⟩:=addP_some h hp
      subst h1
      exact ⟨_,_,_,q,hv,h2,h3⟩
    · cases h
  · cases h
theorem oops_sound {X:Ext} {call:Caller} {dr:Bool} {ro:Nat} {ops:Array Oper}:∀ {l:List Oper} {S:St} {O:Orc} {k:St→Orc→R β} {r:β} {p:Prop},oops P X call dr ro ops l S O k=some (r,p)→p →
    ∃ S' O' p',vops P X call dr ro ops l S=some S' ∧ k S' O' = some (r,p')∧p'
  | [],S,O,k,r,p,h,hp=>⟨S,O,p,rfl,h,hp⟩
  | o :: l, S, O, k, r, p, h, hp => by
    simp only [oops] at h
    obtain ⟨b,O1,p1,h1,h2,hp1⟩:=owant_sound h hp
    simp only [vops]
    rw [h1]
    cases b with
    | true =>
      obtain ⟨v,σ,O2,p2,h3,h4,hp2⟩:=oop_sound h2 hp1
      rw [h3]
      exact oops_sound h4 hp2
    | false=>exact oops_sound h2 hp1
theorem oopm_sound {X:Ext} {call:Caller} {ro:Nat} {Fs:List Nat} {ops:Array Oper} {σ0:List Ob}:∀ {l:List Oper} {S:St} {O:Orc} {k:St→Orc→R β} {r:β} {p:Prop},oopm P X call ro Fs ops σ0 l S O k=some (r,p)→p →
    ∃ S' O' p',vopm P X call ro Fs ops σ0 l S=some S' ∧ k S' O' = some (r,p')∧p'
  | [],S,O,k,r,p,h,hp=>⟨S,O,p,rfl,h,hp⟩
  | o :: l, S, O, k, r, p, h, hp => by
    simp only [oopm] at h
    obtain ⟨b,O1,p1,h1,h2,hp1⟩:=owant_sound h hp
    simp only [vopm]
    rw [h1]
    cases b with
    | true =>
      simp only at h2 ⊢
      cases he:isEff Fs o with
      | true =>
        rw [he] at h2
        simp only at h2 ⊢
        cases hk:effOk Fs σ0.length S o with
        | false=>rw [hk] at h2; cases h2
        | true =>
          rw [hk] at h2
          simp only at h2 ⊢
          obtain ⟨v,σ,O2,p2,h3,h4,hp2⟩:=oopE_sound h2 hp1
          rw [h3]
          exact oopm_sound h4 hp2
      | false =>
        rw [he] at h2
        simp only at h2 ⊢
        obtain ⟨v,σ,O2,p2,h3,h4,hp2⟩:=oop_sound h2 hp1
        rw [h3]
        exact oopm_sound h4 hp2
    | false=>exact oopm_sound h2 hp1
theorem oreg_sound {X:Ext} {call:Caller} {dr:Bool} {ro:Nat} {Fs:List Nat} {ops:Array Oper} {S:St} {O:Orc} {k:St→Orc→R β} {r:β} {p:Prop} (h:oreg P X call dr ro Fs ops S O k=some (r,p)) (hp:p) :
    ∃ S' O' p',vreg P X call dr ro Fs ops S=some S' ∧ k S' O' = some (r,p')∧p' := by
  unfold oreg at h
  unfold vreg
  cases htl:tailL Fs with
  | some m =>
    rw [htl] at h
    simp only at h ⊢
    cases hd:(dr && tailOk ops m && Nat.ble m ops.size) with
    | false=>rw [hd] at h; cases h
    | true =>
      rw [hd] at h
      simp only at h ⊢
      obtain ⟨S1,O1,p1,h1,h2,hp1⟩:=oops_sound h hp
      rw [h1]
      exact oops_sound h2 hp1
  | none =>
  rw [htl] at h
  simp only at h ⊢
  cases hd:(dr && effChain Fs ops) with
  | true=>rw [hd] at h; exact oopm_sound h hp
  | false=>rw [hd] at h; exact oops_sound h hp
theorem ofin_sound {ro m:Nat} {ts fs ms:List Nat} {S:St} {O:Orc} {k:St→Orc→R β} {r:β} {p:Prop} (h:ofin ro ts fs ms m S O k=some (r,p)) (hp:p):∃ S' O' p',fin ro ts fs ms m S=some S' ∧ k S' O' = some (r,p')∧p' := by
  unfold ofin at h
  split at h
  · exact ⟨_,O,p,rfl,h,hp⟩
  · obtain ⟨an, O', h⟩ := ask_some h
    split at h
    · obtain ⟨h1, q, h2, h3⟩ := addP_some h hp
      exact ⟨_,_,q,h1,h2,h3⟩
    · split at h
      · rename_i S' hs
        exact ⟨S',O',p,hs,h,hp⟩
      · cases h
    · cases h
theorem obox_sound {X:Ext} {call:Caller} {ro:Nat} {ops:Array Oper} {S:St} {O:Orc} {k:St→Orc→R β} {r:β} {p:Prop} (h:obox P X call ro ops S O k=some (r,p)) (hp:p) :
    ∃ S' O' p',vbox P X call ro ops S=some S' ∧ k S' O' = some (r,p')∧p' := by
  unfold obox at h
  unfold vbox
  split at h
  · rename_i pre a ms b hs
    rw [hs]
    simp only
    split at h
    · rename_i t d x hb
      rw [hb]
      simp only
      obtain ⟨S1,O1,p1,h1,h2,h3⟩:=oops_sound h hp
      rw [h1]
      simp only
      split at h2
      · rename_i S2 hm
        rw [hm]
        simp only
        split at h2
        · rename_i S3 hv
          exact ⟨S3,O1,p1,hv,h2,h3⟩
        · cases h2
      · cases h2
    · cases h
  · cases h
theorem oexec_sound {X:Ext} {call:Caller} {lf ro:Nat} {fg:Nat→List Nat}:∀ {c:Code} {S:St} {O:Orc} {k:Ex→St→Orc→R β} {r:β} {p:Prop},oexec P X call lf ro fg c S O k=some (r,p)→p →
    ∃ x S' O' p',vexec P X call lf ro fg c S=some (x,S')∧k x S' O' = some (r,p')∧p'
  | .skip,S,O,k,r,p,h,hp=>⟨_,_,_,_,rfl,h,hp⟩
  | .region id ops dr, S, O, k, r, p, h, hp => by
    simp only [oexec] at h
    obtain ⟨an,O',h⟩:=ask_some h
    split at h
    · obtain ⟨h1, q, h2, h3⟩ := addP_some h hp
      exact ⟨_,_,_,q,h1,h2,h3⟩
    · split at h
      · rename_i hfg
        obtain ⟨S',O',p',h1,h2,h3⟩:=oreg_sound h hp
        obtain ⟨S2,O2,p2,hs,h4,h5⟩:=ofin_sound h2 h3
        refine ⟨.normal,S2,O2,p2,?_,h4,h5⟩
        simp only [vexec,hfg,h1,hs]
      · rename_i y l hfg
        split at h
        · cases h
        · obtain ⟨S', O', p', h1, h2, h3⟩ := obox_sound h hp
          refine ⟨.normal,_,O',p',?_,h2,h3⟩
          simp only [vexec,hfg,h1]
    · cases h
  | .seq a b, S, O, k, r, p, h, hp => by
    simp only [oexec] at h
    obtain ⟨x,S',O',p',h1,h2,h3⟩:=oexec_sound h hp
    simp only [vexec]
    rw [h1]
    cases x with
    | normal=>exact oexec_sound h2 h3
    | exit id=>exact ⟨_,_,_,_,rfl,h2,h3⟩
    | ret=>exact ⟨_,_,_,_,rfl,h2,h3⟩
  | .cond c a b, S, O, k, r, p, h, hp => by
    simp only [oexec] at h
    simp only [vexec]
    split at h
    · rename_i t ht
      obtain ⟨O',p',h1,h2⟩:=askB_sound h hp
      rw [ht]
      cases t with
      | true=>exact oexec_sound h1 h2
      | false=>exact oexec_sound h1 h2
    · cases h
  | .block id a, S, O, k, r, p, h, hp => by
    simp only [oexec] at h
    obtain ⟨x,S',O',p',h1,h2,h3⟩:=oexec_sound h hp
    simp only [vexec]
    rw [h1]
    cases x with
    | normal=>exact ⟨_,_,_,_,rfl,h2,h3⟩
    | ret=>exact ⟨_,_,_,_,rfl,h2,h3⟩
    | exit id' =>
      simp only at h2 ⊢
      split at h2
      · rename_i e
        exact ⟨_,_,_,_,by rw [if_pos e],h2,h3⟩
      · rename_i e
        exact ⟨_,_,_,_,by rw [if_neg e],h2,h3⟩
  | .loop a, S, O, k, r, p, h, hp => by
    simp only [oexec] at h
    obtain ⟨an,O',h⟩:=ask_some h
    split at h
    · obtain ⟨h1, q, h2, h3⟩ := addP_some h hp
      exact ⟨_,_,_,q,h1,h2,h3⟩
    · split at h
      · rename_i hv
        exact ⟨_,_,_,p,hv,h,hp⟩
      · cases h
    · cases h
  | .exit id,S,O,k,r,p,h,hp=>⟨_,_,_,_,rfl,h,hp⟩
  | .ret,S,O,k,r,p,h,hp=>⟨_,_,_,_,rfl,h,hp⟩
  | .rangeFunc ..,_,_,_,_,_,h,_=>by simp [oexec] at h
  | .label _,_,_,_,_,_,h,_=>by simp [oexec] at h
  | .goto _,_,_,_,_,_,h,_=>by simp [oexec] at h
  | .scope ..,_,_,_,_,_,h,_=>by simp [oexec] at h
  | .refuse ..,_,_,_,_,_,h,_=>by simp [oexec] at h
end

section
variable (P:Program)
/-- A piece of code along one path. -/
def around (X:Ext) (call:Caller) (lf ro:Nat) (fg:Nat→List Nat) (c:Code) (S:St) (qs:List (Nat × Ans)):R (Ex × St) :=
  oexec P X call lf ro fg c S ⟨0,qs⟩ fun x S _=>some ((x,S),True)
/-- A function along one path. -/
def along (X:Ext) (call:Caller) (lf:Nat) (fg:Nat→List Nat) (fn:Func) (c:Code) (vs:List AV) (σ:List Ob) (ro:Nat) (qs:List (Nat × Ans)):R (AV × List Ob) :=
  oexec P X call lf ro fg c { tmps := vs ++ List.replicate (fn.ntmps - vs.length) .undef, st := σ } ⟨0, qs⟩ fun x S O => match x with
    | .exit _=>none
    | _ => O.ask fun a _ => match a with
      | none => match vend P fn σ ro S with
        | some r=>some (r,True)
        | none=>none
      | some (.c r σ')=>some ((r,σ'),vend P fn σ ro S=some (r,σ')∧True)
      | some _=>none
variable {P}
theorem around_sound {X:Ext} {call:Caller} {lf ro:Nat} {fg:Nat→List Nat} {c:Code} {S:St} {ans:List (Nat × Ans)} {r:Ex × St} {p:Prop} (h:around P X call lf ro fg c S ans=some (r,p)) (hp:p):vexec P X call lf ro fg c S=some r:=by
  obtain ⟨x,S',O',p',h1,h2,_⟩:=oexec_sound h hp
  simp only [Option.some.injEq,Prod.mk.injEq] at h2
  rw [h1,← h2.1]
theorem along_sound {X:Ext} {call:Caller} {lf ro:Nat} {fg:Nat→List Nat} {fn:Func} {c:Code} {vs:List AV} {σ:List Ob} {ans:List (Nat × Ans)} {r:AV × List Ob} {p:Prop} (h:along P X call lf fg fn c vs σ ro ans=some (r,p)) (hp:p):vbody P X call lf fg fn c vs σ ro=some r:=by
  obtain ⟨x,S',O',p',h1,h2,hp'⟩:=oexec_sound h hp
  unfold vbody
  rw [h1]
  have fin : (O'.ask fun a _ => match a with
      | none => match vend P fn σ ro S' with
        | some r=>some (r,True)
        | none=>none
      | some (.c r σ')=>some ((r,σ'),vend P fn σ ro S' = some (r,σ')∧True)
      | some _=>none:R (AV × List Ob))=some (r,p')→vend P fn σ ro S' = some r:=by
    intro h
    obtain ⟨a,_,h⟩:=ask_some h
    split at h
    · split at h
      · rename_i q hq
        simp only [Option.some.injEq,Prod.mk.injEq] at h
        rw [hq,h.1]
      · cases h
    · simp only [Option.some.injEq, Prod.mk.injEq] at h
      obtain ⟨rfl,rfl⟩:=h
      exact hp'.1
    · cases h
  cases x with
  | exit id=>cases h2
  | normal=>exact fin h2
  | ret=>exact fin h2
def findReg (id:Nat):Code→Option Code
  | .region i ops dr=>if i=id then some (.region i ops dr) else none
  | .seq a b => match findReg id a with
    | some c=>some c
    | none=>findReg id b
  | .cond _ a b => match findReg id a with
    | some c=>some c
    | none=>findReg id b
  | .block _ a=>findReg id a
  | .loop a=>findReg id a
  | _=>none
/-- The region of a function that bears this number. -/
def regN (fn:Func) (id:Nat):Code:=match fn.body with
  | some c => match findReg id c with
    | some r=>r
    | none => .skip
  | none => .skip
def noFg:Nat→List Nat:=fun _=>[]
/-- A state, told by the slots that matter. -/
def sets:List (Nat × AV)→List AV→List AV
  | [],l=>l
  | (t,v)::r,l=>sets r (setN l t v)
def stOf (n:Nat) (D:List Nat) (l:List (Nat × AV)) (σ:List Ob):St := { tmps:=sets l (forgetT D (List.replicate n .undef)),st:=σ }
/-- The code of a function; its k-th loop's round. -/
def codeOf (fn:Func):Code:=match fn.body with
  | some c=>c
  | none => .skip
def loopsIn:Code→List Code
  | .seq a b=>loopsIn a ++ loopsIn b
  | .cond _ a b=>loopsIn a ++ loopsIn b
  | .block _ a=>loopsIn a
  | .loop a=>a::loopsIn a
  | _=>[]
def loopN (fn:Func) (k:Nat):Code:=match (loopsIn (codeOf fn))[k]? with
  | some c=>c
  | none => .skip
theorem iter_forget {D:List Nat} {g:St→Option (Ex × St)} {x:Ex} {S' : St} (hx:x ≠ .normal):∀ (n:Nat) (F:Nat→St) (lf:Nat) (S:St),n < lf→forget D S=F 0→(∀ i,i < n→∃ S1,g (F i)=some (.normal,S1)∧forget D S1=F (i + 1))→g (F n)=some (x,S') →
    iter (fun S=>g (forget D S)) lf S=some (x,S')
  | 0, F, lf + 1, S, _, h0, _, h => by
    simp only [iter,h0,h]
    cases x <;> simp_all
  | n + 1, F, lf + 1, S, hl, h0, hs, h => by
    obtain ⟨S1,h1,h2⟩:=hs 0 (by omega)
    simp only [iter,h0,h1]
    exact iter_forget hx n (fun i=>F (i + 1)) lf S1 (by omega) h2 (fun i hi=>hs (i + 1) (by omega)) h
  | _,_,0,_,h,_,_,_=>absurd h (by omega)
/-- A loop that runs n rounds and leaves in the next. -/
theorem loop_runK {P:Program} {X:Ext} {call:Caller} {lf ro:Nat} {fg:Nat→List Nat} {a:Code} {D:List Nat} {x:Ex} {S S' : St} (hD:deadK fg a=D) (F:Nat→St) (n:Nat) (hn:n < lf) (h0:forget D S=F 0)
    (hs:∀ i,i < n→∃ S1,vexec P X call lf ro fg a (F i)=some (.normal,S1)∧forget D S1=F (i + 1)) (he:vexec P X call lf ro fg a (F n)=some (x,S')) (hx:x ≠ .normal) :
    vexec P X call lf ro fg (.loop a) S=some (x,S'):=by
  simp only [vexec,hD]
  exact iter_forget (g:=vexec P X call lf ro fg a) hx n F lf S hn h0 hs he
end
end Go.Vm
end
/- What is often to be shown along a path: places in lists, loads, rows that grow, calls told by a specification. -/
section
namespace Go.Vm
variable {P:Program}

def strs (l:List ByteArray):AV := .list .ro l.length 1 (l.map .str)
theorem owns_strs:∀ (l:List ByteArray),AV.ownsAll (l.map .str)=[]
  | []=>rfl
  | s::l=>by simp [AV.ownsAll,AV.owns,owns_strs l]
theorem lt_strs (m:Nat):∀ (l:List ByteArray),AV.ltAll m (l.map .str)=true
  | []=>rfl
  | s::l=>by simp [AV.ltAll,AV.lt,lt_strs m l]
theorem one_strs:∀ (l:List ByteArray),allOne (l.map .str)
  | []=>trivial
  | s::l=>⟨rfl,one_strs l⟩
theorem grow_own {t e:TypeId} {σ:List Ob} {ro id n:Nat} {cs ys:List AV} {m:Nat} {x z:AV} (hu:P.underlying t=some (.slice e)) (hz:zerov P e=some z) (hzl:z.cells.length=P.cellsOf e) (ho:σ[id]? = some (.arr n (P.cellsOf e) cs)) (hro:ro ≤ id)
    (hx:appended σ (P.cellsOf e) x=some (m,ys)) (hy:AV.ownsAll ys=[]) (hm:m ≠ 0) (hb:(n + m) * (P.bytesOf e + 1) ≤ 140737488355328) :
    appendv P t σ ro (.own id n) x=some (.own id (n + m),setOb σ id (.arr (n + m) (P.cellsOf e) (cs ++ ys))):=by
  unfold appendv
  rw [hu]
  simp only [hx,hz]
  rw [if_pos ⟨hy,hzl⟩]
  simp only [ho]
  rw [if_pos ⟨trivial,hro,trivial,hb⟩,if_neg hm]
theorem grow_none {t e:TypeId} {σ:List Ob} {ro id n:Nat} {cs ys:List AV} {x z:AV} (hu:P.underlying t=some (.slice e)) (hz:zerov P e=some z) (hzl:z.cells.length=P.cellsOf e) (ho:σ[id]? = some (.arr n (P.cellsOf e) cs)) (hro:ro ≤ id)
    (hx:appended σ (P.cellsOf e) x=some (0,ys)) (hy:AV.ownsAll ys=[]) (hb:n * (P.bytesOf e + 1) ≤ 140737488355328) :
    appendv P t σ ro (.own id n) x=some (.own id n,σ):=by
  unfold appendv
  rw [hu]
  simp only [hx,hz]
  rw [if_pos ⟨hy,hzl⟩]
  simp only [ho]
  rw [if_pos ⟨trivial,hro,trivial,by simpa using hb⟩,if_pos trivial]
/-- A call told by a specification. -/
theorem call_spec {X:Ext} {T:Spec} {f:FuncId} {vs:List AV} {r:AV} {σ:List Ob} {ro:Nat} {dr:Bool} (h1:X.pureFn f=none) (h2:X.stFn f=none) (hl:AV.ltAll 0 vs=true) (h:T f vs=some r) (hp:r.pure=true) :
    callv X (callerOf T) dr f vs σ ro=some (if !dr && X.adopt f then adoptv σ r else (unfr r,σ)):=by
  unfold callv
  rw [h1,h2]
  simp only [hl,if_true,callerOf,h,hp]
theorem call_pure {X:Ext} {call:Caller} {f:FuncId} {g:List AV→Option AV} {vs:List AV} {r:AV} {σ:List Ob} {ro:Nat} (h1:X.pureFn f=some g) (hl:AV.ltAll 0 vs=true) (ho:AV.ownsAll vs=[]) (ht:AV.thawAll σ vs=some vs) (h:g vs=some r) :
    callv X call false f vs σ ro=some (r,σ):=by
  unfold callv
  rw [h1]
  simp only [Bool.false_eq_true,if_false,ht,ho,freezeIds,hl,if_true,h]
end Go.Vm
end
/- Arguments told with less: whatever is known of the room behind a list is left away. -/
section
namespace Go.Vm
variable [Fixed]
variable {P:Program} {C:Ctx} {w:World}

mutual
def roA:AV→AV
  | .list _ n sz cs => .list .ro n (if n=0 then 1 else sz) (roAll cs)
  | .agg cs => .agg (roAll cs)
  | .tup cs => .tup (roAll cs)
  | .eaddr cs => .eaddr (roAll cs)
  | v=>v
def roAll:List AV→List AV
  | []=>[]
  | v::vs=>roA v::roAll vs
end
theorem roA_one (v:AV):(roA v).one=v.one:=by cases v <;> simp [roA,AV.one]
theorem roAll_one:∀ {vs:List AV},allOne vs→allOne (roAll vs)
  | [],_=>trivial
  | v::vs,h=>by simp only [roAll,allOne] at h ⊢; exact ⟨(roA_one v).trans h.1,roAll_one h.2⟩
theorem roAll_length:∀ (vs:List AV),(roAll vs).length=vs.length
  | []=>rfl
  | v::vs=>by simp [roAll,roAll_length vs]
mutual
theorem roA_rep (C:Ctx) (w:World):∀ (v:AV) (u:Value),Rep C w v u→Rep C w (roA v) u:=by
  intro v u h
  match v with
  | .list k n sz cs =>
    simp only [roA,Rep] at h ⊢
    obtain ⟨h0,h1,a,cap,h2,h3,h4,_,_,h7⟩:=h
    refine ⟨?_,roAll_one h1,a,cap,h2,h3,h4,by simp,by simp,fun hn => ?_⟩
    · rw [roAll_length, h0]
      split
      · rename_i e; rw [e]; simp
      · rfl
    · obtain ⟨b, o, us, k1, k2, k3, k4, k5⟩ := h7 hn
      exact ⟨b,o,us,k1,k2,k3,k4,roAll_rep C w cs us k5⟩
  | .agg cs =>
    simp only [roA,Rep] at h ⊢
    obtain ⟨h1,us,e,h2⟩:=h
    exact ⟨roAll_one h1,us,e,roAll_rep C w cs us h2⟩
  | .tup cs =>
    simp only [roA,Rep] at h ⊢
    obtain ⟨us,e,h2⟩:=h
    exact ⟨us,e,roAll_rep C w cs us h2⟩
  | .eaddr cs =>
    simp only [roA,Rep] at h ⊢
    obtain ⟨h1,b,o,us,k1,k2,k3,k4,k5⟩:=h
    exact ⟨roAll_one h1,b,o,us,k1,k2,k3,k4,roAll_rep C w cs us k5⟩
  | .int _ _ | .bool _ | .str _ | .pnil | .mnil | .fnil | .inil | .undef | .any | .raw _ | .ptag _ | .ref _ _ | .eref _ _ _ | .map _ | .own _ _ | .clo _ _ | .iface _ _=>exact h
theorem roAll_rep (C:Ctx) (w:World):∀ (vs:List AV) (us:List Value),RepAll C w vs us→RepAll C w (roAll vs) us:=by
  intro vs us h
  match vs,us with
  | [],[]=>exact h
  | v :: vs, u :: us =>
    simp only [roAll,RepAll] at h ⊢
    exact ⟨roA_rep C w v u h.1,roAll_rep C w vs us h.2⟩
  | [],_::_=>simp only [RepAll] at h
  | _::_,[]=>simp only [RepAll] at h
end
theorem CallAt.ro {f:FuncId} {vs:List AV} {σ:List Ob} {ro:Nat} {r:AV} {σ' : List Ob} (h:CallAt P f (roAll vs) σ ro r σ'):CallAt P f vs σ ro r σ' :=
  ⟨h.1,fun C w us hσ hs hro hr=>h.2 C w us hσ hs hro (roAll_rep C w vs us hr)⟩
/-- A specification over arguments told with less. -/
def Spec.ro (T:Spec):Spec:=fun f vs=>T f (roAll vs)
theorem SpecOk.ro {T:Spec} (h:SpecOk P T):SpecOk P T.ro:=fun f vs r hr=>(h f (roAll vs) r hr).ro
end Go.Vm
end
/- From a call that is told to the model's call, from any world that bears the fixed blocks. -/
section
namespace Go.Vm
open Go.RowKit (Below)
variable [Fixed]
variable {P:Program} {w:World}

/-- Nothing is the call's own yet. -/
def C0:Ctx:=⟨[],fun _=>0,fun _=>0,fun _=>False⟩
theorem C0_ok (hf:∀ b X,Fixed.fix b X→w.heap[b]? = some X):SOk C0 w :=
  ⟨fun id o h=>by simp [C0] at h,fun i j oi oj h=>by simp [C0] at h,fun id o h=>by simp [C0] at h,fun id o h=>by simp [C0] at h,fun b h=>h.elim,fun b X h=>⟨hf b X h,fun id o h=>by simp [C0] at h⟩⟩
theorem not_mut0 (b:Nat) : ¬ Mut C0 b:=by
  rintro (h | ⟨id,o,h,_⟩)
  · exact h
  · simp [C0] at h
/-- The model's call, for a result that is a truth value. -/
theorem CallAt.bool {f:FuncId} {vs:List AV} {us:List Value} {b:Bool} {σ' : List Ob} (h:CallAt P f vs [] 0 (.bool b) σ') (hf:∀ b X,Fixed.fix b X→w.heap[b]? = some X) (hr:RepAll C0 w vs us) :
    Calls P f us.toArray w fun e w' => e = .returned (.bool b)∧Below w.heap.size w w' := by
  refine Calls.mono (h.2 C0 w us rfl (C0_ok hf) (Nat.le_refl _) hr) ?_
  rintro e w' ⟨u,C',rfl,_,_,hg,hru,_⟩
  simp only [Rep] at hru
  subst hru
  exact ⟨rfl,hg.os,hg.tape,hg.output,hg.size,fun k hk=>hg.blk k hk fun id o _ h=>by simp [C0] at h⟩
end Go.Vm
end
/- From what a row reads to what the evaluator knows: numbers, strings, truth values, slices and structs of them. -/
section
namespace Go.Vm
open Go.RowKit (Below)

/-- What a value of type t is, cell by cell. -/
inductive Shape (P:Program) (B:Nat):TypeId→List AV→Prop
  | bool {t:TypeId} (h:P.underlying t=some .bool) (b:Bool):Shape P B t [.bool b]
  | int {t:TypeId} {k:IntKind} (h:P.underlying t=some (.int k)) (n:Int) (hn:(Lit.int k n).wf=true):Shape P B t [.int k n]
  | str {t:TypeId} (h:P.underlying t=some .string) (s:ByteArray) (hs:s.size ≤ B):Shape P B t [.str s]
  | slice {t e:TypeId} (h:P.underlying t=some (.slice e)) (xs:List (List AV)) (hx:∀ x,x ∈ xs→Shape P B e x) (hb:xs.length * P.bytesOf e ≤ B):Shape P B t [.list .ro xs.length (P.cellsOf e) xs.flatten]
  | struct {t:TypeId} {fs:Array Field} (h:P.underlying t=some (.struct fs)) (ps:List (List AV)) (hl:ps.length=fs.size) (hp:∀ (i:Nat) (f:Field) (p:List AV),fs[i]? = some f→ps[i]? = some p→Shape P B f.type p):Shape P B t ps.flatten

/-- The fields lie one behind the other. -/
def packed (P:Program):List Field→Nat→Option Nat
  | [],n=>some n
  | f::fs,n=>if f.offset=n then packed P fs (n + P.cellsOf f.type) else none
/-- Types whose values are read here, with all that they hold. -/
def okT (P:Program) (ts:List TypeId) (t:TypeId):Bool :=
  match P.underlying t with
  | some .bool | some (.int _) | some .string=>P.cellsOf t == 1
  | some (.slice e)=>P.cellsOf t == 1 && memN e ts && Nat.blt 0 (P.cellsOf e)
  | some (.struct fs)=>fs.toList.all (fun f=>memN f.type ts) && (match packed P fs.toList 0 with | some n=>n == P.cellsOf t | none=>false)
  | _=>false
theorem memN_iff {t:Nat}:∀ {l:List Nat},memN t l=true→t ∈ l
  | [],h=>by simp [memN] at h
  | x :: l, h => by
    simp only [memN] at h
    split at h
    · rename_i e
      have:=Nat.eq_of_beq_eq_true e
      subst this
      exact List.mem_cons_self ..
    · exact List.mem_cons_of_mem _ (memN_iff h)
theorem allOne_append {a b:List AV} (ha:allOne a) (hb:allOne b):allOne (a ++ b):=by
  induction a with
  | nil=>exact hb
  | cons x a ih=>exact ⟨ha.1,ih ha.2⟩
section
variable [Fixed]
variable {P:Program} {C:Ctx} {w:World} {B:Nat}
theorem repAll_append:∀ {vs ws:List AV} {us xs:List Value},RepAll C w vs us→RepAll C w ws xs→RepAll C w (vs ++ ws) (us ++ xs)
  | [],_,[],_,_,h=>h
  | v :: vs, ws, u :: us, xs, h, k => by
    simp only [List.cons_append,RepAll] at h ⊢
    exact ⟨h.1,repAll_append h.2 k⟩
  | [],_,_::_,_,h,_=>by simp only [RepAll] at h
  | _::_,_,[],_,h,_=>by simp only [RepAll] at h
/-- What reading gives. -/
def Known (P:Program) (B:Nat) (w:World) (t:TypeId) (cs:List Value):Prop:=∃ vs,Shape P B t vs∧RepAll C0 w vs cs∧allOne vs∧vs.length=P.cellsOf t
/-- Parts that lie one behind the other. -/
theorem known_fields {cs:List Value}:∀ (fs:List Field) (n m:Nat),packed P fs n=some m→m ≤ cs.length→(∀ (i:Nat) (f:Field),fs[i]? = some f→Known P B w f.type ((cs.drop f.offset).take (P.cellsOf f.type))) →
    ∃ ps:List (List AV),ps.length=fs.length∧(∀ (i:Nat) (f:Field) (p:List AV),fs[i]? = some f→ps[i]? = some p→Shape P B f.type p)∧RepAll C0 w ps.flatten ((cs.drop n).take (m - n))∧allOne ps.flatten∧ps.flatten.length=m - n∧n ≤ m
  | [], n, m, h, _, _ => by
    simp only [packed,Option.some.injEq] at h
    subst h
    exact ⟨[],rfl,fun i f p h=>by simp at h,by simp [RepAll],trivial,by simp,Nat.le_refl _⟩
  | f :: fs, n, m, h, hm, hk => by
    simp only [packed] at h
    split at h
    · rename_i e
      obtain ⟨vs,h1,h2,h3,h4⟩:=hk 0 f rfl
      obtain ⟨ps,k1,k2,k3,k4,k5,k6⟩:=known_fields fs _ m h hm (fun i g hg=>hk (i + 1) g (by simpa using hg))
      refine ⟨vs::ps,by simp [k1],?_,?_,?_,?_,by omega⟩
      · intro i g p hg hp
        cases i with
        | zero =>
          simp only [List.getElem?_cons_zero,Option.some.injEq] at hg hp
          subst hg; subst hp
          exact h1
        | succ i=>exact k2 i g p (by simpa using hg) (by simpa using hp)
      · have hsplit : (cs.drop n).take (m - n) = (cs.drop n).take (P.cellsOf f.type) ++ (cs.drop (n + P.cellsOf f.type)).take (m - (n + P.cellsOf f.type)) := by
          rw [← List.drop_drop,← List.take_append_drop (P.cellsOf f.type) ((cs.drop n).take (m - n)),List.take_take,List.drop_take]
          congr 2
          · omega
          · omega
        rw [hsplit,List.flatten_cons]
        rw [e] at h2
        exact repAll_append h2 k3
      · rw [List.flatten_cons]
        exact allOne_append h3 k4
      · rw [List.flatten_cons, List.length_append, h4, k5]
        omega
    · cases h
theorem add_add (a:Addr) (m n:Nat):(a.add m).add n=a.add (m + n):=by
  unfold Addr.add
  by_cases h1:m=0
  · subst h1; simp
  · by_cases h2 : n = 0
    · subst h2; simp
    · rw [if_neg h2, if_neg h1, if_neg (by omega)]
      simp [Nat.add_assoc]
/-- Elements, one behind the other. -/
theorem known_elems {sz:Nat} {e:TypeId} {a:Addr} (hsz:sz=P.cellsOf e):∀ (n:Nat) (us:Nat→List Value),(∀ i,i < n→w.cells? 0 (a.add (i * sz)) sz=some (us i)∧Known P B w e (us i)) →
    ∃ (xs:List (List AV)) (ys:List Value),xs.length=n∧(∀ x,x ∈ xs→Shape P B e x)∧RepAll C0 w xs.flatten ys∧allOne xs.flatten∧xs.flatten.length=n * sz∧ys.length=n * sz∧∀ i x,ys[i]? = some x→w.cell? (a.add i)=some x
  | 0,_,_=>⟨[],[],rfl,fun x h=>by simp at h,by simp [RepAll],trivial,by simp,by simp,fun i x h=>by simp at h⟩
  | n + 1, us, h => by
    obtain ⟨xs,ys,k1,k2,k3,k4,k5,k6,k7⟩:=known_elems hsz n us fun i hi=>h i (by omega)
    obtain ⟨hc,vs,h1,h2,h3,h4⟩:=h n (by omega)
    obtain ⟨_,c2,c3⟩:=World.cells?_some hc
    refine ⟨xs ++ [vs],ys ++ us n,by simp [k1],?_,?_,?_,?_,?_,?_⟩
    · intro x hx
      rcases List.mem_append.1 hx with hx | hx
      · exact k2 x hx
      · simp only [List.mem_singleton] at hx
        subst hx
        exact h1
    · rw [List.flatten_append]
      simp only [List.flatten_cons,List.flatten_nil,List.append_nil]
      exact repAll_append k3 h2
    · rw [List.flatten_append]
      simp only [List.flatten_cons,List.flatten_nil,List.append_nil]
      exact allOne_append k4 h3
    · rw [List.flatten_append, List.length_append, k5]
      simp only [List.flatten_cons,List.flatten_nil,List.append_nil,h4,← hsz]
      rw [Nat.succ_mul]
    · rw [List.length_append,k6,c2,Nat.succ_mul]
    · intro i x hx
      by_cases hi:i < ys.length
      · rw [List.getElem?_append_left hi] at hx
        exact k7 i x hx
      · rw [List.getElem?_append_right (by omega), k6] at hx
        have hlt : i - n * sz < sz := by
          have:=(List.getElem?_eq_some_iff.1 hx).1
          omega
        have:=c3 (i - n * sz) hlt
        rw [hx] at this
        rw [← this]
        congr 1
        exact (add_add a (n * sz) (i - n * sz)).symm ▸ (by rw [show n * sz + (i - n * sz)=i by omega])
theorem spot_none {a:Addr} {v:Value} (h:w.cell? a=some v):a=⟨a.block,a.off,none⟩∧a.block < w.heap.size:=by
  unfold World.cell? at h
  split at h
  · rename_i c _ _ hX
    split at h
    · cases h
    · rename_i hs
      refine ⟨?_,(Array.getElem?_eq_some_iff.1 hX).1⟩
      cases a
      simp only [Option.isSome_iff_ne_none,ne_eq,Decidable.not_not] at hs
      subst hs
      rfl
  · cases h
theorem weightsAll_mem {H:Type} {e:TypeId}:∀ {ds:List (DataW H)} {d:DataW H},d ∈ ds→∀ n ∈ d.weights P e,n ∈ DataW.weightsAll P e ds
  | d' :: ds, d, hd, n, hn => by
    simp only [DataW.weightsAll,List.mem_append]
    rcases List.mem_cons.1 hd with rfl | hd
    · exact .inl hn
    · exact .inr (weightsAll_mem hd n hn)
theorem known_of {H:Type} {enc:TypeId × Value→H} {ts:List TypeId} (hts:ts.all (okT P ts)=true):∀ (fuel:Nat) (t:TypeId) (cs:List Value) (d:DataW H) (ps:List MemPlace),t ∈ ts→DataW.trod enc P w 0 (fun _=>true) true fuel t cs=some (d,ps)→(∀ n ∈ d.weights P t,n ≤ B)→Known P B w t cs:=by
  intro fuel
  induction fuel with
  | zero=>intro t cs d ps _ h; simp [DataW.trod] at h
  | succ fuel ih =>
    intro t cs d ps ht h hw
    have hok:=List.all_eq_true.1 hts t ht
    unfold okT at hok
    split at hok
    · rename_i hu
      obtain ⟨b,rfl,_⟩:=DataW.trod_bool hu h
      exact ⟨[.bool b],.bool hu b,by simp [RepAll,Rep],⟨rfl,trivial⟩,by simp at hok; simp [hok]⟩
    · rename_i k hu
      obtain ⟨n,rfl,_,hn⟩:=DataW.trod_int hu h
      exact ⟨[.int k n],.int hu n hn,by simp [RepAll,Rep],⟨rfl,trivial⟩,by simp at hok; simp [hok]⟩
    · rename_i hu
      obtain ⟨s,rfl,hx,_⟩:=DataW.trod_string hu h
      simp only [Prod.mk.injEq] at hx
      obtain ⟨rfl,_⟩:=hx
      have hs : s.size ≤ B := by
        have:=hw s.data.toList.length (by simp [DataW.weights])
        simpa using this
      exact ⟨[.str s],.str hu s hs,by simp [RepAll,Rep],⟨rfl,trivial⟩,by simp at hok; simp [hok]⟩
    · rename_i e hu
      simp only [Bool.and_eq_true,beq_iff_eq] at hok
      obtain ⟨⟨hc1,hmem⟩,hpos⟩:=hok
      have hpos:0 < P.cellsOf e:=by simpa using hpos
      rcases DataW.trod_slice hu h with ⟨rfl,_⟩ | ⟨a,len,cap,elems,rest,n,hf,rfl,hx,_,hl,hm,hlen,hel,_,_⟩
      · refine ⟨[.list .ro ([] : List (List AV)).length (P.cellsOf e) ([] : List (List AV)).flatten], .slice hu [] (fun x h => by simp at h) (by simp), ?_, ⟨rfl, trivial⟩, by simp [hc1]⟩
        simp only [RepAll,Rep]
        exact ⟨⟨by simp,trivial,none,0,by simp,by simp,by decide,by simp,by simp,fun h=>by simp at h⟩,trivial⟩
      · simp only [Prod.mk.injEq] at hx
        obtain ⟨rfl,_⟩:=hx
        have hfn:fuel=n:=by omega
        subst hfn
        have hel' : ∀ i, i < len → ∃ us, w.cells? 0 (a.add (i * P.cellsOf e)) (P.cellsOf e) = some us ∧ Known P B w e us := by
          intro i hi
          have:=hel i hi
          rw [List.getElem?_eq_getElem (by omega)] at this
          obtain ⟨us,h1,h2⟩:=Option.bind_eq_some_iff.1 this
          refine ⟨us,h1,ih e us (elems[i]'(by omega)).1 (elems[i]'(by omega)).2 (memN_iff hmem) h2 ?_⟩
          intro m hmm
          apply hw
          simp only [DataW.weights,hu,List.mem_cons,List.mem_append]
          refine .inr (.inl (weightsAll_mem (List.mem_map.2 ⟨_,List.getElem_mem (by omega),rfl⟩) m hmm))
        have : ∃ us : Nat → List Value, ∀ i, i < len → w.cells? 0 (a.add (i * P.cellsOf e)) (P.cellsOf e) = some (us i) ∧ Known P B w e (us i) := by
          classical
          exact ⟨fun i => if hi : i < len then (hel' i hi).choose else [], fun i hi => by
            simp only [dif_pos hi]
            exact (hel' i hi).choose_spec⟩
        obtain ⟨us,hus⟩:=this
        obtain ⟨xs,ys,k1,k2,k3,k4,k5,k6,k7⟩:=known_elems (P:=P) (w:=w) (e:=e) rfl len us hus
        have hb : xs.length * P.bytesOf e ≤ B := by
          have h1:=hw (((elems.map (·.1)).length + (rest.map (·.1)).length) * P.bytesOf e) (by simp only [DataW.weights,hu]; exact List.mem_cons_self ..)
          rw [k1]
          simp only [List.length_map,hlen] at h1
          exact Nat.le_trans (Nat.mul_le_mul_right _ (Nat.le_add_right _ _)) h1
        refine ⟨[.list .ro xs.length (P.cellsOf e) xs.flatten],.slice hu xs k2 hb,?_,⟨rfl,trivial⟩,by simp [hc1]⟩
        simp only [RepAll,Rep]
        refine ⟨⟨by rw [k5,k1],k4,some a,cap,by rw [k1],by rw [k1]; exact hl,hm,by simp,by simp,fun hn => ?_⟩,trivial⟩
        have h0:0 < ys.length:=by rw [k6,← k1]; exact Nat.mul_pos hn hpos
        have hcell:=k7 0 _ (List.getElem?_eq_getElem h0)
        have e0:a.add 0=a:=rfl
        rw [e0] at hcell
        obtain ⟨ha,hblt⟩:=spot_none hcell
        refine ⟨a.block,a.off,ys,by rw [← ha],hblt,not_mut0 _,?_,k3⟩
        intro i x hx
        have:=k7 i x hx
        rw [← this]
        congr 1
        rw [ha]
        simp only [Addr.add]
        split
        · rename_i hi; subst hi; rfl
        · rfl
    · rename_i fs hu
      simp only [Bool.and_eq_true] at hok
      obtain ⟨hall,hpk⟩:=hok
      split at hpk
      · rename_i m hm
        have hmm:m=P.cellsOf t:=by simpa using hpk
        obtain ⟨xs,n,hf,hx,hcl,hxl,hfl⟩:=DataW.trod_struct hu h
        simp only [Prod.mk.injEq] at hx
        obtain ⟨rfl,_⟩:=hx
        have hfn:fuel=n:=by omega
        subst hfn
        obtain ⟨qs, k1, k2, k3, k4, k5, k6⟩ := known_fields (P := P) (w := w) (cs := cs) fs.toList 0 m hm (by omega) (fun i f hf => by
          have hf' : fs[i]? = some f:=by simpa using hf
          have:=hfl i f hf'
          have hi : i < xs.length := by
            have:=(Array.getElem?_eq_some_iff.1 hf').1
            omega
          rw [List.getElem?_eq_getElem hi] at this
          refine ih f.type _ (xs[i]'hi).1 (xs[i]'hi).2 (memN_iff (List.all_eq_true.1 hall f (List.mem_of_getElem? hf))) this ?_
          intro z hz
          apply hw
          simp only [DataW.weights,hu]
          exact DataW.weights_mem_each (j:=i) (t:=f.type) (d:=(xs[i]'hi).1) (by rw [List.getElem?_map,hf]; rfl) (by rw [List.getElem?_map,List.getElem?_eq_getElem hi]; rfl) z hz)
        refine ⟨qs.flatten,.struct hu qs (by rw [k1]; simp) (fun i f p hf hp=>k2 i f p (by simpa using hf) hp),?_,k4,by rw [k5,hmm]; omega⟩
        rw [List.drop_zero,Nat.sub_zero,hmm,← hcl,List.take_length] at k3
        exact k3
      · cases hpk
    · cases hok
end
end Go.Vm
end
