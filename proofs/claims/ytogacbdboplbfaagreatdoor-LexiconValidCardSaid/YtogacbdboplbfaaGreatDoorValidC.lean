/- Part 3 of the texts of this claim: the evaluator, and what it says of the program's functions. -/
import Derived.Test.YtogacbdboplbfaaGreatDoorValidB
import Derived.Maps.RangeRun
import Derived.Shelf.Strings.Builder1
import Derived.Laws.RangeAny
import Derived.Laws.IdiomStrings
set_option linter.unusedSectionVars false
set_option linter.unusedVariables false
set_option linter.unusedSimpArgs false
set_option linter.constructorNameAsVariable false
/- Codes: data of Go's types, as abstract values; specifications over data. -/
section
namespace Go.Vm
variable [Fixed]
variable {P:Program}

/-- How data lie in k cells. -/
structure Cod (α:Type) where
  k:Nat
  dec:List AV→Option α
  enc:α→List AV
  len:∀ x,(enc x).length=k
  one:∀ x,allOne (enc x)
  lt:∀ x,AV.ltAll 0 (enc x)=true
  owns:∀ x,AV.ownsAll (enc x)=[]
  de:∀ x,dec (enc x)=some x
  ro:∀ x,∀ v ∈ enc x,unfr1 v=v
  declt:∀ (cs:List AV) (x:α),dec cs=some x→AV.ltAll 0 cs=true
  rep:∀ (C:Ctx) (w:World) (cs:List AV) (us:List Value) (x:α),dec cs=some x→RepAll C w cs us→RepAll C w (enc x) us
def Cod.str:Cod ByteArray where
  k:=1
  dec:=fun | [.str s]=>some s | _=>none
  enc:=fun s=>[.str s]
  len:=fun _=>rfl
  one:=fun _=>⟨rfl,trivial⟩
  lt:=fun _=>rfl
  owns:=fun _=>rfl
  de:=fun _=>rfl
  ro:=fun x v hv=>by simp only [List.mem_singleton] at hv; subst hv; rfl
  declt := fun cs x h => by
    split at h
    · rfl
    · cases h
  rep := fun C w cs us x h hr => by
    split at h
    · simp only [Option.some.injEq] at h; subst h; exact hr
    · cases h
def Cod.int (q:IntKind):Cod Int where
  k:=1
  dec:=fun | [.int q' n]=>if q' = q then some n else none | _=>none
  enc:=fun n=>[.int q n]
  len:=fun _=>rfl
  one:=fun _=>⟨rfl,trivial⟩
  lt:=fun _=>rfl
  owns:=fun _=>rfl
  de:=fun _=>by simp
  ro:=fun x v hv=>by simp only [List.mem_singleton] at hv; subst hv; rfl
  declt := fun cs x h => by
    split at h
    · rfl
    · cases h
  rep := fun C w cs us x h hr => by
    split at h
    · split at h
      · rename_i e; simp only [Option.some.injEq] at h; subst h; subst e; exact hr
      · cases h
    · cases h
def Cod.bool:Cod Bool where
  k:=1
  dec:=fun | [.bool b]=>some b | _=>none
  enc:=fun b=>[.bool b]
  len:=fun _=>rfl
  one:=fun _=>⟨rfl,trivial⟩
  lt:=fun _=>rfl
  owns:=fun _=>rfl
  de:=fun _=>rfl
  ro:=fun x v hv=>by simp only [List.mem_singleton] at hv; subst hv; rfl
  declt := fun cs x h => by
    split at h
    · rfl
    · cases h
  rep := fun C w cs us x h hr => by
    split at h
    · simp only [Option.some.injEq] at h; subst h; exact hr
    · cases h
theorem ltAll_append {m:Nat}:∀ {a b:List AV},AV.ltAll m a=true→AV.ltAll m b=true→AV.ltAll m (a ++ b)=true
  | [],_,_,h=>h
  | x :: a, b, h, k => by
    simp only [AV.ltAll,Bool.and_eq_true,List.cons_append] at h ⊢
    exact ⟨h.1,ltAll_append h.2 k⟩
theorem ownsAll_append:∀ {a b:List AV},AV.ownsAll (a ++ b)=AV.ownsAll a ++ AV.ownsAll b
  | [],_=>rfl
  | x::a,b=>by simp only [AV.ownsAll,List.cons_append,ownsAll_append,List.append_assoc]
theorem ltAll_of_take {m:Nat}:∀ {k:Nat} {a:List AV},AV.ltAll m (a.take k)=true→AV.ltAll m (a.drop k)=true→AV.ltAll m a=true
  | k, a, h1, h2 => by
    have:=ltAll_append h1 h2
    rwa [List.take_append_drop] at this
/-- One behind the other. -/
def Cod.prod {α β:Type} (A:Cod α) (B:Cod β):Cod (α × β) where
  k:=A.k + B.k
  dec := fun cs => match A.dec (cs.take A.k), B.dec (cs.drop A.k) with
    | some a,some b=>some (a,b)
    | _,_=>none
  enc:=fun x=>A.enc x.1 ++ B.enc x.2
  len:=fun x=>by rw [List.length_append,A.len,B.len]
  one:=fun x=>(A.one x.1).append (B.one x.2)
  lt:=fun x=>ltAll_append (A.lt x.1) (B.lt x.2)
  owns:=fun x=>by rw [ownsAll_append,A.owns,B.owns]; rfl
  de := fun x => by
    have h1:(A.enc x.1 ++ B.enc x.2).take A.k=A.enc x.1:=by rw [← A.len x.1,List.take_left]
    have h2:(A.enc x.1 ++ B.enc x.2).drop A.k=B.enc x.2:=by rw [← A.len x.1,List.drop_left]
    simp only [h1,h2,A.de,B.de]
  ro := fun x v hv => by
    rcases List.mem_append.1 hv with hv | hv
    · exact A.ro _ v hv
    · exact B.ro _ v hv
  declt := fun cs x h => by
    split at h
    · rename_i a b h1 h2
      exact ltAll_of_take (A.declt _ _ h1) (B.declt _ _ h2)
    · cases h
  rep := fun C w cs us x h hr => by
    split at h
    · rename_i a b h1 h2
      simp only [Option.some.injEq] at h
      subst h
      have:=RepAll.append (A.rep C w _ _ _ h1 (hr.take A.k)) (B.rep C w _ _ _ h2 (hr.drop A.k))
      rwa [List.take_append_drop] at this
    · cases h
def Cod.iso {α β:Type} (A:Cod α) (f:α→β) (g:β→α) (h:∀ x,f (g x)=x) (h' : ∀ x,g (f x)=x):Cod β where
  k:=A.k
  dec:=fun cs=>(A.dec cs).map f
  enc:=fun x=>A.enc (g x)
  len:=fun x=>A.len _
  one:=fun x=>A.one _
  lt:=fun x=>A.lt _
  owns:=fun x=>A.owns _
  de:=fun x=>by rw [A.de,Option.map_some,h]
  ro:=fun x=>A.ro _
  declt := fun cs x hx => by
    cases ha:A.dec cs with
    | none=>rw [ha] at hx; cases hx
    | some a=>exact A.declt _ _ ha
  rep := fun C w cs us x hx hr => by
    cases ha:A.dec cs with
    | none=>rw [ha] at hx; cases hx
    | some a =>
      rw [ha] at hx
      simp only [Option.map_some,Option.some.injEq] at hx
      subst hx
      rw [h']
      exact A.rep C w _ _ _ ha hr
section
variable {α:Type} (A:Cod α)
def Cod.many:Nat→List AV→Option (List α)
  | 0,[]=>some []
  | 0,_::_=>none
  | n + 1, cs => match A.dec (cs.take A.k), Cod.many n (cs.drop A.k) with
    | some x,some l=>some (x::l)
    | _,_=>none
variable {A}
theorem Cod.many_de:∀ (l:List α),A.many l.length (l.flatMap A.enc)=some l
  | []=>rfl
  | x :: l => by
    have h1:(A.enc x ++ l.flatMap A.enc).take A.k=A.enc x:=by rw [← A.len x,List.take_left]
    have h2:(A.enc x ++ l.flatMap A.enc).drop A.k=l.flatMap A.enc:=by rw [← A.len x,List.drop_left]
    simp only [List.length_cons,Cod.many,List.flatMap_cons,h1,h2,A.de,Cod.many_de l]
theorem Cod.many_spec:∀ (n:Nat) (cs:List AV) (l:List α),A.many n cs=some l→l.length=n∧AV.ltAll 0 cs=true∧∀ C w us,RepAll C w cs us→RepAll C w (l.flatMap A.enc) us
  | 0,[],l,h=>by simp only [Cod.many,Option.some.injEq] at h; subst h; exact ⟨rfl,rfl,fun _ _ _ h=>h⟩
  | 0,_::_,l,h=>by simp [Cod.many] at h
  | n + 1, cs, l, h => by
    simp only [Cod.many] at h
    split at h
    · rename_i x l' h1 h2
      simp only [Option.some.injEq] at h
      subst h
      obtain ⟨k1,k2,k3⟩:=Cod.many_spec n _ _ h2
      refine ⟨by simp [k1],ltAll_of_take (A.declt _ _ h1) k2,fun C w us hr => ?_⟩
      have:=RepAll.append (A.rep C w _ _ _ h1 (hr.take A.k)) (k3 C w _ (hr.drop A.k))
      rwa [List.take_append_drop] at this
    · cases h
theorem Cod.flat_len:∀ (l:List α),(l.flatMap A.enc).length=l.length * A.k
  | []=>by simp
  | x::l=>by rw [List.flatMap_cons,List.length_append,A.len,Cod.flat_len l,List.length_cons,Nat.succ_mul,Nat.add_comm]
theorem Cod.flat_one:∀ (l:List α),allOne (l.flatMap A.enc)
  | []=>trivial
  | x::l=>by rw [List.flatMap_cons]; exact (A.one x).append (Cod.flat_one l)
theorem Cod.flat_lt:∀ (l:List α),AV.ltAll 0 (l.flatMap A.enc)=true
  | []=>rfl
  | x::l=>by rw [List.flatMap_cons]; exact ltAll_append (A.lt x) (Cod.flat_lt l)
theorem Cod.flat_owns:∀ (l:List α),AV.ownsAll (l.flatMap A.enc)=[]
  | []=>rfl
  | x::l=>by rw [List.flatMap_cons,ownsAll_append,A.owns,Cod.flat_owns l]; rfl
end
/-- A row. -/
def Cod.list {α:Type} (A:Cod α):Cod (List α) where
  k:=1
  dec:=fun | [.list _ n sz cs]=>if n=0 then (match cs with | []=>some [] | _=>none) else if sz=A.k then A.many n cs else none | _=>none
  enc:=fun l=>[.list .ro l.length A.k (l.flatMap A.enc)]
  len:=fun _=>rfl
  one:=fun _=>⟨rfl,trivial⟩
  lt:=fun l=>by simp only [AV.ltAll,AV.lt,Cod.flat_lt,Bool.and_self]
  owns:=fun l=>by simp only [AV.ownsAll,AV.owns,Cod.flat_owns,List.append_nil]
  de := fun l => by
    simp only
    split
    · rename_i h
      have:l=[]:=List.eq_nil_of_length_eq_zero h
      subst this
      rfl
    · simp only [if_true]
      exact Cod.many_de l
  ro:=fun x v hv=>by simp only [List.mem_singleton] at hv; subst hv; rfl
  declt := fun cs x h => by
    split at h
    · split at h
      · split at h
        · rfl
        · cases h
      · split at h
        · simp only [AV.ltAll,AV.lt,(Cod.many_spec _ _ _ h).2.1,Bool.and_self]
        · cases h
    · cases h
  rep := fun C w cs us x h hr => by
    split at h
    · rename_i lk n sz cs
      match us,hr with
      | [u], hr =>
        simp only [RepAll,and_true] at hr ⊢
        simp only [Rep] at hr ⊢
        obtain ⟨h0,h1,a,cap,h2,h3,h4,h5,h6,h7⟩:=hr
        split at h
        · rename_i hn
          subst hn
          split at h
          · simp only [Option.some.injEq] at h
            subst h
            exact ⟨by simp,trivial,a,cap,h2,h3,h4,by simp,by simp,fun h=>absurd h (by simp)⟩
          · cases h
        · rename_i hn
          split at h
          · rename_i hsz
            subst hsz
            obtain ⟨k1,k2,k3⟩:=Cod.many_spec _ _ _ h
            subst k1
            refine ⟨Cod.flat_len x,Cod.flat_one x,a,cap,h2,h3,h4,by simp,by simp,fun h => ?_⟩
            obtain ⟨b,o,us,e1,e2,e3,e4,e5⟩:=h7 h
            exact ⟨b,o,us,e1,e2,e3,e4,k3 C w us e5⟩
          · cases h
      | [],hr=>simp only [RepAll] at hr
      | _::_::_,hr=>simp only [RepAll,and_false] at hr
    · cases h
/-- An argument, or a result. -/
structure Arg (α:Type) where
  dec:AV→Option α
  enc:α→AV
  de:∀ x,dec (enc x)=some x
  lt:∀ x,AV.lt 0 (enc x)=true
  ro:∀ x,unfr (enc x)=enc x
  ro1:∀ x,unfr1 (enc x)=enc x
  declt:∀ v x,dec v=some x→AV.lt 0 v=true
  rep:∀ (C:Ctx) (w:World) (v:AV) (u:Value) (x:α),dec v=some x→Rep C w v u→Rep C w (enc x) u
theorem unfr_one {v:AV} (h:v.one=true):unfr v=unfr1 v:=by
  cases v <;> simp [AV.one] at h <;> rfl
def Arg.cell {α:Type} (A:Cod α) (hk:A.k=1):Arg α where
  dec:=fun v=>A.dec [v]
  enc:=fun x=>(A.enc x).headD .undef
  de := fun x => by
    have hl:=A.len x
    rw [hk] at hl
    match he:A.enc x,hl with
    | [y],_=>simp only [List.headD_cons]; rw [← he,A.de]
  lt := fun x => by
    have hl:=A.len x
    rw [hk] at hl
    have h:=A.lt x
    match he:A.enc x,hl with
    | [y],_=>rw [he] at h; simpa [AV.ltAll] using h
  ro := fun x => by
    have hl:=A.len x
    rw [hk] at hl
    have h:=A.ro x
    have h1:=A.one x
    match he:A.enc x,hl with
    | [y], _ =>
      rw [he] at h h1
      simp only [List.headD_cons]
      rw [unfr_one h1.1]
      exact h y (by simp)
  ro1 := fun x => by
    have hl:=A.len x
    rw [hk] at hl
    have h:=A.ro x
    match he:A.enc x,hl with
    | [y], _ =>
      rw [he] at h
      exact h y (by simp)
  declt := fun v x h => by
    have:=A.declt _ _ h
    simpa [AV.ltAll] using this
  rep := fun C w v u x h hr => by
    have hl:=A.len x
    rw [hk] at hl
    have:=A.rep C w [v] [u] x h (by simp only [RepAll,and_true]; exact hr)
    match he:A.enc x,hl with
    | [y], _ =>
      rw [he] at this
      simp only [RepAll,and_true] at this
      exact this
def Arg.agg {α:Type} (A:Cod α):Arg α where
  dec:=fun | .agg cs=>A.dec cs | _=>none
  enc:=fun x => .agg (A.enc x)
  de:=fun x=>A.de x
  lt:=fun x=>by simp only [AV.lt]; exact A.lt x
  ro:=fun x=>rfl
  ro1:=fun x=>rfl
  declt := fun v x h => by
    split at h
    · simp only [AV.lt]; exact A.declt _ _ h
    · cases h
  rep := fun C w v u x h hr => by
    split at h
    · simp only [Rep] at hr ⊢
      obtain ⟨_,us,e,hr⟩:=hr
      exact ⟨A.one x,us,e,A.rep C w _ _ _ h hr⟩
    · cases h
def Arg.tup2 {α β:Type} (A:Arg α) (B:Arg β):Arg (α × β) where
  dec:=fun | .tup [a,b]=>(match A.dec a,B.dec b with | some x,some y=>some (x,y) | _,_=>none) | _=>none
  enc:=fun x => .tup [A.enc x.1,B.enc x.2]
  de:=fun x=>by simp only [A.de,B.de]
  lt:=fun x=>by simp only [AV.lt,AV.ltAll,A.lt,B.lt,Bool.and_self]
  ro:=fun x=>by simp only [unfr,A.ro1]
  ro1:=fun x=>rfl
  declt := fun v x h => by
    split at h
    · split at h
      · rename_i h1 h2
        simp only [AV.lt,AV.ltAll,A.declt _ _ h1,B.declt _ _ h2,Bool.and_self]
      · cases h
    · cases h
  rep := fun C w v u x h hr => by
    split at h
    · split at h
      · rename_i h1 h2
        simp only [Option.some.injEq] at h
        subst h
        simp only [Rep] at hr ⊢
        obtain ⟨us,e,hr⟩:=hr
        refine ⟨us,e,?_⟩
        match us,hr with
        | [u1, u2], hr =>
          simp only [RepAll,and_true] at hr ⊢
          exact ⟨A.rep C w _ _ _ h1 hr.1,B.rep C w _ _ _ h2 hr.2⟩
        | [],hr=>simp only [RepAll] at hr
        | [_],hr=>simp only [RepAll,and_false] at hr
        | _::_::_::_,hr=>simp only [RepAll,and_false] at hr
      · cases h
    · cases h
/-! ### specifications over data -/
def Spec.on (T:Spec) (f:FuncId) (s:List AV→Option AV):Spec:=fun g vs=>if Nat.beq g f then s vs else T g vs
theorem SpecOk.none' : SpecOk P fun _ _=>none:=fun _ _ _ h=>by cases h
theorem SpecOk.on {T:Spec} (hT:SpecOk P T) {f:FuncId} {s:List AV→Option AV} (h:∀ vs r,s vs=some r→CallAt P f vs [] 0 r []):SpecOk P (T.on f s):=by
  intro g vs r hr
  unfold Spec.on at hr
  split at hr
  · rename_i e
    have e:=Nat.eq_of_beq_eq_true e
    subst e
    exact h vs r hr
  · exact hT g vs r hr
section
variable {α β γ δ:Type}
def sp1 (A:Arg α) (g:α→Option AV):List AV→Option AV
  | [a] => match A.dec a with
    | some x=>g x
    | none=>none
  | _=>none
def sp2 (A:Arg α) (B:Arg β) (g:α→β→Option AV):List AV→Option AV
  | [a, b] => match A.dec a, B.dec b with
    | some x,some y=>g x y
    | _,_=>none
  | _=>none
theorem CallAt.args {f:FuncId} {vs vs' : List AV} {σ:List Ob} {ro:Nat} {r:AV} {σ' : List Ob} (h:CallAt P f vs' σ ro r σ') (hr:∀ C w us,RepAll C w vs us→RepAll C w vs' us):CallAt P f vs σ ro r σ' :=
  ⟨h.1,fun C w us hσ hs hro hu=>h.2 C w us hσ hs hro (hr C w us hu)⟩
theorem CallAt.res {B:Arg β} {f:FuncId} {vs:List AV} {σ:List Ob} {ro:Nat} {r:AV} {y:β} {σ' : List Ob} (h:CallAt P f vs σ ro r σ') (hd:B.dec r=some y):CallAt P f vs σ ro (B.enc y) σ' := by
  refine ⟨h.1,fun C w us hσ hs hro hu=>Calls.mono (h.2 C w us hσ hs hro hu) ?_⟩
  rintro e w' ⟨u,C',h1,h2,h3,h4,h5,h6⟩
  refine ⟨u,C',h1,h2,h3,h4,B.rep C' w' r u y hd h5,?_⟩
  rw [← B.ro y]
  exact fresh_unfr
theorem run_res {X:Ext} (hX:ExtOk P X) {call:Caller} (hc:CallOk P call) {B:Arg β} {f:FuncId} {fn:Func} {lf:Nat} {fg:Nat→List Nat} {vs:List AV} {r:AV} {y:β} {σ' : List Ob}
    (hd:X.dom f=true) (hf:P.funcs[f]? = some fn) (hb:fn.body=some (codeOf fn)) (hv:vbody P X call lf fg fn (codeOf fn) vs [] 0=some (r,σ')) (hdec:B.dec r=some y):CallAt P f vs [] 0 (B.enc y) [] :=
  ((body_at hX hc hd hf hb hv).clean (B.declt _ _ hdec)).res hdec
theorem SpecOk.on1 {T:Spec} (hT:SpecOk P T) {f:FuncId} {A:Arg α} {g:α→Option AV} (h:∀ x r,g x=some r→CallAt P f [A.enc x] [] 0 r []):SpecOk P (T.on f (sp1 A g)):=by
  refine hT.on fun vs r hr => ?_
  unfold sp1 at hr
  split at hr
  · split at hr
    · rename_i x hx
      refine (h x r hr).args fun C w us hu => ?_
      match us,hu with
      | [u],hu=>simp only [RepAll,and_true] at hu ⊢; exact A.rep C w _ _ _ hx hu
      | [],hu=>simp only [RepAll] at hu
      | _::_::_,hu=>simp only [RepAll,and_false] at hu
    · cases hr
  · cases hr
theorem SpecOk.on2 {T:Spec} (hT:SpecOk P T) {f:FuncId} {A:Arg α} {B:Arg β} {g:α→β→Option AV} (h:∀ x y r,g x y=some r→CallAt P f [A.enc x,B.enc y] [] 0 r []):SpecOk P (T.on f (sp2 A B g)):=by
  refine hT.on fun vs r hr => ?_
  unfold sp2 at hr
  split at hr
  · split at hr
    · rename_i x y hx hy
      refine (h x y r hr).args fun C w us hu => ?_
      match us,hu with
      | [u,v],hu=>simp only [RepAll,and_true] at hu ⊢; exact ⟨A.rep C w _ _ _ hx hu.1,B.rep C w _ _ _ hy hu.2⟩
      | [],hu=>simp only [RepAll] at hu
      | [_],hu=>simp only [RepAll,and_false] at hu
      | _::_::_::_,hu=>simp only [RepAll,and_false] at hu
    · cases hr
  · cases hr
/-- A call told by a specification, whatever the store. -/
theorem call_on {X:Ext} {T:Spec} {f:FuncId} {vs:List AV} {y:β} {B:Arg β} {σ:List Ob} {ro:Nat} {dr:Bool} (h1:X.pureFn f=none) (h2:X.stFn f=none) (ha:X.adopt f=false) (hl:AV.ltAll 0 vs=true) (h:T f vs=some (B.enc y)):callv X (callerOf T) dr f vs σ ro=some (B.enc y,σ):=by
  rw [call_spec h1 h2 hl h (B.lt y),ha,Bool.and_false,B.ro]
  rfl
theorem sp1_at {A:Arg α} {g:α→Option AV} {v:AV} {x:α} (h:A.dec v=some x):sp1 A g [v]=g x:=by simp only [sp1,h]
theorem sp2_at {A:Arg α} {B:Arg β} {g:α→β→Option AV} {v u:AV} {x:α} {y:β} (h:A.dec v=some x) (k:B.dec u=some y):sp2 A B g [v,u]=g x y:=by simp only [sp2,h,k]
end
end Go.Vm
end
/- Code whose end is not one state alone: a test of a row against nil, a range over a map in whatever order. -/
section
namespace Go.Vm
open Go.RowKit (Below)
variable [Fixed]
variable {P:Program} {C:Ctx} {w:World}

/-- Code c, begun in S, ends in one of R's states. -/
def SR (P:Program) (ro:Nat) (ds:List Deferred) (c:Code) (S:St) (R:Ex→St→Prop):Prop :=
  ∀ (C : Ctx) (w : World) (a : Act) (Q : Exit → Act → World → Prop), At C w S a ds → ro ≤ C.σ.length →
    (∀ x S' C' w' a',R x S' → At C' w' S' a' ds→Grow ro C w C' w' → Q x.toExit a' w')→c.wp P Q a w
section
variable {ro:Nat} {ds:List Deferred} {R R' R1:Ex→St→Prop}
theorem SR.mono {c:Code} {S:St} (h:SR P ro ds c S R) (hR:∀ x T,R x T→R' x T):SR P ro ds c S R' :=
  fun C w a Q hat hro hQ=>h C w a Q hat hro fun x S' C' w' a' h1=>hQ x S' C' w' a' (hR x S' h1)
theorem SR.exec {X:Ext} (hX:ExtOk P X) {call:Caller} (hc:CallOk P call) {lf:Nat} {fg:Nat→List Nat} {c:Code} (hok:codeOk c=true) {S S' : St} {x:Ex} (h:vexec P X call lf ro fg c S=some (x,S')):SR P ro ds c S fun y T=>y=x∧T=S' :=
  fun C w a Q hat hro hQ=>vexec_sound hX hc c hok C w S S' a x Q h hat hro fun C' w' a' h1 h2=>hQ x S' C' w' a' ⟨rfl,rfl⟩ h1 h2
theorem SR.seq {c d:Code} {S:St} (h:SR P ro ds c S R1) (hn:∀ T,R1 .normal T→SR P ro ds d T R) (ho:∀ x T,x ≠ .normal→R1 x T→R x T):SR P ro ds (.seq c d) S R:=by
  intro C w a Q hat hro hQ
  apply wp_seq
  refine h C w a _ hat hro ?_
  intro x T C1 w1 a1 hR hat1 hg1
  cases x with
  | normal=>exact hn T hR C1 w1 a1 Q hat1 (Nat.le_trans hro hg1.len) fun x S' C' w' a' h1 h2 h3=>hQ x S' C' w' a' h1 h2 (hg1.trans hat1.ok h3)
  | exit id=>exact hQ _ T C1 w1 a1 (ho _ _ (by simp) hR) hat1 hg1
  | ret=>exact hQ _ T C1 w1 a1 (ho _ _ (by simp) hR) hat1 hg1
theorem SR.cond {y:Operand} {c d:Code} {S:St} {b:Bool} (he:ev S y=some (.bool b)) (h:SR P ro ds (if b then c else d) S R):SR P ro ds (.cond y c d) S R:=by
  intro C w a Q hat hro hQ
  have:=ev_run hat.tmps he
  simp only [Rep] at this
  cases b with
  | true=>exact wp_cond_true this (h C w a Q hat hro hQ)
  | false=>exact wp_cond_false this (h C w a Q hat hro hQ)
theorem SR.block {id:Nat} {c:Code} {S:St} (h:SR P ro ds c S fun x T=>match x with | .exit id' => if id' = id then R .normal T else R (.exit id') T | x=>R x T):SR P ro ds (.block id c) S R:=by
  intro C w a Q hat hro hQ
  apply wp_block
  refine h C w a _ hat hro ?_
  intro x T C1 w1 a1 hR hat1 hg1
  cases x with
  | normal=>exact hQ _ T C1 w1 a1 hR hat1 hg1
  | ret=>exact hQ _ T C1 w1 a1 hR hat1 hg1
  | exit id' =>
    simp only [Ex.toExit,Exit.inBlock]
    simp only at hR
    split at hR
    · rename_i e
      rw [if_pos e]
      exact hQ .normal T C1 w1 a1 hR hat1 hg1
    · rename_i e
      rw [if_neg e]
      exact hQ _ T C1 w1 a1 hR hat1 hg1
theorem SR.skip {S:St} (h:R .normal S):SR P ro ds .skip S R:=fun C w a _ hat _ hQ=>wp_skip (hQ .normal S C w a h hat (Grow.refl ..))
theorem SR.ret {S:St} (h:R .ret S):SR P ro ds .ret S R:=fun C w a _ hat _ hQ=>wp_ret (hQ .ret S C w a h hat (Grow.refl ..))
theorem SR.forget {c:Code} {S:St} (ts:List Nat) (h:SR P ro ds c (forget ts S) R):SR P ro ds c S R:=fun C w a Q hat hro hQ=>h C w a Q (hat.forget ts) hro hQ
/-- A row, tested against nil: whatever comes of it. -/
theorem SR.nilTest {X:Ext} (hX:ExtOk P X) {call:Caller} (hc:CallOk P call) {id:Nat} {ops:Array Oper} {pre:List Oper} {o:Oper} {S S1:St} {t e:TypeId} {x:Operand} {nb d n sz:Nat} {k:LK} {cs:List AV} (hops:ops.toList=pre ++ [o]) (hpre:vops P X call false ro ops pre S=some S1)
    (ho:o.op = .binOp .eql t x (.const (.slice none 0 0)) nb) (hg:o.guard=none) (hd:o.dst=some d) (hu:P.underlying t=some (.slice e)) (hx:ev S1 x=some (.list k n sz cs)) :
    SR P ro ds (.region id ops false) S fun z T=>z = .normal∧∃ b,(b=true→n=0)∧T=⟨setN S1.tmps d (.bool b),S1.st⟩:=by
  intro C w a Q hat hro hQ
  refine wp_region_list ?_
  rw [hops]
  refine vops_app hX hc pre hpre hat hro fun C1 w1 a1 hat1 hg1 => ?_
  have hw:Region.wanted o (yielded ops a1.tmps)=true:=by simp [Region.wanted,hg]
  simp only [wpList]
  rw [if_pos hw]
  left
  have hr:=ev_run hat1.tmps hx
  simp only [Rep] at hr
  obtain ⟨_,_,p,cap,hval,_,_,_,_,h7⟩:=hr
  have hnil : p.isNone = true → n = 0 := by
    intro hp
    rcases Nat.eq_zero_or_pos n with h0 | h0
    · exact h0
    · obtain ⟨b, o, us, e1, _⟩ := h7 h0
      rw [e1] at hp
      simp at hp
  have hrun : (execOp a1.eval o).run P w1 = .ok (.value (.bool p.isNone)) w1 := by
    have h1:=equal_sl (P:=P) (w:=w1) hu p none n 0 cap 0 (.inr rfl)
    simp only [Option.isNone_none,Bool.and_true] at h1
    have hgu:=guard_plain (P:=P) (w:=w1) (op := .eql) (t:=t) (x:=x) (y := .const (.slice none 0 0)) (a := .slice p n cap) (b := .slice none 0 0) (by simp) (by simp)
    have hb : (binOp .eql t (.slice p n cap) (.slice none 0 0)).run P w1 = .ok (.bool p.isNone) w1 := by
      simp only [binOp,Sem.run_bind,h1,Result.andThen,Sem.run_pure]
    have he2:a1.eval (.const (.slice none 0 0)) = .slice none 0 0:=rfl
    simp only [execOp,ho,hval,he2,Sem.run_bind,hgu,Result.andThen,hb,Sem.run_pure]
  refine wp_value hrun ?_
  have hst:=hat1.step (d:=o.dst) hat1.ok (Grow.refl ro C1 w1) (v := .bool p.isNone) (u := .bool p.isNone) (by simp only [Rep])
  rw [hd] at hst ⊢
  refine hQ .normal ⟨setN S1.tmps d (.bool p.isNone),S1.st⟩ C1 w1 _ ⟨rfl,_,hnil,rfl⟩ ?_ hg1
  exact ⟨hat1.st,hst.ok,hst.tmps,hst.defers⟩
end
/-- A function whose end is not one state alone, but one answer. -/
theorem call_rel {β : Type} {B : Arg β} {f : FuncId} {fn : Func} {c : Code} {vs : List AV} {y : β} {R : Ex → St → Prop} (hf : P.funcs[f]? = some fn) (hb : fn.body = some c) (hname : ¬ fn.name = "runtime.NumGoroutine")
    (h:SR P 0 [] c { tmps:=vs ++ List.replicate (fn.ntmps - vs.length) .undef,st:=[] } R) (hR:∀ x T,R x T→(x = .normal ∨ x = .ret)∧∃ r σ',vend P fn [] 0 T=some (r,σ')∧B.dec r=some y):CallAt P f vs [] 0 (B.enc y) []:=by
  refine ⟨⟨fn,hf,by rw [hb]; rfl,hname⟩,?_⟩
  intro C w us hσ hs hro hr
  have hat : At C w { tmps := vs ++ List.replicate (fn.ntmps - vs.length) .undef, st := [] } { tmps := us.toArray ++ Array.replicate (fn.ntmps - us.toArray.size) undef, defers := [] } [] := by
    refine ⟨hσ.symm,hs,?_,rfl⟩
    have hrep : ∀ k, RepAll C w (List.replicate k AV.undef) (List.replicate k undef) := by
      intro k
      induction k with
      | zero=>simp only [List.replicate_zero,RepAll]
      | succ k ih=>simp only [List.replicate_succ,RepAll,Rep]; exact ⟨trivial,ih⟩
    have:=hr.append (hrep (fn.ntmps - vs.length))
    have e:fn.ntmps - us.length=fn.ntmps - vs.length:=by rw [hr.length]
    simpa [e] using this
  refine calls_of_wp hf hb (h C w _ _ hat (Nat.zero_le _) ?_)
  intro x T C1 w1 a1 hRx hat1 hg1
  obtain ⟨hxx,r,σ',hend,hdec⟩:=hR x T hRx
  obtain ⟨u,C',e1,e2,e3,e4,e5,e6⟩:=vend_run hend hat1 hσ hg1
  obtain ⟨t1,t2,t3⟩:=take_ok (m:=0) (v:=r) (u:=u) (by rw [hσ]; rfl) e3 e4 (by simp [ltObs]) (B.declt _ _ hdec) e5
  have hfr:∀ C'' w',Fresh C'' w w' (B.enc y) u:=fun C'' w' => by rw [← B.ro y]; exact fresh_unfr
  rcases hxx with rfl | rfl <;> exact ⟨hat1.defers,u,e1,u,_,rfl,by simp,t1,t2,B.rep _ _ _ _ _ hdec t3,hfr _ _⟩
/-! ### ranging over a map, in whatever order -/
/-- An address, as a value. -/
def ptrV (r:Nat):AV := .raw (.pointer (some ⟨r,0,none⟩))
theorem Grow.le {ro ro' : Nat} {C' : Ctx} {w' : World} (h:Grow ro' C w C' w') (hle:ro ≤ ro'):Grow ro C w C' w' :=
  ⟨h.os,h.tape,h.output,h.size,h.forb,fun b hb hk=>h.blk b hb fun id o hi=>hk id o (Nat.le_trans hle hi),h.may,h.turn,fun id hi=>h.low id (Nat.lt_of_lt_of_le hi hle)⟩
def Ctx.with (C:Ctx) (fb:Nat→Prop):Ctx:=⟨C.σ,C.φ,C.κ,fb⟩
/-- Less is forbidden. -/
theorem less_ok {fb:Nat→Prop} (hs:SOk C w) (hle:∀ b,fb b→C.forb b):SOk (C.with fb) w∧Keeps C w (C.with fb) w:=by
  have hmay : ∀ b, Mut (C.with fb) b → Mut C b := by
    rintro b (h | h)
    · exact .inl (hle b h)
    · exact .inr h
  have hk:Keeps C w (C.with fb) w:=⟨Nat.le_refl _,fun _ _ _=>rfl,fun b _ h=>hmay b h,fun _ o h=>⟨o,h,Turn.refl o ⟨rfl,rfl⟩⟩⟩
  exact ⟨⟨hs.blk,hs.inj,fun id o h=>ObOk.mono hk (fun _=>rfl) (hs.ob id o h),fun id o h hl hf=>hs.nof id o h hl (hle _ hf),fun b hb=>hs.fb b (hle b hb),hs.fx⟩,hk⟩
/-- A block that is new, and that nothing may read. -/
theorem bar_new (hs:SOk C w) {X:Obj}:SOk (C.bar w.heap.size) (w.alloc X)∧Keeps C w (C.bar w.heap.size) (w.alloc X):=by
  have hget : ∀ b, b < w.heap.size → (w.alloc X).heap[b]? = w.heap[b]? := fun b hb => by
    show (w.heap.push X)[b]? = _
    rw [Array.getElem?_push_lt hb,Array.getElem?_eq_getElem hb]
  have hsz : (w.alloc X).heap.size = w.heap.size + 1 := by
    show (w.heap.push X).size=_
    simp
  have hk : Keeps C w (C.bar w.heap.size) (w.alloc X) := by
    refine ⟨by omega,fun b hb _=>hget b hb,fun b hb h => ?_,fun _ o h=>⟨o,h,Turn.refl o ⟨rfl,rfl⟩⟩⟩
    rcases h with h | h
    · rcases h with h | h
      · exact .inl h
      · omega
    · exact .inr h
  refine ⟨⟨fun id o h hl => ?_,hs.inj,fun id o h=>ObOk.mono hk (fun hl=>hget _ (hs.blk id o h hl)) (hs.ob id o h),fun id o h hl hf => ?_,fun b hb => ?_,fun b X hX => ?_⟩,hk⟩
  · have := hs.blk id o h hl
    show C.φ id < _
    omega
  · rcases hf with hf | hf
    · exact hs.nof id o h hl hf
    · have := hs.blk id o h hl
      have:C.φ id=w.heap.size:=hf
      omega
  · rcases hb with hb | hb
    · have:=hs.fb b hb; omega
    · omega
  · obtain ⟨h1, h2⟩ := hs.fx b X hX
    have hb:=(Array.getElem?_eq_some_iff.1 h1).1
    exact ⟨(hget b hb).trans h1,h2⟩
/-- A forbidden block turns. -/
theorem forb_turn (hs:SOk C w) {r:Nat} {w' : World} (hr:C.forb r) (hfix:∀ X,¬ Fixed.fix r X) (hsize:w'.heap.size=w.heap.size) (hblk:∀ b,b ≠ r→w'.heap[b]? = w.heap[b]?):SOk C w' ∧ Keeps C w C w' := by
  have hk:Keeps C w C w' := ⟨by omega,fun b _ hm=>hblk b fun e=>hm (.inl (e ▸ hr)),fun _ _ h=>h,fun _ o h=>⟨o,h,Turn.refl o ⟨rfl,rfl⟩⟩⟩
  refine ⟨⟨fun id o h hl=>by rw [hsize]; exact hs.blk id o h hl,hs.inj,fun id o h=>ObOk.mono hk (fun hl=>hblk _ fun e=>hs.nof id o h hl (e ▸ hr)) (hs.ob id o h),hs.nof,fun b hb=>by rw [hsize]; exact hs.fb b hb,fun b X hX => ?_⟩,hk⟩
  obtain ⟨h1,h2⟩:=hs.fx b X hX
  exact ⟨(hblk b fun e=>hfix X (e ▸ hX)).trans h1,h2⟩
theorem setBlock_get {w:World} {r b:Nat} {X:Obj} (hb:b ≠ r):(ChangeMaps.setBlock w r X).heap[b]? = w.heap[b]? := by
  simp [ChangeMaps.setBlock,Array.getElem?_setIfInBounds,Ne.symm hb]
theorem RepEs.at {C:Ctx} {w:World}:∀ {es:List (AV × AV)} {ms:List MapEntry},RepEs C w es ms→es.length=ms.length∧∀ (i:Nat) (m:MapEntry),ms[i]? = some m→Rep C w (es.getD i default).1 m.key∧Rep C w (es.getD i default).2 m.val
  | [],[],_=>⟨rfl,fun i m h=>by simp at h⟩
  | e :: es, m :: ms, h => by
    simp only [RepEs] at h
    obtain ⟨h1,h2⟩:=RepEs.at h.2.2
    refine ⟨by simp [h1],fun i x hx => ?_⟩
    cases i with
    | zero =>
      simp only [List.getElem?_cons_zero,Option.some.injEq] at hx
      subst hx
      exact ⟨h.1.2,h.2.1⟩
    | succ i=>exact h2 i x (by simpa using hx)
  | [],_::_,h=>by simp [RepEs] at h
  | _::_,[],h=>by simp [RepEs] at h
/-- The entries at some places, and those that are left. -/
theorem rest_perm {es:List (AV × AV)} {il:List Nat} (hn:il.Nodup) (hlt:∀ i ∈ il,i < es.length):∃ tl,(il.map (fun i=>es.getD i default) ++ tl).Perm es:=by
  refine ⟨((List.range es.length).filter fun i => !il.contains i).map fun i=>es.getD i default,?_⟩
  rw [← List.map_append]
  have hp : (il ++ (List.range es.length).filter fun i => !il.contains i).Perm (List.range es.length) := by
    refine (List.perm_ext_iff_of_nodup ?_ List.nodup_range).2 fun i => ?_
    · rw [List.nodup_append]
      refine ⟨hn,List.Nodup.sublist List.filter_sublist List.nodup_range,fun a ha b hb e => ?_⟩
      subst e
      have:=(List.mem_filter.1 hb).2
      simp [ha] at this
    · simp only [List.mem_append, List.mem_filter, List.mem_range]
      constructor
      · rintro (h | h)
        · exact hlt i h
        · exact h.1
      · intro h
        by_cases hi:i ∈ il
        · exact .inl hi
        · exact .inr ⟨h,by simpa using hi⟩
  have h2:=hp.map fun i=>es.getD i default
  have h3 : (List.range es.length).map (fun i => es.getD i default) = es := by
    apply List.ext_getElem (by simp)
    intro i h1 h2
    simp only [List.getElem_map,List.getElem_range]
    rw [List.getD_eq_getElem?_getD,List.getElem?_eq_getElem h2]
    rfl
  rwa [h3] at h2
theorem full_perm {es:List (AV × AV)} {il:List Nat} (hn:il.Nodup) (hlt:∀ i ∈ il,i < es.length) (hall:∀ i,i < es.length→i ∈ il):(il.map (fun i=>es.getD i default)).Perm es:=by
  have hp:il.Perm (List.range es.length):=(List.perm_ext_iff_of_nodup hn List.nodup_range).2 fun i=>⟨fun h=>List.mem_range.2 (hlt i h),fun h=>hall i (List.mem_range.1 h)⟩
  have h2:=hp.map fun i=>es.getD i default
  have h3 : (List.range es.length).map (fun i => es.getD i default) = es := by
    apply List.ext_getElem (by simp)
    intro i h1 h2
    simp only [List.getElem_map,List.getElem_range]
    rw [List.getD_eq_getElem?_getD,List.getElem?_eq_getElem h2]
    rfl
  rwa [h3] at h2
/-- On the way: what has come is at the places il. -/
structure Rng (C0:Ctx) (w0:World) (ro id b r:Nat) (ms:Array MapEntry) (clock:Nat) (fb:Nat→Prop) (il:List Nat) (C:Ctx) (w:World):Prop where
  forb:∀ x,C.forb x ↔ fb x ∨ x=r
  phi:C.φ id=b
  map:w.heap[b]? = some (.map ms clock)
  iter:∃ c0 seen,clock ≤ c0∧w.heap[r]? = some (.mapIter (some b) clock seen c0)∧seen.toList=il.map fun i=>(ms.toList.getD i default).born
  grow:Grow ro C0 w0 (C.with fb) w
  new:w0.heap.size ≤ r
  fix:∀ X,¬ Fixed.fix r X
/-- The machine takes a step that the store tells of: the iterator and the map stay. -/
theorem Rng.move {C0 C C' : Ctx} {w0 w w' : World} {ro id b r:Nat} {ms:Array MapEntry} {clock:Nat} {fb:Nat→Prop} {il:List Nat} (h:Rng C0 w0 ro id b r ms clock fb il C w) (hs:SOk C w) (hs' : SOk C' w') (hid:(∃ es,C.σ[id]? = some (.mapo es)) ) (hro:ro ≤ id + 1) (hg:Grow (id + 1) C w C' w'):Rng C0 w0 ro id b r ms clock fb il C' w' ∧ w'.heap[r]? = w.heap[r]? := by
  obtain ⟨c0,seen,k1,k2,k3⟩:=h.iter
  obtain ⟨es,hes⟩:=hid
  have hb:b < w.heap.size:=(Array.getElem?_eq_some_iff.1 h.map).1
  have hr:r < w.heap.size:=(Array.getElem?_eq_some_iff.1 k2).1
  have e1 : w'.heap[b]? = w.heap[b]? := hg.blk b hb fun i o hi ho hl e => by
    have:=hs.inj i id o _ ho hl hes trivial (by rw [e,h.phi])
    omega
  have e2:w'.heap[r]? = w.heap[r]? := hg.blk r hr fun i o hi ho hl e=>hs.nof i o ho hl ((h.forb _).2 (.inr e))
  have hforb:∀ x,C'.forb x ↔ fb x ∨ x=r:=fun x=>by rw [hg.forb]; exact h.forb x
  have hl1:=less_ok (fb:=fb) hs (fun x hx=>(h.forb x).2 (.inl hx))
  have hl2:=less_ok (fb:=fb) hs' (fun x hx=>(hforb x).2 (.inl hx))
  have hg2 : Grow ro (C.with fb) w (C'.with fb) w' := by
    have hle:=hg.le hro
    refine ⟨hg.os,hg.tape,hg.output,hg.size,rfl,hle.blk,fun x hx hm => ?_,hg.turn,hle.low⟩
    rcases hm with hf | ⟨i,o,q1,q2,q3⟩
    · exact .inl hf
    · rcases hg.may x hx (.inr ⟨i, o, q1, q2, q3⟩) with hf | hm
      · rcases (h.forb x).1 hf with hf | hf
        · exact .inl hf
        · exact absurd ((hforb _).2 (.inr (q3.trans hf))) (hs'.nof i o q1 q2)
      · exact .inr hm
  exact ⟨⟨hforb,(hg.low id (Nat.lt_succ_self _)).2.1.trans h.phi,e1.trans h.map,⟨c0,seen,k1,e2.trans k2,k3⟩,h.grow.trans hl1.1 hg2,h.new,h.fix⟩,e2⟩
/-- What stands ready for a range over a map: the code's parts, and the states. -/
structure RangeAt (P:Program) (X:Ext) (call:Caller) (ro:Nat) (ds:List Deferred) (ops8 ops9 ops10:Array Oper) (rest:Code) (cc:Tmp) (S:St) (id:Nat) (es:List (AV × AV)) (Dk:List Nat) (F:List (AV × AV)→Nat→St) (d9:Tmp) (RR:St→Prop):Prop where
  first : ∃ pre8 o8 t kt vt xm S1 d8 n9 x9 e10 post d10, ops8.toList = pre8 ++ [o8] ∧ vops P X call false ro ops8 pre8 S = some S1 ∧ o8.op = .range t xm ∧ o8.guard = none ∧ o8.dst = some d8 ∧ P.underlying t = some (.map kt vt) ∧ ev S1 xm = some (.map id) ∧ S1.st[id]? = some (.mapo es) ∧
    ops9.toList=[n9,x9]∧n9.op = .next (.tmp d8) false∧n9.guard=none∧n9.dst=some d9∧x9.op = .extract (.tmp d9) 0∧x9.guard=none∧x9.dst=some cc∧ops10.toList=e10::post∧e10.op = .entry (.tmp d8)∧e10.guard=none∧e10.dst=some d10 ∧
    (∀ r,forget Dk ⟨setN S1.tmps d8 (ptrV r),S1.st⟩=F [] r)∧(∀ done r,nth (F done r).tmps d8=ptrV r)∧d9 ≠ d8∧cc ≠ d8∧(∀ done r,d9 < (F done r).tmps.length∧cc < (F done r).tmps.length) ∧
    (∀ done e tl r, (done ++ e :: tl).Perm es → ∃ S2, vops P X call false (id + 1) ops10 post ⟨setN (setN (setN (F done r).tmps d9 (.tup [.bool true, e.1, e.2])) cc (.bool true)) d10 (.tup [e.1, e.2]), (F done r).st⟩ = some S2 ∧
      SR P (id + 1) ds rest S2 fun x T=>(x = .normal∧forget Dk T=F (done ++ [e]) r) ∨ (x = .ret∧RR T))
  store:∀ done r,(F done r).st[id]? = some (.mapo es)
theorem SR.ranges {X:Ext} (hX:ExtOk P X) {call:Caller} (hc:CallOk P call) {ro:Nat} {ds:List Deferred} {i8 i9 i10 kb kc:Nat} {ops8 ops9 ops10:Array Oper} {rest:Code} {cc d9:Tmp} {S:St} {id:Nat} {es:List (AV × AV)} {Dk:List Nat} {F:List (AV × AV)→Nat→St} {RR:St→Prop}
    (h:RangeAt P X call ro ds ops8 ops9 ops10 rest cc S id es Dk F d9 RR) (hroid:ro ≤ id + 1) :
    SR P ro ds (.seq (.region i8 ops8 false) (.block kb (.loop (.seq (.region i9 ops9 false) (.seq (.cond (.tmp cc) .skip (.exit kb)) (.block kc (.seq (.region i10 ops10 false) rest))))))) S
      fun x T=>(x = .normal∧∃ done r,done.Perm es∧T=⟨setN (setN (F done r).tmps d9 (.tup [.bool false])) cc (.bool false),(F done r).st⟩) ∨ (x = .ret∧RR T):=by
  obtain ⟨⟨pre8,o8,t,kt,vt,xm,S1,d8,n9,x9,e10,post,d10,hops8,hpre,h8,g8,q8,hu,hx,hid,hops9,h9,g9,q9,hx9,gx9,qx9,hops10,h10,g10,q10,hF0,hF8,hne9,hnecc,hlen,step⟩,hstore⟩:=h
  intro C0 w0 a0 Q hat0 hro hQ
  apply wp_seq
  refine wp_region_list ?_
  rw [hops8]
  refine vops_app hX hc pre8 hpre hat0 hro fun C w a hat hg0 => ?_
  have hw8:Region.wanted o8 (yielded ops8 a.tmps)=true:=by simp [Region.wanted,g8]
  simp only [wpList]
  rw [if_pos hw8]
  left
  have hidC:C.σ[id]? = some (.mapo es):=by rw [← hat.st]; exact hid
  obtain ⟨ms,clock,hb,hst,hes⟩:=hat.ok.ob id _ hidC
  have hxr:=ev_run hat.tmps hx
  simp only [Rep] at hxr
  have hrun8 : (execOp a.eval o8).run P w = .ok (.value (.pointer (some ⟨w.heap.size, 0, none⟩))) (w.alloc (.mapIter (some (C.φ id)) clock #[] clock)) := by
    simp only [execOp,h8,hxr.2,Sem.run_bind,run_range_map w t kt vt (C.φ id) ms clock hu hb,Result.andThen,Sem.run_pure]
  refine wp_value hrun8 ?_
  obtain ⟨hs1,hk1⟩:=bar_new (X := .mapIter (some (C.φ id)) clock #[] clock) hat.ok
  generalize hr:w.heap.size=r at *
  generalize hw1:w.alloc (.mapIter (some (C.φ id)) clock #[] clock)=w1 at *
  have hget : ∀ x, x < r → w1.heap[x]? = w.heap[x]? := fun x hx => by
    rw [← hw1]
    show (w.heap.push _)[x]? = _
    rw [Array.getElem?_push_lt (by omega),Array.getElem?_eq_getElem (by omega)]
  have hrget : w1.heap[r]? = some (.mapIter (some (C.φ id)) clock #[] clock) := by
    rw [← hw1,← hr]
    show (w.heap.push _)[w.heap.size]? = _
    simp
  have hat1 : At (C.bar r) w1 ⟨setN S1.tmps d8 (ptrV r), S1.st⟩ (a.put o8.dst (.pointer (some ⟨r, 0, none⟩))) ds := by
    refine ⟨hat.st,hs1,?_,(put_tmps _ _ _).2.trans hat.defers⟩
    rw [(put_tmps _ _ _).1,q8]
    exact set_rep2 (RepAll.mono hk1 _ _ hat.tmps) (by simp only [ptrV,Rep])
  have hblt:C.φ id < r:=by rw [← hr]; exact hat.ok.blk id _ hidC trivial
  have hforb:C.forb=C0.forb:=hg0.forb
  have hfixr : ∀ X, ¬ Fixed.fix r X := fun X hX => by
    have:=(hat.ok.fx r X hX).1
    have:=(Array.getElem?_eq_some_iff.1 this).1
    omega
  have hR0 : Rng C0 w0 ro id (C.φ id) r ms clock C0.forb [] (C.bar r) w1 := by
    refine ⟨fun x=>by rw [← hforb]; rfl,rfl,(hget _ hblt).trans hb,⟨clock,#[],Nat.le_refl _,hrget,rfl⟩,?_,by rw [← hr]; exact hg0.size,hfixr⟩
    refine hg0.trans hat.ok ⟨?_,?_,?_,?_,hforb.symm,?_,?_,fun i o ho=>⟨o,ho,Turn.refl o ⟨rfl,rfl⟩⟩,fun _ _=>⟨rfl,rfl,rfl⟩⟩
    · rw [← hw1]; rfl
    · rw [← hw1]; rfl
    · rw [← hw1]; rfl
    · exact hk1.size
    · exact fun x hx _=>hget x (by omega)
    · rintro x hx (hf | hm)
      · exact .inl (by rw [hforb]; exact hf)
      · exact .inr hm
  show (Code.block kb _).wp P Q _ _
  apply wp_block
  refine wp_within ?_
  have hmslen:es.length=ms.toList.length:=(RepEs.at hes).1
  have round : ∀ (il : List Nat) (C1 : Ctx) (w1 : World) (a1 : Act) (K : Act → World → Prop), il.Nodup → (∀ i ∈ il, i < es.length) → At C1 w1 (F (il.map fun i => es.getD i default) r) a1 ds → Rng C0 w0 ro id (C.φ id) r ms clock C0.forb il C1 w1 → ro ≤ C1.σ.length →
      (∀ i C4 w4 a4,i ∉ il→i < es.length→At C4 w4 (F ((il ++ [i]).map fun i=>es.getD i default) r) a4 ds→Rng C0 w0 ro id (C.φ id) r ms clock C0.forb (il ++ [i]) C4 w4→ro ≤ C4.σ.length→K a4 w4) →
      (Code.seq (.region i9 ops9 false) (.seq (.cond (.tmp cc) .skip (.exit kb)) (.block kc (.seq (.region i10 ops10 false) rest)))).wp P (Exit.then K (Exit.inBlock kb Q)) a1 w1:=by
    intro il C1 w1 a1 K hn hlt hat1 hR hro1 hK
    have hptr : a1.eval (.tmp d8) = .pointer (some ⟨r, 0, none⟩) := by
      have:=ev_run (x := .tmp d8) (v:=ptrV r) hat1.tmps (by simp only [ev,hF8])
      simpa only [ptrV,Rep] using this
    have hid1:C1.σ[id]? = some (.mapo es):=by rw [← hat1.st]; exact hstore _ _
    have hidlt:id < C1.σ.length:=(List.getElem?_eq_some_iff.1 hid1).1
    obtain ⟨c0,seen,hc0,hit,hseen⟩:=hR.iter
    have hw9:∀ a:Act,Region.wanted n9 (yielded ops9 a.tmps)=true:=fun a=>by simp [Region.wanted,g9]
    have hwx:∀ a:Act,Region.wanted x9 (yielded ops9 a.tmps)=true:=fun a=>by simp [Region.wanted,gx9]
    have hwe:∀ a:Act,Region.wanted e10 (yielded ops10 a.tmps)=true:=fun a=>by simp [Region.wanted,g10]
    obtain ⟨hl9,hlc⟩:=hlen (il.map fun i=>es.getD i default) r
    have extract : ∀ (C2 : Ctx) (w2 : World) (a2 : Act) (b : Bool) (vs : List AV) (Q' : Exit → Act → World → Prop), At C2 w2 ⟨setN (F (il.map fun i => es.getD i default) r).tmps d9 (.tup (.bool b :: vs)), (F (il.map fun i => es.getD i default) r).st⟩ a2 ds → id < C2.σ.length →
        (∀ C3 w3 a3,At C3 w3 ⟨setN (setN (F (il.map fun i=>es.getD i default) r).tmps d9 (.tup (.bool b::vs))) cc (.bool b),(F (il.map fun i=>es.getD i default) r).st⟩ a3 ds→Grow (id + 1) C2 w2 C3 w3→Q' .normal a3 w3)→wpList P ops9 Q' [x9] a2 w2:=by
      intro C2 w2 a2 b vs Q' hat2 hl2 hQ'
      simp only [wpList]
      rw [if_pos (hwx a2)]
      left
      have hop : evOp P X call false (id + 1) ⟨setN (F (il.map fun i => es.getD i default) r).tmps d9 (.tup (.bool b :: vs)), (F (il.map fun i => es.getD i default) r).st⟩ x9 = some (.bool b, (F (il.map fun i => es.getD i default) r).st) := by
        unfold evOp
        rw [hx9]
        have : ev ⟨setN (F (il.map fun i => es.getD i default) r).tmps d9 (.tup (.bool b :: vs)), (F (il.map fun i => es.getD i default) r).st⟩ (.tmp d9) = some (.tup (.bool b :: vs)) := by
          simp only [ev,nth_setN]
          rw [if_pos ⟨trivial,hl9⟩]
        simp only [this,extractv,List.getElem?_cons_zero,keep]
      refine evOp_sound hX hc hop hat2.st hat2.ok (by omega) hat2.tmps ?_
      intro u3 w3 C3 e3 hs3 hg3 hr3 _
      have:=hat2.step (d:=x9.dst) hs3 hg3 hr3
      rw [e3,qx9] at this
      rw [qx9]
      exact hQ' C3 w3 _ this hg3
    apply wp_seq
    refine wp_region_list ?_
    rw [hops9]
    rw [wpList,if_pos (hw9 a1)]
    left
    rcases run_next_at (P:=P) w1 n9.type r (C.φ id) clock c0 seen ms clock hit hR.map hst.1 hc0 with ⟨hz,hrun⟩ | ⟨m,hm,w1',hal,hrun⟩
    · -- nothing is left
      have hrun9 : (execOp a1.eval n9).run P w1 = .ok (.value (.tuple #[.bool false])) w1 := by
        simp only [execOp,h9,hptr,Sem.run_bind,hrun,Result.andThen,Sem.run_pure]
      refine wp_value hrun9 ?_
      have hat2:=hat1.step (d:=n9.dst) (v := .tup [.bool false]) (u := .tuple #[.bool false]) hat1.ok (Grow.refl ro C1 w1) (by simp only [Rep]; exact ⟨[.bool false],rfl,by simp only [RepAll,Rep,and_self]⟩)
      rw [q9] at hat2 ⊢
      have hat2' : At C1 w1 ⟨setN (F (il.map fun i=>es.getD i default) r).tmps d9 (.tup [.bool false]),(F (il.map fun i=>es.getD i default) r).st⟩ (a1.put (some d9) (.tuple #[.bool false])) ds:=⟨hat1.st,hat2.ok,hat2.tmps,hat2.defers⟩
      refine extract C1 w1 _ false [] _ hat2' hidlt fun C3 w3 a3 hat3 hg3 => ?_
      obtain ⟨hR3,_⟩:=hR.move hat1.ok hat3.ok ⟨_,hid1⟩ hroid hg3
      show (Code.seq _ _).wp P _ _ _
      apply wp_seq
      have hc3 : a3.eval (.tmp cc) = .bool false := by
        have:=ev_run (x := .tmp cc) (v := .bool false) hat3.tmps (by simp only [ev,nth_setN]; rw [if_pos ⟨trivial,by rw [setN_length]; exact hlc⟩])
        simpa only [Rep] using this
      refine wp_cond_false hc3 (wp_exit ?_)
      simp only [Exit.then,Exit.inBlock,if_true]
      obtain ⟨l1,l2⟩:=less_ok (fb:=C0.forb) hat3.ok (fun x hx=>(hR3.forb x).2 (.inl hx))
      refine hQ .normal _ (C3.with C0.forb) w3 a3 (.inl ⟨rfl,_,r,?_,rfl⟩) ⟨hat3.st,l1,RepAll.mono l2 _ _ hat3.tmps,hat3.defers⟩ hR3.grow
      refine full_perm hn hlt fun i hi => ?_
      have hleft:leftOf ms seen = #[]:=Array.eq_empty_of_size_eq_zero hz
      unfold leftOf at hleft
      rw [Array.filter_eq_empty_iff] at hleft
      have hi' : i < ms.toList.length:=by omega
      have hin:=hleft ms.toList[i] (by simp)
      simp only [Bool.not_eq_true',Bool.not_eq_false,Array.contains_iff_mem] at hin
      rw [← Array.mem_toList_iff,hseen] at hin
      obtain ⟨j,hj,ej⟩:=List.mem_map.1 hin
      have hjl:j < ms.toList.length:=by have:=hlt j hj; omega
      have ej' : ms.toList[j].born = ms.toList[i].born := by
        rw [List.getD_eq_getElem?_getD,List.getElem?_eq_getElem hjl] at ej
        exact ej
      have : j = i := by
        have hnd:=hst.2
        rw [List.nodup_iff_pairwise_ne,List.pairwise_map] at hnd
        rcases Nat.lt_trichotomy j i with h | h | h
        · exact absurd ej' (List.pairwise_iff_getElem.1 hnd j i hjl hi' h)
        · exact h
        · exact absurd ej'.symm (List.pairwise_iff_getElem.1 hnd i j hi' hjl h)
      exact this ▸ hj
    · -- an entry comes
      unfold leftOf at hm
      rw [Array.toList_filter,List.mem_filter] at hm
      obtain ⟨hmem,hnew⟩:=hm
      obtain ⟨i,hi,hmi⟩:=List.getElem_of_mem hmem
      have hie:i < es.length:=by omega
      have hnil : i ∉ il := by
        intro hin
        have : m.born ∈ seen.toList := by
          rw [hseen]
          refine List.mem_map.2 ⟨i,hin,?_⟩
          rw [List.getD_eq_getElem?_getD,List.getElem?_eq_getElem hi]
          exact congrArg _ hmi
        simp only [Bool.not_eq_true',← Bool.not_eq_true,Array.contains_iff_mem] at hnew
        exact hnew (by simpa using this)
      generalize hw2:ChangeMaps.setBlock w1' r (.mapIter (some (C.φ id)) clock (seen.push m.born) clock)=w2 at hrun
      have h1 : w1'.heap = w1.heap ∧ w1'.os = w1.os ∧ w1'.tape = w1.tape ∧ w1'.output = w1.output := by
        rcases hal with rfl | rfl
        · exact ⟨rfl,rfl,rfl,rfl⟩
        · exact ⟨rfl,rfl,rfl,rfl⟩
      have hblk2:∀ b,b ≠ r→w2.heap[b]? = w1.heap[b]? := fun b hb=>by rw [← hw2,setBlock_get hb,h1.1]
      have hsz2:w2.heap.size=w1.heap.size:=by rw [← hw2]; simp [ChangeMaps.setBlock,h1.1]
      have hrlt:r < w1.heap.size:=(Array.getElem?_eq_some_iff.1 hit).1
      have hr2 : w2.heap[r]? = some (.mapIter (some (C.φ id)) clock (seen.push m.born) clock) := by
        rw [← hw2]
        simp [ChangeMaps.setBlock,h1.1,hrlt]
      obtain ⟨hs2,hk2⟩:=forb_turn hat1.ok ((hR.forb r).2 (.inr rfl)) hR.fix hsz2 hblk2
      have hmap2 : w2.heap[C.φ id]? = some (.map ms clock) := by
        rw [hblk2 _ (by omega)]
        exact hR.map
      obtain ⟨ms',clock',q1,_,q3⟩:=hs2.ob id _ hid1
      rw [hR.phi,hmap2] at q1
      simp only [Option.some.injEq,Obj.map.injEq] at q1
      obtain ⟨rfl,rfl⟩:=q1
      have hmi' : ms.toList[i]? = some m:=by rw [List.getElem?_eq_getElem hi,hmi]
      obtain ⟨hk,hv⟩:=(RepEs.at q3).2 i m hmi'
      have hR2 : Rng C0 w0 ro id (C.φ id) r ms clock C0.forb (il ++ [i]) C1 w2 := by
        refine ⟨hR.forb,hR.phi,hmap2,⟨clock,seen.push m.born,Nat.le_refl _,hr2,?_⟩,?_,hR.new,hR.fix⟩
        · rw [Array.toList_push, hseen, List.map_append]
          simp only [List.map_cons,List.map_nil]
          rw [List.getD_eq_getElem?_getD,hmi']
          rfl
        · have g := hR.grow
          have hg2' : w2.os = w1.os ∧ w2.tape = w1.tape ∧ w2.output = w1.output := by
            rw [← hw2]
            exact ⟨h1.2.1,h1.2.2.1,h1.2.2.2⟩
          exact ⟨hg2'.1.trans g.os,hg2'.2.1.trans g.tape,hg2'.2.2.trans g.output,by rw [hsz2]; exact g.size,g.forb,fun b hb hkk=>(hblk2 b (by have:=hR.new; omega)).trans (g.blk b hb hkk),g.may,g.turn,g.low⟩
      have hrun9 : (execOp a1.eval n9).run P w1 = .ok (.value (.tuple #[.bool true, m.key, m.val])) w2 := by
        simp only [execOp,h9,hptr,Sem.run_bind,hrun,Result.andThen,Sem.run_pure]
      refine wp_value hrun9 ?_
      rw [q9]
      have hat2 : At C1 w2 ⟨setN (F (il.map fun i => es.getD i default) r).tmps d9 (.tup [.bool true, (es.getD i default).1, (es.getD i default).2]), (F (il.map fun i => es.getD i default) r).st⟩ (a1.put (some d9) (.tuple #[.bool true, m.key, m.val])) ds := by
        refine ⟨hat1.st,hs2,?_,(put_tmps _ _ _).2.trans hat1.defers⟩
        rw [(put_tmps _ _ _).1]
        refine set_rep2 (RepAll.mono hk2 _ _ hat1.tmps) ?_
        simp only [Rep]
        refine ⟨[.bool true,m.key,m.val],rfl,?_⟩
        simp only [RepAll,Rep,and_true,true_and]
        exact ⟨hk,hv⟩
      refine extract C1 w2 _ true _ _ hat2 hidlt fun C3 w3 a3 hat3 hg3 => ?_
      obtain ⟨hR3,hr3⟩:=hR2.move hs2 hat3.ok ⟨_,hid1⟩ hroid hg3
      have hid3:C3.σ[id]? = some (.mapo es):=by rw [← hat3.st]; exact hstore _ _
      show (Code.seq _ _).wp P _ _ _
      apply wp_seq
      have hc3 : a3.eval (.tmp cc) = .bool true := by
        have:=ev_run (x := .tmp cc) (v := .bool true) hat3.tmps (by simp only [ev,nth_setN]; rw [if_pos ⟨trivial,by rw [setN_length]; exact hlc⟩])
        simpa only [Rep] using this
      refine wp_cond_true hc3 (wp_skip ?_)
      show (Code.block kc _).wp P _ _ _
      apply wp_block
      apply wp_seq
      refine wp_region_list ?_
      rw [hops10]
      rw [wpList,if_pos (hwe a3)]
      left
      have hptr3 : a3.eval (.tmp d8) = .pointer (some ⟨r, 0, none⟩) := by
        have := ev_run (x := .tmp d8) (v := ptrV r) hat3.tmps (by
          simp only [ev,nth_setN]
          rw [if_neg (fun h=>hnecc h.1.symm),if_neg (fun h=>hne9 h.1.symm),hF8])
        simpa only [ptrV,Rep] using this
      have hrun10 : (execOp a3.eval e10).run P w3 = .ok (.value (.tuple #[m.key, m.val])) w3 := by
        simp only [execOp,h10,hptr3,Sem.run_bind,run_entry_at w3 r (C.φ id) clock seen ms clock m (hr3.trans hr2) hR3.map hmem hst.2,Result.andThen,Sem.run_pure]
      refine wp_value hrun10 ?_
      rw [q10]
      have hn2 : (il ++ [i]).Nodup := by
        rw [List.nodup_append]
        exact ⟨hn,by simp,fun a ha b hb e=>by simp only [List.mem_singleton] at hb; subst hb; subst e; exact hnil ha⟩
      have hlt2 : ∀ j ∈ il ++ [i], j < es.length := fun j hj => by
        rcases List.mem_append.1 hj with hj | hj
        · exact hlt j hj
        · simp only [List.mem_singleton] at hj; omega
      obtain ⟨tl,htl⟩:=rest_perm hn2 hlt2
      have htl' : ((il.map fun i => es.getD i default) ++ es.getD i default :: tl).Perm es := by
        have e : (il.map fun i => es.getD i default) ++ es.getD i default :: tl = (il ++ [i]).map (fun i => es.getD i default) ++ tl := by
          rw [List.map_append,List.append_assoc]
          rfl
        rw [e]
        exact htl
      obtain ⟨S2,hpost,hrest⟩:=step _ _ tl r htl'
      have hat4 : At C3 w3 ⟨setN (setN (setN (F (il.map fun i => es.getD i default) r).tmps d9 (.tup [.bool true, (es.getD i default).1, (es.getD i default).2])) cc (.bool true)) d10 (.tup [(es.getD i default).1, (es.getD i default).2]), (F (il.map fun i => es.getD i default) r).st⟩ (a3.put (some d10) (.tuple #[m.key, m.val])) ds := by
        refine ⟨hat3.st,hat3.ok,?_,(put_tmps _ _ _).2.trans hat3.defers⟩
        rw [(put_tmps _ _ _).1]
        refine set_rep2 hat3.tmps ?_
        simp only [Rep]
        refine ⟨[m.key,m.val],rfl,?_⟩
        simp only [RepAll,and_true]
        exact ⟨Rep.mono hg3.keeps _ _ hk,Rep.mono hg3.keeps _ _ hv⟩
      have hid3lt:id < C3.σ.length:=(List.getElem?_eq_some_iff.1 hid3).1
      refine vops_sound hX hc post hpost hat4 (by omega) fun C5 w5 a5 hat5 hg5 => ?_
      obtain ⟨hR5,_⟩:=hR3.move hat3.ok hat5.ok ⟨_,hid3⟩ hroid hg5
      have hid5 : ∃ es', C5.σ[id]? = some (.mapo es') := by
        have:=(hg5.low id (Nat.lt_succ_self _)).1
        exact ⟨es,this.trans hid3⟩
      have hl5:id < C5.σ.length:=by obtain ⟨_,h⟩:=hid5; exact (List.getElem?_eq_some_iff.1 h).1
      show rest.wp P _ _ _
      refine hrest C5 w5 a5 _ hat5 (by omega) fun x T C6 w6 a6 hRx hat6 hg6 => ?_
      obtain ⟨hR6,_⟩:=hR5.move hat5.ok hat6.ok hid5 hroid hg6
      rcases hRx with ⟨rfl,hT⟩ | ⟨rfl,hT⟩
      · show K a6 w6
        refine hK i C6 w6 a6 hnil hie ?_ hR6 ?_
        · have := hat6.forget Dk
          rw [hT] at this
          rw [List.map_append]
          exact this
        · have:=hg6.len; omega
      · show Q .ret a6 w6
        obtain ⟨l1,l2⟩:=less_ok (fb:=C0.forb) hat6.ok (fun x hx=>(hR6.forb x).2 (.inl hx))
        exact hQ .ret T (C6.with C0.forb) w6 a6 (.inr ⟨rfl,hT⟩) ⟨hat6.st,l1,RepAll.mono l2 _ _ hat6.tmps,hat6.defers⟩ hR6.grow
  have loop : ∀ (n : Nat) (il : List Nat) (C1 : Ctx) (w1 : World) (a1 : Act), n + il.length = es.length → il.Nodup → (∀ i ∈ il, i < es.length) → At C1 w1 (F (il.map fun i => es.getD i default) r) a1 ds → Rng C0 w0 ro id (C.φ id) r ms clock C0.forb il C1 w1 → ro ≤ C1.σ.length →
      Within P (.seq (.region i9 ops9 false) (.seq (.cond (.tmp cc) .skip (.exit kb)) (.block kc (.seq (.region i10 ops10 false) rest)))) (Exit.inBlock kb Q) a1 w1:=by
    intro n
    induction n with
    | zero =>
      intro il C1 w1 a1 hlen0 hn hlt hat1 hR hro1
      refine within_round (round il C1 w1 a1 _ hn hlt hat1 hR hro1 fun i C4 w4 a4 hi1 hi2 _ _ _ => ?_)
      exfalso
      have hn2 : (il ++ [i]).Nodup := by
        rw [List.nodup_append]
        exact ⟨hn,by simp,fun a ha b hb e=>by simp only [List.mem_singleton] at hb; subst hb; subst e; exact hi1 ha⟩
      obtain ⟨tl, htl⟩ := rest_perm hn2 (fun j hj => by
        rcases List.mem_append.1 hj with hj | hj
        · exact hlt j hj
        · simp only [List.mem_singleton] at hj; omega)
      have:=htl.length_eq
      simp at this
      omega
    | succ n ih =>
      intro il C1 w1 a1 hlen0 hn hlt hat1 hR hro1
      refine within_round (round il C1 w1 a1 _ hn hlt hat1 hR hro1 fun i C4 w4 a4 hi1 hi2 hat4 hR4 hro4 => ?_)
      refine ih (il ++ [i]) C4 w4 a4 (by simp; omega) ?_ ?_ hat4 hR4 hro4
      · rw [List.nodup_append]
        exact ⟨hn,by simp,fun a ha b hb e=>by simp only [List.mem_singleton] at hb; subst hb; subst e; exact hi1 ha⟩
      · intro j hj
        rcases List.mem_append.1 hj with hj | hj
        · exact hlt j hj
        · simp only [List.mem_singleton] at hj; omega
  refine loop es.length [] (C.bar r) w1 _ (by simp) (by simp) (by simp) ?_ hR0 ?_
  · have := hat1.forget Dk
    rw [hF0] at this
    exact this
  · exact Nat.le_trans hro hg0.len
end Go.Vm
end
/- The evaluator over specifications, with whatever bound for loops; calls that bear references. -/
section
namespace Go.Vm
section
variable {P:Program}
def vcallL (P:Program) (X:Ext) (T:Spec) (lf:Nat):Nat→Caller
  | 0=>callerOf T
  | n + 1 => fun f vs σ ro => match callerOf T f vs σ ro with
    | some r=>some r
    | none => if X.dom f then match P.funcs[f]? with
      | some fn => match fn.body with
        | some c=>vbody P X (vcallL P X T lf n) lf (X.fg f) fn c vs σ ro
        | none=>none
      | none=>none
      else none
theorem vcallL_ok [Fixed] {X:Ext} (hX:ExtOk P X) {T:Spec} (hT:SpecOk P T) (lf:Nat):∀ n,CallOk P (vcallL P X T lf n)
  | 0=>callerOf_ok hT
  | n + 1 => by
    intro f vs σ ro r σ' h
    simp only [vcallL] at h
    split at h
    · rename_i x hx
      simp only [Option.some.injEq] at h
      subst h
      exact callerOf_ok hT f vs σ ro r σ' hx
    · split at h
      · rename_i hdom
        split at h
        · rename_i fn hf
          split at h
          · rename_i c hb
            exact body_at hX (vcallL_ok hX hT lf n) hdom hf hb h
          · cases h
        · cases h
      · cases h
/-- What the specifications know. -/
theorem vcallL_spec {X:Ext} {T:Spec} {lf n:Nat} {f:FuncId} {vs:List AV} {r:AV} {ro:Nat} (h:T f vs=some r):vcallL P X T lf n f vs [] ro=some (r,[]):=by
  cases n <;> simp only [vcallL,callerOf,h]
/-- A call with a store: walked. -/
theorem vcallL_walk {X:Ext} {T:Spec} {lf n:Nat} {f:FuncId} {fn:Func} {c:Code} {vs:List AV} {o:Ob} {σ:List Ob} {ro:Nat} {r:AV × List Ob} (hd:X.dom f=true) (hf:P.funcs[f]? = some fn) (hb:fn.body=some c)
    (h:vbody P X (vcallL P X T lf n) lf (X.fg f) fn c vs (o::σ) ro=some r):vcallL P X T lf (n + 1) f vs (o::σ) ro=some r:=by
  simp only [vcallL,callerOf,hd,if_true,hf,hb,h]
/-- A call that bears a reference. -/
theorem callv_ref {X:Ext} {call:Caller} {f:FuncId} {vs:List AV} {σ σ' : List Ob} {ro:Nat} {r:AV} (h1:X.pureFn f=none) (h2:X.stFn f=none) (hl:AV.ltAll 0 vs=false) (ht:AV.thawAll σ vs=some vs)
    (h:call f vs σ ro=some (r,σ')) (hr:r.lt σ.length=true) (hs:ltObs σ.length (σ'.take σ.length)=true):callv X call false f vs σ ro=some (unfr r,σ'.take σ.length):=by
  unfold callv
  rw [h1,h2]
  simp only [hl,Bool.false_eq_true,if_false,ht,h,hr,hs,Bool.and_self,if_true]
/-- .. behind which the store has grown. -/
theorem callv_refG {X:Ext} {call:Caller} {f:FuncId} {vs:List AV} {σ σ' : List Ob} {ro:Nat} {r:AV} (h1:X.pureFn f=none) (h2:X.stFn f=none) (hl:AV.ltAll 0 vs=false) (ht:AV.thawAll σ vs=some vs)
    (h:call f vs σ ro=some (r,σ')) (hs:ltObs σ.length (σ'.take σ.length)=false):callv X call false f vs σ ro=some (unfr r,σ'):=by
  unfold callv
  rw [h1,h2]
  simp only [hl,Bool.false_eq_true,if_false,ht,h,hs,Bool.and_false]
theorem call_onL {β:Type} [Fixed] {X:Ext} {T:Spec} {lf k:Nat} {f:FuncId} {vs:List AV} {y:β} {B:Arg β} {σ:List Ob} {ro:Nat} {dr:Bool} (h1:X.pureFn f=none) (h2:X.stFn f=none) (ha:X.adopt f=false) (hl:AV.ltAll 0 vs=true) (h:T f vs=some (B.enc y)) :
    callv X (vcallL P X T lf k) dr f vs σ ro=some (B.enc y,σ):=by
  have hp:(B.enc y).pure=true:=B.lt y
  unfold callv
  rw [h1,h2]
  simp only [hl,if_true,vcallL_spec h,hp,ha,Bool.and_false,Bool.false_eq_true,if_false,B.ro]
mutual
theorem lt_up {m k:Nat} (hm:m ≤ k):∀ (v:AV),v.lt m=true→v.lt k=true:=by
  intro v h
  match v with
  | .list _ _ _ cs | .agg cs | .tup cs | .eaddr cs =>
    simp only [AV.lt] at h ⊢
    exact ltAll_up hm cs h
  | .clo _ vs=>simp only [AV.lt] at h ⊢; exact ltAll_up hm vs h
  | .ref id _ | .eref id _ _ | .map id | .own id _=>simp only [AV.lt,Nat.blt_eq] at h ⊢; omega
  | .int _ _ | .bool _ | .str _ | .pnil | .mnil | .fnil | .inil | .undef | .any | .raw _ | .ptag _=>simp only [AV.lt] at h ⊢
  | .iface _ v=>simp only [AV.lt] at h ⊢; exact lt_up hm v h
theorem ltAll_up {m k:Nat} (hm:m ≤ k):∀ (vs:List AV),AV.ltAll m vs=true→AV.ltAll k vs=true:=by
  intro vs h
  match vs with
  | []=>rfl
  | v :: vs =>
    simp only [AV.ltAll,Bool.and_eq_true] at h ⊢
    exact ⟨lt_up hm v h.1,ltAll_up hm vs h.2⟩
end
end
end Go.Vm
end
/- A builder's String, with the world behind it told exactly: nothing but the buffer's frozen range and the draws turns. -/
section
set_option linter.unusedVariables false
namespace Go.Proofs
open Go.Shelf Go.RowKit
variable {P:Program} {ρ:Ren}

set_option maxHeartbeats 2000000 in
set_option maxRecDepth 100000 in
theorem bld_string (L:Lays.n169 P ρ) (X:Builder.Extra P ρ) (b g cap:Nat) (p:Value) (tb:TypeId) (cur:Array Value) (l:List UInt8) (w:World) (h0:l ≠ [])
    (hbk:w.heap[b]? = some (.cells #[p,.slice (some ⟨g,0,none⟩) l.length cap] tb (0,0)))
    (hg:w.heap[g]? = some (.cells cur (ρ.t 5) (0,0))) (hnc:l.length ≤ cap) (hcm:cap ≤ maxLen) (hcs:cur.size=cap)
    (hcells:∀ j x,l[j]? = some x→w.cell? ⟨g,j,none⟩=some (.int .u8 x.toNat)) :
    Calls P (ρ.f 169) #[.pointer (some ⟨b,0,none⟩)] w fun e w' => e = .returned (.string ⟨l.toArray⟩)∧w' = w.drew.freeze ⟨g,0,none⟩ l.length:=by
  have hl0:l.length ≠ 0:=by simpa using h0
  have c1 : w.drew.cell? ⟨b, 1, none⟩ = some (.slice (some ⟨g, 0, none⟩) l.length cap) := by
    have:w.drew.heap[b]? = some (.cells #[p,.slice (some ⟨g,0,none⟩) l.length cap] tb (0,0)):=hbk
    rw [Lib.cell_of_heap this]; rfl
  have hSD : (Builtin.unsafeSliceData_ #[(ρ.t 37)] (ρ.t 127) #[.slice (some ⟨g, 0, none⟩) l.length cap]).run P w.drew = .ok (.pointer (some ⟨g, 0, none⟩)) w.drew :=
    Lib.run_unsafeSliceData_row _ _ _ _ _ _ (by omega)
  have hUS : (Builtin.unsafeString_ #[(ρ.t 127), (ρ.t 3)] (ρ.t 9) #[.pointer (some ⟨g, 0, none⟩), .int .i64 l.length]).run P w.drew = .ok (.string ⟨l.toArray⟩) (w.drew.freeze ⟨g, 0, none⟩ l.length) := by
    refine Lib.run_unsafeString_row w.drew (ρ.t 127) (ρ.t 3) (ρ.t 9) (ρ.t 5) L.t127 X.cellsByte g cur.size (by have hg' : w.drew.heap[g]? = some (.cells cur (ρ.t 5) (0,0)):=hg; simp [World.shape?,hg']) l h0 (by omega) (by unfold maxLen at hcm; omega) ?_
    intro j x hx
    have:=hcells j x hx
    have e : (⟨g, 0, none⟩ : Addr).add j = ⟨g, j, none⟩ := by
      simp only [Addr.add,Nat.zero_add]
      split
      · rename_i h
        rw [h]
      · rfl
    rw [e]
    exact this
  have mixed:=L.mixed
  have t72:=L.t72; have a72:=L.a72; have z72:=L.z72; have v72:=L.v72; have u72:=run_underlying L.t72
  have t70:=L.t70; have a70:=L.a70; have z70:=L.z70; have v70:=L.v70; have u70:=run_underlying L.t70
  have t37:=L.t37; have a37:=L.a37; have z37:=L.z37; have v37:=L.v37; have u37:=run_underlying L.t37
  have t127:=L.t127; have a127:=L.a127; have z127:=L.z127; have v127:=L.v127; have u127:=run_underlying L.t127
  have t3:=L.t3; have a3:=L.a3; have z3:=L.z3; have v3:=L.v3; have u3:=run_underlying L.t3
  have t9:=L.t9; have a9:=L.a9; have z9:=L.z9; have v9:=L.v9; have u9:=run_underlying L.t9
  have t5:=X.t5; have a5:=X.a5; have z5:=X.z5; have v5:=X.v5; have u5:=run_underlying X.t5
  go_enter L.f169,Body.n169_ntmps ρ
  go_wp2
  go_region_o
  all_goals (go_wp2; go_ret; exact ⟨rfl,rfl⟩)

set_option maxHeartbeats 2000000 in
set_option maxRecDepth 100000 in
theorem bld_string_nil (L:Lays.n169 P ρ) (X:Builder.Extra P ρ) (b:Nat) (p:Value) (tb:TypeId) (w:World) (hbk:w.heap[b]? = some (.cells #[p,.slice none 0 0] tb (0,0))) :
    Calls P (ρ.f 169) #[.pointer (some ⟨b,0,none⟩)] w fun e w' => e = .returned (.string ⟨#[]⟩)∧w' = w.drew:=by
  have hUS:=Any.unsafeString_none L X
  have c1 : w.drew.cell? ⟨b, 1, none⟩ = some (.slice none 0 0) := by
    have:w.drew.heap[b]? = some (.cells #[p,.slice none 0 0] tb (0,0)):=hbk
    rw [Lib.cell_of_heap this]; rfl
  have hSD:(Builtin.unsafeSliceData_ #[(ρ.t 37)] (ρ.t 127) #[.slice none 0 0]).run P w.drew = .ok (.pointer none) w.drew:=rfl
  have mixed:=L.mixed
  have t72:=L.t72; have a72:=L.a72; have z72:=L.z72; have v72:=L.v72; have u72:=run_underlying L.t72
  have t70:=L.t70; have a70:=L.a70; have z70:=L.z70; have v70:=L.v70; have u70:=run_underlying L.t70
  have t37:=L.t37; have a37:=L.a37; have z37:=L.z37; have v37:=L.v37; have u37:=run_underlying L.t37
  have t127:=L.t127; have a127:=L.a127; have z127:=L.z127; have v127:=L.v127; have u127:=run_underlying L.t127
  have t3:=L.t3; have a3:=L.a3; have z3:=L.z3; have v3:=L.v3; have u3:=run_underlying L.t3
  have t9:=L.t9; have a9:=L.a9; have z9:=L.z9; have v9:=L.v9; have u9:=run_underlying L.t9
  have t5:=X.t5; have a5:=X.a5; have z5:=X.z5; have v5:=X.v5; have u5:=run_underlying X.t5
  go_enter L.f169,Body.n169_ntmps ρ
  go_wp2
  go_region_o
  all_goals (go_wp2; go_ret; exact ⟨rfl,rfl⟩)
end Go.Proofs

namespace Go.Vm
open Go.Proofs Go.Shelf
variable [Fixed] {P:Program} {w:World}

/-- copyCheck: a new builder holds its own address from now on. -/
def bldCheck (T:TypeId) (vs:List AV) (σ:List Ob) (ro:Nat):Option (AV × List Ob) :=
  match vs with
  | [.ref id 0] => match σ[id]? with
    | some (.cells [.ptag t,c])=>if t=T∧ro ≤ id then some (.tup [],setOb σ id (.cells [.ref id 0,c])) else none
    | some (.cells [.ref id' 0,_])=>if id' = id then some (.tup [],σ) else none
    | _=>none
  | _=>none
/-- String: the bytes; the buffer is gone. -/
def bldString (e:TypeId) (vs:List AV) (σ:List Ob) (ro:Nat):Option (AV × List Ob) :=
  match vs with
  | [.ref id 0] => match σ[id]? with
    | some (.cells [_,.list .nil 0 _ _])=>some (.str ⟨#[]⟩,σ)
    | some (.cells [_, .own i n]) => match σ[i]? with
      | some (.brow t l)=>if t=e∧l.length=n∧ro ≤ i∧n ≠ 0 then some (.str ⟨l.toArray⟩,setOb σ i .gone) else none
      | _=>none
    | _=>none
  | _=>none

theorem one_arg {C:Ctx} {id off:Nat} {us:List Value} (h:RepAll C w [.ref id off] us):us=[.pointer (some ⟨C.φ id,off,none⟩)]:=by
  match us,h with
  | [],h=>simp only [RepAll] at h
  | [u],h=>simp only [RepAll,Rep,and_true] at h; rw [h.2]
  | _::_::_,h=>simp only [RepAll,and_false] at h
theorem two_cells {C:Ctx} {a b:AV} {us:List Value} (h:RepAll C w [a,b] us):∃ u v,us=[u,v]∧Rep C w a u∧Rep C w b v:=by
  match us,h with
  | [],h=>simp only [RepAll] at h
  | [_],h=>simp only [RepAll,and_false] at h
  | [u,v],h=>simp only [RepAll,and_true] at h; exact ⟨u,v,rfl,h⟩
  | _::_::_::_,h=>simp only [RepAll,and_false] at h

theorem bldCheck_st {f T:TypeId}
    (hused:∀ (b:Nat) (w:World),w.cell? ⟨b,0,none⟩=some (.pointer (some ⟨b,0,none⟩))→Calls P f #[.pointer (some ⟨b,0,none⟩)] w fun e w' => e = .returned (.tuple #[])∧w' = w)
    (hfresh:∀ (b:Nat) (w:World),w.cell? ⟨b,0,none⟩=some (.pointer none)→w.shape? b=some (T,2)→w.frozen? ⟨b,0,none⟩=false→Calls P f #[.pointer (some ⟨b,0,none⟩)] w fun e w' => e = .returned (.tuple #[])∧w' = w.setCell ⟨b,0,none⟩ (.pointer (some ⟨b,0,none⟩))) :
    ∀ vs σ ro r σ', bldCheck T vs σ ro = some (r, σ') → ∀ (C : Ctx) (w : World) (us : List Value), C.σ = σ → SOk C w → ro ≤ σ.length → RepAll C w vs us →
      Calls P f us.toArray w fun e w' => ∃ u C',e = .returned u∧C'.σ=σ' ∧ SOk C' w' ∧ Grow ro C w C' w' ∧ Rep C' w' r u:=by
  intro vs σ ro r σ' h C w us hσ hs hro hrep
  subst hσ
  unfold bldCheck at h
  split at h
  case h_2=>cases h
  rename_i id
  have e:=one_arg hrep
  subst e
  split at h
  · rename_i t c ho
    split at h
    case isFalse=>cases h
    rename_i hc
    obtain ⟨rfl,hroi⟩:=hc
    simp only [Option.some.injEq,Prod.mk.injEq] at h
    obtain ⟨rfl,rfl⟩:=h
    obtain ⟨h1,us,e,hb,ht,hr⟩:=hs.ob id _ ho
    simp only [TagOk] at ht
    subst ht
    obtain ⟨u0,u1,rfl,hr0,hr1⟩:=two_cells hr
    simp only [Rep] at hr0
    subst hr0
    refine Calls.mono (hfresh (C.φ id) w (by rw [Lib.cell_of_heap hb]; rfl) (by simp [World.shape?,hb]) (Lib.frozen_of_heap hb 0)) ?_
    rintro e w' ⟨rfl,rfl⟩
    have hX : (w.setCell ⟨C.φ id, 0, none⟩ (.pointer (some ⟨C.φ id, 0, none⟩))).heap[C.φ id]? = some (.cells #[.pointer (some ⟨C.φ id, 0, none⟩), u1] e (0, 0)) := by
      simp [World.setCell,Array.getElem?_modify,hb]
    obtain ⟨k1, k2⟩ := turn_one hs (w' := w.setCell ⟨C.φ id, 0, none⟩ (.pointer (some ⟨C.φ id, 0, none⟩))) (b := C.φ id) (c := C.κ id) (o' := .cells [.ref id 0, c]) ho trivial hroi rfl rfl rfl (by simp [World.setCell])
      (fun x _ hx=>Go.RowKit.Below.heap_setCell _ _ _ _ hx) (.inl rfl) (by simpa [World.setCell] using hs.blk _ _ ho trivial) ⟨⟨_,rfl,rfl⟩,rfl,rfl⟩
      (fun hk => ⟨⟨rfl, h1.2⟩, _, e, hX, trivial, by
        simp only [RepAll,and_true]
        refine ⟨?_,Rep.mono hk _ _ hr1⟩
        simp only [Rep]
        exact ⟨⟨_,setOb_same _ ho⟩,by simp [Ctx.put,upd]⟩⟩)
    exact ⟨_,_,rfl,rfl,k1,k2,by simp only [Rep]; exact ⟨[],rfl,by simp only [RepAll]⟩⟩
  · rename_i id' c ho
    split at h
    case isFalse=>cases h
    rename_i hc
    subst hc
    simp only [Option.some.injEq,Prod.mk.injEq] at h
    obtain ⟨rfl,rfl⟩:=h
    obtain ⟨h1,us,e,hb,ht,hr⟩:=hs.ob id' _ ho
    obtain ⟨u0,u1,rfl,hr0,hr1⟩:=two_cells hr
    simp only [Rep] at hr0
    obtain ⟨_,rfl⟩:=hr0
    refine Calls.mono (hused (C.φ id') w (by rw [Lib.cell_of_heap hb]; rfl)) ?_
    rintro e w' ⟨rfl,rfl⟩
    exact ⟨_,C,rfl,rfl,hs,Grow.refl _ _ _,by simp only [Rep]; exact ⟨[],rfl,by simp only [RepAll]⟩⟩
  · cases h

theorem bldString_st {f T e:TypeId}
    (hnil:∀ (b:Nat) (p:Value) (t:TypeId) (w:World),w.heap[b]? = some (.cells #[p,.slice none 0 0] t (0,0))→Calls P f #[.pointer (some ⟨b,0,none⟩)] w fun e w' => e = .returned (.string ⟨#[]⟩)∧w' = w.drew)
    (hrow : ∀ (b g cap : Nat) (p : Value) (t : TypeId) (cur : Array Value) (l : List UInt8) (w : World), l ≠ [] →
      w.heap[b]? = some (.cells #[p,.slice (some ⟨g,0,none⟩) l.length cap] t (0,0))→w.heap[g]? = some (.cells cur e (0,0))→l.length ≤ cap→cap ≤ maxLen→cur.size=cap →
      (∀ j x,l[j]? = some x→w.cell? ⟨g,j,none⟩=some (.int .u8 x.toNat)) →
      Calls P f #[.pointer (some ⟨b,0,none⟩)] w fun e w' => e = .returned (.string ⟨l.toArray⟩)∧w' = w.drew.freeze ⟨g,0,none⟩ l.length) :
    ∀ vs σ ro r σ', bldString e vs σ ro = some (r, σ') → ∀ (C : Ctx) (w : World) (us : List Value), C.σ = σ → SOk C w → ro ≤ σ.length → RepAll C w vs us →
      Calls P f us.toArray w fun e w' => ∃ u C',e = .returned u∧C'.σ=σ' ∧ SOk C' w' ∧ Grow ro C w C' w' ∧ Rep C' w' r u:=by
  intro vs σ ro r σ' h C w us hσ hs hro hrep
  subst hσ
  unfold bldString at h
  split at h
  case h_2=>cases h
  rename_i id
  have e1:=one_arg hrep
  subst e1
  split at h
  · rename_i c0 sz cs ho
    simp only [Option.some.injEq,Prod.mk.injEq] at h
    obtain ⟨rfl,rfl⟩:=h
    obtain ⟨h1,us,e,hb,ht,hr⟩:=hs.ob id _ ho
    obtain ⟨u0,u1,rfl,hr0,hr1⟩:=two_cells hr
    simp only [Rep] at hr1
    obtain ⟨_,_,a,cap,rfl,_,_,_,h5,_⟩:=hr1
    obtain ⟨rfl,rfl⟩:=h5 trivial
    refine Calls.mono (hnil (C.φ id) u0 e w hb) ?_
    rintro e w' ⟨rfl,rfl⟩
    obtain ⟨k1,k2,_⟩:=more_heap hs ro (w' := w.drew) rfl rfl rfl (Nat.le_refl _) (fun x hx=>rfl)
    exact ⟨_,C,rfl,rfl,k1,k2,by simp only [Rep]⟩
  · rename_i c0 i n ho
    split at h
    case h_2=>cases h
    rename_i t l hl
    split at h
    case isFalse=>cases h
    rename_i hc
    obtain ⟨rfl,rfl,hroi,hn⟩:=hc
    simp only [Option.some.injEq,Prod.mk.injEq] at h
    obtain ⟨rfl,rfl⟩:=h
    obtain ⟨h1,us,e,hb,ht,hr⟩:=hs.ob id _ ho
    obtain ⟨u0,u1,rfl,hr0,hr1⟩:=two_cells hr
    simp only [Rep] at hr1
    obtain ⟨_,hrw⟩:=hr1
    unfold RowIs at hrw
    rw [hl] at hrw
    have hu:=hrw.2 rfl
    subst hu
    obtain ⟨m1,m2,vs,m3,m4⟩:=hs.ob i _ hl
    refine Calls.mono (hrow (C.φ id) (C.φ i) (C.κ i) u0 e _ l w (fun e=>hn (by rw [e]; rfl)) hb m3 m1 m2 (by simpa using m4) ?_) ?_
    · intro j x hx
      have hj:=(List.getElem?_eq_some_iff.1 hx).1
      rw [Lib.cell_of_heap m3,List.getElem?_toArray,List.getElem?_append_left (by simpa using hj),List.getElem?_map,hx]
      rfl
    · rintro e w' ⟨rfl, rfl⟩
      have hfz : ∀ (W : World) (a : Addr) (k : Nat), (W.freeze a k).os = W.os ∧ (W.freeze a k).tape = W.tape ∧ (W.freeze a k).output = W.output ∧ (W.freeze a k).heap.size = W.heap.size ∧ ∀ x, x ≠ a.block → (W.freeze a k).heap[x]? = W.heap[x]? := by
        intro W a k
        unfold World.freeze
        split
        · exact ⟨rfl,rfl,rfl,rfl,fun _ _=>rfl⟩
        · exact ⟨rfl,rfl,rfl,by simp,fun x hx=>by simp only [Array.getElem?_modify]; rw [if_neg (fun e=>hx e.symm)]⟩
      obtain ⟨f1,f2,f3,f4,f5⟩:=hfz w.drew ⟨C.φ i,0,none⟩ l.length
      obtain ⟨k1, k2⟩ := turn_one hs (w' := w.drew.freeze ⟨C.φ i, 0, none⟩ l.length) (b := C.φ i) (c := C.κ i) (o' := .gone) hl trivial hroi f1 f2 f3 (Nat.le_of_eq f4.symm)
        (fun x _ hx=>f5 x hx) (.inl rfl) (by rw [f4]; exact hs.blk _ _ hl trivial) (.inr rfl) (fun _=>trivial)
      exact ⟨_,_,rfl,rfl,k1,k2,by simp only [Rep]⟩
  · cases h
end Go.Vm
end
/- A range over a string. -/
section
namespace Go.Vm
open Go.RowKit (Below)
variable [Fixed]
variable {P:Program} {C:Ctx} {w:World}

theorem run_nextS (w:World) (ty:TypeId) (r:Nat) (s:ByteArray) (pos:Nat) (hit:w.heap[r]? = some (.stringIter s pos)) (h:pos < s.size) :
    (Instr.next (.pointer (some ⟨r,0,none⟩)) true ty).run P w = .ok (.tuple #[.bool true,.int .i64 pos,.int .i32 (Utf8.decode s pos).1]) (ChangeMaps.setBlock w r (.stringIter s (pos + (Utf8.decode s pos).2))):=by
  simp only [Instr.next,getObj,setObj,Sem.run_bind,Sem.run,hit,Result.andThen,h,if_true,ChangeMaps.setBlock]
  simp [goInt]
theorem run_nextE (w:World) (ty:TypeId) (r:Nat) (s:ByteArray) (pos:Nat) (hit:w.heap[r]? = some (.stringIter s pos)) (h : ¬ pos < s.size) :
    (Instr.next (.pointer (some ⟨r,0,none⟩)) true ty).run P w = .ok (.tuple #[.bool false]) w:=by
  simp [Instr.next,getObj,Sem.run,hit,h]
/-- Where the k-th letter of a string begins. -/
def posR (s:ByteArray):Nat→Nat
  | 0=>0
  | k + 1=>posR s k + (Utf8.decode s (posR s k)).2
/-- On the way. -/
structure Rns (C0:Ctx) (w0:World) (ro r:Nat) (s:ByteArray) (fb:Nat→Prop) (pos:Nat) (C:Ctx) (w:World):Prop where
  forb:∀ x,C.forb x ↔ fb x ∨ x=r
  iter:w.heap[r]? = some (.stringIter s pos)
  grow:Grow ro C0 w0 (C.with fb) w
  new:w0.heap.size ≤ r
  fix:∀ X,¬ Fixed.fix r X
theorem Rns.move {C0 C C' : Ctx} {w0 w w' : World} {ro r:Nat} {s:ByteArray} {fb:Nat→Prop} {pos:Nat} (h:Rns C0 w0 ro r s fb pos C w) (hs:SOk C w) (hs' : SOk C' w') (hg:Grow ro C w C' w'):Rns C0 w0 ro r s fb pos C' w' := by
  have hr:r < w.heap.size:=(Array.getElem?_eq_some_iff.1 h.iter).1
  have e2:w'.heap[r]? = w.heap[r]? := hg.blk r hr fun i o hi ho hl e=>hs.nof i o ho hl ((h.forb _).2 (.inr e))
  have hforb:∀ x,C'.forb x ↔ fb x ∨ x=r:=fun x=>by rw [hg.forb]; exact h.forb x
  have hl1:=less_ok (fb:=fb) hs (fun x hx=>(h.forb x).2 (.inl hx))
  have hg2 : Grow ro (C.with fb) w (C'.with fb) w' := by
    refine ⟨hg.os,hg.tape,hg.output,hg.size,rfl,hg.blk,fun x hx hm => ?_,hg.turn,hg.low⟩
    rcases hm with hf | ⟨i,o,q1,q2,q3⟩
    · exact .inl hf
    · rcases hg.may x hx (.inr ⟨i, o, q1, q2, q3⟩) with hf | hm
      · rcases (h.forb x).1 hf with hf | hf
        · exact .inl hf
        · exact absurd ((hforb _).2 (.inr (q3.trans hf))) (hs'.nof i o q1 q2)
      · exact .inr hm
  exact ⟨hforb,e2.trans h.iter,h.grow.trans hl1.1 hg2,h.new,h.fix⟩
/-- What stands ready for a range over a string: the code's parts, and the states. Inv: the places to which the loop comes. -/
structure RunAt (P:Program) (X:Ext) (call:Caller) (ro:Nat) (ds:List Deferred) (ops8 ops9:Array Oper) (body:Code) (cc:Tmp) (S:St) (s:ByteArray) (Dk:List Nat) (F:Nat→Nat→St) (d9:Tmp) (Inv:Nat→Prop) (RR:St→Prop):Prop where
  first : ∃ pre8 o8 t xm S1 d8 n9 x9, ops8.toList = pre8 ++ [o8] ∧ vops P X call false ro ops8 pre8 S = some S1 ∧ o8.op = .range t xm ∧ o8.guard = none ∧ o8.dst = some d8 ∧ P.underlying t = some .string ∧ ev S1 xm = some (.str s) ∧
    ops9.toList=[n9,x9]∧n9.op = .next (.tmp d8) true∧n9.guard=none∧n9.dst=some d9∧x9.op = .extract (.tmp d9) 0∧x9.guard=none∧x9.dst=some cc ∧
    (∀ r,forget Dk ⟨setN S1.tmps d8 (ptrV r),S1.st⟩=F 0 r)∧(∀ k r,nth (F k r).tmps d8=ptrV r)∧(∀ k r,d9 < (F k r).tmps.length∧cc < (F k r).tmps.length)
  start:Inv 0
  step : ∀ k r, Inv k → posR s k < s.size → SR P ro ds body ⟨setN (setN (F k r).tmps d9 (.tup [.bool true, .int .i64 (posR s k), .int .i32 (Utf8.decode s (posR s k)).1])) cc (.bool true), (F k r).st⟩
      fun x T=>(x = .normal∧Inv (k + 1)∧forget Dk T=F (k + 1) r) ∨ (x = .ret∧RR T)
omit [Fixed] in
theorem decode_pos (s:ByteArray) (pos:Nat) (h:pos < s.size):1 ≤ (Utf8.decode s pos).2:=by
  by_cases ha:(s[pos]'h).toNat < 128
  · rw [decode_ascii s pos h ha]; exact Nat.le_refl _
  · exact (decode_high s pos h (by omega)).2
theorem SR.rangeS {X:Ext} (hX:ExtOk P X) {call:Caller} (hc:CallOk P call) {ro:Nat} {ds:List Deferred} {i8 i9 kb:Nat} {ops8 ops9:Array Oper} {body:Code} {cc d9:Tmp} {S:St} {s:ByteArray} {Dk:List Nat} {F:Nat→Nat→St} {Inv:Nat→Prop} {RR:St→Prop}
    (h:RunAt P X call ro ds ops8 ops9 body cc S s Dk F d9 Inv RR) :
    SR P ro ds (.seq (.region i8 ops8 false) (.block kb (.loop (.seq (.region i9 ops9 false) (.seq (.cond (.tmp cc) .skip (.exit kb)) body))))) S
      fun x T=>(x = .normal∧∃ k r,Inv k ∧ ¬ posR s k < s.size∧T=⟨setN (setN (F k r).tmps d9 (.tup [.bool false])) cc (.bool false),(F k r).st⟩) ∨ (x = .ret∧RR T):=by
  obtain ⟨⟨pre8,o8,t,xm,S1,d8,n9,x9,hops8,hpre,h8,g8,q8,hu,hx,hops9,h9,g9,q9,hx9,gx9,qx9,hF0,hF8,hlen⟩,hI0,step⟩:=h
  intro C0 w0 a0 Q hat0 hro hQ
  apply wp_seq
  refine wp_region_list ?_
  rw [hops8]
  refine vops_app hX hc pre8 hpre hat0 hro fun C w a hat hg0 => ?_
  have hw8:Region.wanted o8 (yielded ops8 a.tmps)=true:=by simp [Region.wanted,g8]
  simp only [wpList]
  rw [if_pos hw8]
  left
  have hxr:=ev_run hat.tmps hx
  simp only [Rep] at hxr
  have hrun8 : (execOp a.eval o8).run P w = .ok (.value (.pointer (some ⟨w.heap.size, 0, none⟩))) (w.alloc (.stringIter s 0)) := by
    simp only [execOp,h8,hxr,Sem.run_bind,run_range_string w t s hu,Result.andThen,Sem.run_pure]
    rfl
  refine wp_value hrun8 ?_
  obtain ⟨hs1,hk1⟩:=bar_new (X := .stringIter s 0) hat.ok
  generalize hr:w.heap.size=r at *
  generalize hw1:w.alloc (.stringIter s 0)=w1 at *
  have hget : ∀ x, x < r → w1.heap[x]? = w.heap[x]? := fun x hx => by
    rw [← hw1]
    show (w.heap.push _)[x]? = _
    rw [Array.getElem?_push_lt (by omega),Array.getElem?_eq_getElem (by omega)]
  have hrget : w1.heap[r]? = some (.stringIter s 0) := by
    rw [← hw1,← hr]
    show (w.heap.push _)[w.heap.size]? = _
    simp
  have hat1 : At (C.bar r) w1 ⟨setN S1.tmps d8 (ptrV r), S1.st⟩ (a.put o8.dst (.pointer (some ⟨r, 0, none⟩))) ds := by
    refine ⟨hat.st,hs1,?_,(put_tmps _ _ _).2.trans hat.defers⟩
    rw [(put_tmps _ _ _).1,q8]
    exact set_rep2 (RepAll.mono hk1 _ _ hat.tmps) (by simp only [ptrV,Rep])
  have hforb:C.forb=C0.forb:=hg0.forb
  have hfixr : ∀ X, ¬ Fixed.fix r X := fun X hX => by
    have:=(hat.ok.fx r X hX).1
    have:=(Array.getElem?_eq_some_iff.1 this).1
    omega
  have hR0 : Rns C0 w0 ro r s C0.forb 0 (C.bar r) w1 := by
    refine ⟨fun x=>by rw [← hforb]; rfl,hrget,?_,by rw [← hr]; exact hg0.size,hfixr⟩
    refine hg0.trans hat.ok ⟨?_,?_,?_,?_,hforb.symm,?_,?_,fun i o ho=>⟨o,ho,Turn.refl o ⟨rfl,rfl⟩⟩,fun _ _=>⟨rfl,rfl,rfl⟩⟩
    · rw [← hw1]; rfl
    · rw [← hw1]; rfl
    · rw [← hw1]; rfl
    · exact hk1.size
    · exact fun x hx _=>hget x (by omega)
    · rintro x hx (hf | hm)
      · exact .inl (by rw [hforb]; exact hf)
      · exact .inr hm
  show (Code.block kb _).wp P Q _ _
  apply wp_block
  refine wp_within ?_
  have round : ∀ (k : Nat) (C1 : Ctx) (w1 : World) (a1 : Act) (K : Act → World → Prop), Inv k → At C1 w1 (F k r) a1 ds → Rns C0 w0 ro r s C0.forb (posR s k) C1 w1 → ro ≤ C1.σ.length →
      (∀ C4 w4 a4,posR s k < s.size→Inv (k + 1)→At C4 w4 (F (k + 1) r) a4 ds→Rns C0 w0 ro r s C0.forb (posR s (k + 1)) C4 w4→ro ≤ C4.σ.length→K a4 w4) →
      (Code.seq (.region i9 ops9 false) (.seq (.cond (.tmp cc) .skip (.exit kb)) body)).wp P (Exit.then K (Exit.inBlock kb Q)) a1 w1:=by
    intro k C1 w1 a1 K hI hat1 hR hro1 hK
    have hptr : a1.eval (.tmp d8) = .pointer (some ⟨r, 0, none⟩) := by
      have:=ev_run (x := .tmp d8) (v:=ptrV r) hat1.tmps (by simp only [ev,hF8])
      simpa only [ptrV,Rep] using this
    have hw9:∀ a:Act,Region.wanted n9 (yielded ops9 a.tmps)=true:=fun a=>by simp [Region.wanted,g9]
    have hwx:∀ a:Act,Region.wanted x9 (yielded ops9 a.tmps)=true:=fun a=>by simp [Region.wanted,gx9]
    obtain ⟨hl9,hlc⟩:=hlen k r
    have extract : ∀ (C2 : Ctx) (w2 : World) (a2 : Act) (b : Bool) (vs : List AV) (Q' : Exit → Act → World → Prop), At C2 w2 ⟨setN (F k r).tmps d9 (.tup (.bool b :: vs)), (F k r).st⟩ a2 ds → ro ≤ C2.σ.length →
        (∀ C3 w3 a3,At C3 w3 ⟨setN (setN (F k r).tmps d9 (.tup (.bool b::vs))) cc (.bool b),(F k r).st⟩ a3 ds→Grow ro C2 w2 C3 w3→Q' .normal a3 w3)→wpList P ops9 Q' [x9] a2 w2:=by
      intro C2 w2 a2 b vs Q' hat2 hl2 hQ'
      simp only [wpList]
      rw [if_pos (hwx a2)]
      left
      have hop : evOp P X call false ro ⟨setN (F k r).tmps d9 (.tup (.bool b :: vs)), (F k r).st⟩ x9 = some (.bool b, (F k r).st) := by
        unfold evOp
        rw [hx9]
        have : ev ⟨setN (F k r).tmps d9 (.tup (.bool b :: vs)), (F k r).st⟩ (.tmp d9) = some (.tup (.bool b :: vs)) := by
          simp only [ev,nth_setN]
          rw [if_pos ⟨trivial,hl9⟩]
        simp only [this,extractv,List.getElem?_cons_zero,keep]
      refine evOp_sound hX hc hop hat2.st hat2.ok hl2 hat2.tmps ?_
      intro u3 w3 C3 e3 hs3 hg3 hr3 _
      have:=hat2.step (d:=x9.dst) hs3 hg3 hr3
      rw [e3,qx9] at this
      rw [qx9]
      exact hQ' C3 w3 _ this hg3
    apply wp_seq
    refine wp_region_list ?_
    rw [hops9]
    rw [wpList,if_pos (hw9 a1)]
    left
    by_cases hpos:posR s k < s.size
    · have hbody := step k r hI hpos
      have hrun:(Instr.next (.pointer (some ⟨r,0,none⟩)) true n9.type).run P w1 = .ok (.tuple #[.bool true,.int .i64 (posR s k),.int .i32 (Utf8.decode s (posR s k)).1]) (ChangeMaps.setBlock w1 r (.stringIter s (posR s (k + 1)))):=run_nextS (P:=P) w1 n9.type r s (posR s k) hR.iter hpos
      generalize hw2:ChangeMaps.setBlock w1 r (.stringIter s (posR s (k + 1)))=w2 at hrun
      have hblk2:∀ b,b ≠ r→w2.heap[b]? = w1.heap[b]? := fun b hb=>by rw [← hw2,setBlock_get hb]
      have hsz2:w2.heap.size=w1.heap.size:=by rw [← hw2]; simp [ChangeMaps.setBlock]
      have hrlt:r < w1.heap.size:=(Array.getElem?_eq_some_iff.1 hR.iter).1
      have hr2 : w2.heap[r]? = some (.stringIter s (posR s (k + 1))) := by
        rw [← hw2]
        simp [ChangeMaps.setBlock,hrlt]
      obtain ⟨hs2,hk2⟩:=forb_turn hat1.ok ((hR.forb r).2 (.inr rfl)) hR.fix hsz2 hblk2
      have hR2 : Rns C0 w0 ro r s C0.forb (posR s (k + 1)) C1 w2 := by
        refine ⟨hR.forb,hr2,?_,hR.new,hR.fix⟩
        have g:=hR.grow
        have hg2' : w2.os = w1.os ∧ w2.tape = w1.tape ∧ w2.output = w1.output := by
          rw [← hw2]
          exact ⟨rfl,rfl,rfl⟩
        exact ⟨hg2'.1.trans g.os,hg2'.2.1.trans g.tape,hg2'.2.2.trans g.output,by rw [hsz2]; exact g.size,g.forb,fun b hb hkk=>(hblk2 b (by have:=hR.new; omega)).trans (g.blk b hb hkk),g.may,g.turn,g.low⟩
      have hrun9 : (execOp a1.eval n9).run P w1 = .ok (.value (.tuple #[.bool true, (.int .i64 (posR s k)), .int .i32 (Utf8.decode s (posR s k)).1])) w2 := by
        simp only [execOp,h9,hptr,Sem.run_bind,hrun,Result.andThen,Sem.run_pure]
      refine wp_value hrun9 ?_
      rw [q9]
      have hat2 : At C1 w2 ⟨setN (F k r).tmps d9 (.tup [.bool true, (.int .i64 (posR s k)), .int .i32 (Utf8.decode s (posR s k)).1]), (F k r).st⟩ (a1.put (some d9) (.tuple #[.bool true, (.int .i64 (posR s k)), .int .i32 (Utf8.decode s (posR s k)).1])) ds := by
        refine ⟨hat1.st,hs2,?_,(put_tmps _ _ _).2.trans hat1.defers⟩
        rw [(put_tmps _ _ _).1]
        refine set_rep2 (RepAll.mono hk2 _ _ hat1.tmps) ?_
        simp only [Rep]
        exact ⟨_,rfl,by simp only [RepAll,Rep,and_self]⟩
      refine extract C1 w2 _ true _ _ hat2 hro1 fun C3 w3 a3 hat3 hg3 => ?_
      have hR3:=hR2.move hs2 hat3.ok hg3
      show (Code.seq _ _).wp P _ _ _
      apply wp_seq
      have hc3 : a3.eval (.tmp cc) = .bool true := by
        have:=ev_run (x := .tmp cc) (v := .bool true) hat3.tmps (by simp only [ev,nth_setN]; rw [if_pos ⟨trivial,by rw [setN_length]; exact hlc⟩])
        simpa only [Rep] using this
      refine wp_cond_true hc3 (wp_skip ?_)
      show body.wp P _ _ _
      have hro3:ro ≤ C3.σ.length:=Nat.le_trans hro1 hg3.len
      refine hbody C3 w3 a3 _ hat3 hro3 fun x T C6 w6 a6 hRx hat6 hg6 => ?_
      have hR6:=hR3.move hat3.ok hat6.ok hg6
      rcases hRx with ⟨rfl,hI2,hT⟩ | ⟨rfl,hT⟩
      · show K a6 w6
        refine hK C6 w6 a6 hpos hI2 ?_ hR6 (Nat.le_trans hro3 hg6.len)
        have:=hat6.forget Dk
        rw [hT] at this
        exact this
      · show Q .ret a6 w6
        obtain ⟨l1,l2⟩:=less_ok (fb:=C0.forb) hat6.ok (fun x hx=>(hR6.forb x).2 (.inl hx))
        exact hQ .ret T (C6.with C0.forb) w6 a6 (.inr ⟨rfl,hT⟩) ⟨hat6.st,l1,RepAll.mono l2 _ _ hat6.tmps,hat6.defers⟩ hR6.grow
    · have hrun := run_nextE (P := P) w1 n9.type r s (posR s k) hR.iter hpos
      have hrun9 : (execOp a1.eval n9).run P w1 = .ok (.value (.tuple #[.bool false])) w1 := by
        simp only [execOp,h9,hptr,Sem.run_bind,hrun,Result.andThen,Sem.run_pure]
      refine wp_value hrun9 ?_
      have hat2:=hat1.step (d:=n9.dst) (v := .tup [.bool false]) (u := .tuple #[.bool false]) hat1.ok (Grow.refl ro C1 w1) (by simp only [Rep]; exact ⟨[.bool false],rfl,by simp only [RepAll,Rep,and_self]⟩)
      rw [q9] at hat2 ⊢
      have hat2' : At C1 w1 ⟨setN (F k r).tmps d9 (.tup [.bool false]),(F k r).st⟩ (a1.put (some d9) (.tuple #[.bool false])) ds:=⟨hat1.st,hat2.ok,hat2.tmps,hat2.defers⟩
      refine extract C1 w1 _ false [] _ hat2' hro1 fun C3 w3 a3 hat3 hg3 => ?_
      have hR3:=hR.move hat1.ok hat3.ok hg3
      show (Code.seq _ _).wp P _ _ _
      apply wp_seq
      have hc3 : a3.eval (.tmp cc) = .bool false := by
        have:=ev_run (x := .tmp cc) (v := .bool false) hat3.tmps (by simp only [ev,nth_setN]; rw [if_pos ⟨trivial,by rw [setN_length]; exact hlc⟩])
        simpa only [Rep] using this
      refine wp_cond_false hc3 (wp_exit ?_)
      simp only [Exit.then,Exit.inBlock,if_true]
      obtain ⟨l1,l2⟩:=less_ok (fb:=C0.forb) hat3.ok (fun x hx=>(hR3.forb x).2 (.inl hx))
      exact hQ .normal _ (C3.with C0.forb) w3 a3 (.inl ⟨rfl,k,r,hI,hpos,rfl⟩) ⟨hat3.st,l1,RepAll.mono l2 _ _ hat3.tmps,hat3.defers⟩ hR3.grow
  have loop : ∀ (n k : Nat) (C1 : Ctx) (w1 : World) (a1 : Act), s.size ≤ n + posR s k → Inv k → At C1 w1 (F k r) a1 ds → Rns C0 w0 ro r s C0.forb (posR s k) C1 w1 → ro ≤ C1.σ.length →
      Within P (.seq (.region i9 ops9 false) (.seq (.cond (.tmp cc) .skip (.exit kb)) body)) (Exit.inBlock kb Q) a1 w1:=by
    intro n
    induction n with
    | zero =>
      intro k C1 w1 a1 hle hI hat1 hR hro1
      exact within_round (round k C1 w1 a1 _ hI hat1 hR hro1 fun C4 w4 a4 hlt _ _ _ _=>absurd hlt (by omega))
    | succ n ih =>
      intro k C1 w1 a1 hle hI hat1 hR hro1
      exact within_round (round k C1 w1 a1 _ hI hat1 hR hro1 fun C4 w4 a4 hlt hI4 hat4 hR4 hro4=>ih _ C4 w4 a4 (by have:=decode_pos s (posR s k) hlt; show _ ≤ n + (posR s k + (Utf8.decode s (posR s k)).2); omega) hI4 hat4 hR4 hro4)
  refine loop s.size 0 (C.bar r) w1 _ (by show _ ≤ _ + 0; omega) hI0 ?_ hR0 ?_
  · have := hat1.forget Dk
    rw [hF0] at this
    exact this
  · exact Nat.le_trans hro hg0.len
end Go.Vm
end
/- How many letters a string has, told by the length of its runes' row. -/
section
namespace Go.Vm
open Go.RowKit (Below)
variable [Fixed]
variable {P:Program} {C:Ctx} {w:World}
/-- The runes of a string, as the model takes them. -/
def runesN (s:ByteArray):Nat:=(Conv.runesFrom s s.size 0 #[]).size
theorem SR.runesLen {X:Ext} (hX:ExtOk P X) {call:Caller} (hc:CallOk P call) {ro:Nat} {ds:List Deferred} {id:Nat} {ops:Array Oper} {pre post:List Oper} {oc ol:Oper} {S S1 S3:St} {s d e:TypeId} {x:Operand} {dc dl:Tmp} {str:ByteArray} {c:Call}
    (hops:ops.toList=pre ++ oc::ol::post) (hpre:vops P X call false ro ops pre S=some S1)
    (ho:oc.op = .convert s d x) (hwc:wantedv ops S1 oc=some true) (hdc:oc.dst=some dc) (hx:ev S1 x=some (.str str)) (hus:P.underlying s=some .string) (hud:P.underlying d=some (.slice e)) (hue:P.underlying e=some (.int .i32)) (hn:str.size ≤ 70368744177664)
    (hol:ol.op = .call c) (hcal:c.callee = .builtin .len) (hca:c.args = #[.tmp dc]) (hct:c.argTypes[0]? = some d) (hwl:wantedv ops ⟨setN S1.tmps dc .any,S1.st⟩ ol=some true) (hdl:ol.dst=some dl) (hlt:dc < S1.tmps.length)
    (hpost:vops P X call false ro ops post ⟨setN (setN S1.tmps dc .any) dl (.int .i64 (runesN str)),S1.st⟩=some S3) :
    SR P ro ds (.region id ops false) S fun z T=>z = .normal∧T=S3:=by
  intro C0 w0 a0 Q hat0 hro hQ
  refine wp_region_list ?_
  rw [hops]
  refine vops_app hX hc pre hpre hat0 hro fun C w a hat hg0 => ?_
  simp only [wpList]
  rw [if_pos (wanted_run hat.tmps hwc)]
  left
  have hxr:=ev_run hat.tmps hx
  simp only [Rep] at hxr
  have h46 : (Conv.runesFrom str str.size 0 #[]).size ≤ 70368744177664 := by
    have:=size_runesFrom str str.size 0 #[]
    simp at this
    omega
  obtain ⟨cap,hcap⟩:∃ cap,grownCap w (Conv.runesFrom str str.size 0 #[]).size 0 e=cap:=⟨_,rfl⟩
  obtain ⟨row,hrow⟩:∃ row,Conv.runesFrom str str.size 0 #[] ++ Array.replicate (cap - (Conv.runesFrom str str.size 0 #[]).size) (.int .i32 0)=row:=⟨_,rfl⟩
  have hconv:=run_runes_of_string (P:=P) w s d e str hus hud hue h46
  rw [hcap,hrow] at hconv
  have hrunc : (execOp a.eval oc).run P w = .ok (.value (.slice (some ⟨w.heap.size, 0, none⟩) (Conv.runesFrom str str.size 0 #[]).size cap)) (w.drew.alloc (.cells row e)) := by
    simp only [execOp,ho,hxr,Sem.run_bind,hconv,Result.andThen,Sem.run_pure]
  refine wp_value hrunc ?_
  obtain ⟨g1,g2,g3⟩:=more_heap hat.ok ro (w' := w.drew.alloc (.cells row e)) rfl rfl rfl (by show w.heap.size ≤ (w.heap.push _).size; simp) (fun x hx=>by show (w.heap.push _)[x]? = _; rw [Array.getElem?_push_lt hx,Array.getElem?_eq_getElem hx])
  have hat1 : At C (w.drew.alloc (.cells row e)) ⟨setN S1.tmps dc .any, S1.st⟩ (a.put oc.dst (.slice (some ⟨w.heap.size, 0, none⟩) (Conv.runesFrom str str.size 0 #[]).size cap)) ds := by
    refine ⟨hat.st,g1,?_,(put_tmps _ _ _).2.trans hat.defers⟩
    rw [(put_tmps _ _ _).1,hdc]
    exact set_rep2 (RepAll.mono g2.keeps _ _ hat.tmps) (by simp only [Rep])
  have hlen:a.tmps.toList.length=S1.tmps.length:=hat.tmps.length.symm
  have hev : (a.put oc.dst (.slice (some ⟨w.heap.size, 0, none⟩) (Conv.runesFrom str str.size 0 #[]).size cap)).eval (.tmp dc) = .slice (some ⟨w.heap.size, 0, none⟩) (Conv.runesFrom str str.size 0 #[]).size cap := by
    rw [hdc]
    have h2:dc < a.tmps.size:=by rw [← Array.length_toList,hlen]; exact hlt
    simp [Act.put,Act.eval,h2]
  rw [if_pos (wanted_run hat1.tmps hwl)]
  left
  have hrunl : (execOp (a.put oc.dst (.slice (some ⟨w.heap.size, 0, none⟩) (Conv.runesFrom str str.size 0 #[]).size cap)).eval ol).run P (w.drew.alloc (.cells row e)) = .ok (.value (.int .i64 (runesN str))) (w.drew.alloc (.cells row e)) := by
    have hus' : c.args.map (a.put oc.dst (.slice (some ⟨w.heap.size, 0, none⟩) (Conv.runesFrom str str.size 0 #[]).size cap)).eval = [Value.slice (some ⟨w.heap.size, 0, none⟩) (Conv.runesFrom str str.size 0 #[]).size cap].toArray := by
      have one:∀ f:Operand→Value,(#[Operand.tmp dc]).map f = #[f (.tmp dc)]:=fun f=>by simp
      rw [hca,one,hev]
    have hl : (Builtin.len_ c.argTypes ol.type #[Value.slice (some ⟨w.heap.size, 0, none⟩) (Conv.runesFrom str str.size 0 #[]).size cap]).run P (w.drew.alloc (.cells row e)) = .ok (.int .i64 (runesN str)) (w.drew.alloc (.cells row e)) := by
      simp [Builtin.len_,hct,run_und hud,goInt,runesN]
    simp only [execOp,hol,resolve,hcal,Sem.run_bind,Sem.run_pure,Result.andThen,invoke]
    rw [hus']
    simp only [builtin]
    rw [Sem.run_bind,hl]
    rfl
  refine wp_value hrunl ?_
  have hat2:=hat1.step (d:=ol.dst) hat1.ok (Grow.refl ro C (w.drew.alloc (.cells row e))) (v := .int .i64 (runesN str)) (u := .int .i64 (runesN str)) (by simp only [Rep])
  have hat3 : At C (w.drew.alloc (.cells row e)) ⟨setN (setN S1.tmps dc .any) dl (.int .i64 (runesN str)), S1.st⟩ ((a.put oc.dst (.slice (some ⟨w.heap.size, 0, none⟩) (Conv.runesFrom str str.size 0 #[]).size cap)).put ol.dst (.int .i64 (runesN str))) ds := by
    have e:=hat2.tmps
    rw [hdl] at e hat2 ⊢
    exact ⟨hat.st,hat2.ok,e,hat2.defers⟩
  refine vops_sound hX hc post hpost hat3 (Nat.le_trans hro hg0.len) fun C5 w5 a5 hat5 hg5 => ?_
  exact hQ .normal S3 C5 w5 a5 ⟨rfl,rfl⟩ hat5 ((hg0.trans hat.ok g2).trans g1 hg5)
omit [Fixed] in
/-- Its size, counted as a range over the string counts. -/
theorem runes_run (s:ByteArray):∀ (d j m:Nat) (acc:Array Value),(∀ i,j ≤ i→i < j + d→posR s i < s.size)→(Conv.runesFrom s (m + d) (posR s j) acc).size=(Conv.runesFrom s m (posR s (j + d)) (acc ++ Array.replicate d (.int .i32 0))).size
  | 0,j,m,acc,_=>by simp
  | d + 1, j, m, acc, h => by
    have h1:=h j (Nat.le_refl _) (by omega)
    have e : Conv.runesFrom s (m + (d + 1)) (posR s j) acc = Conv.runesFrom s (m + d) (posR s (j + 1)) (acc.push (.int .i32 (Int.ofNat (Utf8.decode s (posR s j)).1))) := by
      show Conv.runesFrom s ((m + d) + 1) (posR s j) acc=_
      unfold Conv.runesFrom
      rw [if_pos h1]
      cases m + d <;> rfl
    rw [e,runes_run s d (j + 1) m _ fun i hi1 hi2=>h i (by omega) (by omega)]
    rw [show j + 1 + d=j + (d + 1) by omega]
    exact runes_acc s m _ _ _ (by simp; omega)
where
  runes_acc (s : ByteArray) : ∀ (m i : Nat) (a b : Array Value), a.size = b.size → (Conv.runesFrom s m i a).size = (Conv.runesFrom s m i b).size
    | 0,_,_,_,h=>h
    | m + 1, i, a, b, h => by
      unfold Conv.runesFrom
      split
      · exact runes_acc s m _ _ _ (by simp [h])
      · exact h
omit [Fixed] in
theorem runes_end {s:ByteArray} {k:Nat} (h:∀ j,j < k→posR s j < s.size) (he : ¬ posR s k < s.size) (hk:k ≤ s.size):runesN s=k:=by
  have:=runes_run s k 0 (s.size - k) #[] fun i _ hi=>h i (by omega)
  rw [Nat.zero_add,show s.size - k + k=s.size by omega] at this
  unfold runesN
  rw [show (0:Nat)=posR s 0 from rfl,this]
  cases hm:s.size - k with
  | zero=>simp [Conv.runesFrom]
  | succ m=>unfold Conv.runesFrom; rw [if_neg he]; simp
end Go.Vm
end
