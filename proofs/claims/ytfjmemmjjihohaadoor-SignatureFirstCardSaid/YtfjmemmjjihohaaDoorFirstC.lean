/- Part 3 of the texts of this claim: the evaluator, and what it says of the program's functions. -/
import Derived.Test.YtfjmemmjjihohaaDoorFirstB
import Derived.Handed
import Derived.ChangeSame
import Derived.ChangeVars
import Derived.JoinedOf
import Derived.RowKit
import Derived.WideShapes
import Derived.Sort.Row
import Derived.Sort.Grow
import Derived.Lib.SlicesCompact
import Derived.Maps.RangeRun
import Derived.Shelf.Strings.Builder1
import Derived.Laws.RangeAny
import Derived.Laws.IdiomStrings
import Derived.Recover
import Derived.LoopN
import Derived.Defers
import Derived.WalkSmall
import Derived.Laws.Build
set_option linter.unusedSectionVars false
set_option linter.unusedVariables false
set_option linter.unusedSimpArgs false
set_option linter.constructorNameAsVariable false
/- A law's row, from a call that is told. -/
section
namespace Go.Vm
open Go.RowKit Go.ChangeShapes Go.WideShapes

/-- An argument, as the evaluator knows it. -/
def ArgIs (P:Program) (B:Nat) (t:TypeId) (v:AV):Prop:=match P.underlying t with
  | some (.struct _)=>∃ cs,v = .agg cs∧Shape P B t cs
  | _=>Shape P B t [v]
def ShapeArgs (P:Program) (B:Nat):List TypeId→List AV→Prop
  | [],[]=>True
  | t::ts,v::vs=>ArgIs P B t v∧ShapeArgs P B ts vs
  | _,_=>False
theorem shape1 {P:Program} {B:Nat} {t:TypeId} {avs:List AV} (h:ShapeArgs P B [t] avs):∃ a,avs=[a]∧ArgIs P B t a:=by
  match avs,h with
  | [a],h=>exact ⟨a,rfl,h.1⟩
theorem ArgIs.agg {P:Program} {B:Nat} {t:TypeId} {v:AV} {fs:Array Field} (hu:P.underlying t=some (.struct fs)) (h:ArgIs P B t v):∃ cs,v = .agg cs∧Shape P B t cs:=by
  unfold ArgIs at h
  rw [hu] at h
  exact h
theorem ArgIs.one {P:Program} {B:Nat} {t:TypeId} {v:AV} {d:TypeDesc} (hu:P.underlying t=some d) (hd:aggD d=false) (h:ArgIs P B t v):Shape P B t [v]:=by
  unfold ArgIs at h
  rw [hu] at h
  cases d <;> first | exact h | cases hd
section
variable [Fixed]
variable {P:Program} {B:Nat} {W:World} {H:Type} {enc:TypeId × Value→H}
theorem args_known {all:List TypeId} {base:Nat} (hall:all.all (okT P all)=true):∀ (ts:List TypeId) (args:List Value) (ds:List (DataW H)) (ps:List MemPlace),DataW.TrodAll enc P W 0 (fun _=>true) true ts args ds ps→(∀ t,t ∈ ts→t ∈ all)→(∀ n ∈ DataW.weightsEach P ts ds,n ≤ B) →
    (∀ (j:Nat) t v,ts[j]? = some t→args[j]? = some v→Value.okWide P W .any base t v)→∃ avs,ShapeArgs P B ts avs∧RepAll C0 W avs args
  | [],[],[],_,_,_,_,_=>⟨[],trivial,by simp [RepAll]⟩
  | [],[],_::_,_,h,_,_,_=>by simp [DataW.TrodAll] at h
  | [],_::_,_,_,h,_,_,_=>by simp [DataW.TrodAll] at h
  | _::_,[],_,_,h,_,_,_=>by simp [DataW.TrodAll] at h
  | _::_,_::_,[],_,h,_,_,_=>by simp [DataW.TrodAll] at h
  | t :: ts, v :: vs, d :: ds, ps, h, hm, hw, hok => by
    obtain ⟨p,q,h1,h2,rfl⟩:=h
    obtain ⟨avs,k1,k2⟩:=args_known hall ts vs ds q h2 (fun u hu=>hm u (List.mem_cons_of_mem _ hu)) (fun n hn=>hw n (by simp only [DataW.weightsEach,List.mem_append]; exact .inr hn)) (fun j u x hu hx=>hok (j + 1) u x (by simpa using hu) (by simpa using hx))
    obtain ⟨fuel,hf⟩:=h1
    obtain ⟨xs,s1,s2,s3,s4⟩:=known_of hall fuel t _ d p (hm t (List.mem_cons_self ..)) hf (fun n hn=>hw n (by simp only [DataW.weightsEach,List.mem_append]; exact .inl hn))
    have hwide:=hok 0 t v rfl rfl
    have plain : (∀ cs, v ≠ .agg cs) → (¬ ∃ fs, P.underlying t = some (.struct fs)) → xs.length = 1 → ∃ avs, ShapeArgs P B (t :: ts) avs ∧ RepAll C0 W avs (v :: vs) := by
      intro hv hns hlen
      obtain ⟨x, rfl⟩ : ∃ x, xs = [x] := by
        cases xs with
        | nil=>simp at hlen
        | cons x xs => cases xs with
          | nil=>exact ⟨x,rfl⟩
          | cons _ _=>simp at hlen
      have hc:v.cells.toList=[v]:=by cases v <;> first | rfl | exact absurd rfl (hv _)
      rw [hc] at s2
      simp only [RepAll,and_true] at s2
      refine ⟨x::avs,⟨?_,k1⟩,by simp only [RepAll]; exact ⟨s2,k2⟩⟩
      unfold ArgIs
      split
      · rename_i fs hfs
        exact absurd ⟨fs,hfs⟩ hns
      · exact s1
    have hokT:=List.all_eq_true.1 hall t (hm t (List.mem_cons_self ..))
    unfold okT at hokT
    simp only [Value.okWide,Cell.okWide,Cell.ok] at hwide
    split at hokT
    · rename_i hu
      simp only [hu] at hwide
      exact plain (fun cs e=>by subst e; simp at hwide) (fun ⟨fs,e⟩=>by rw [hu] at e; cases e) (by simp at hokT; rw [s4,hokT])
    · rename_i k hu
      simp only [hu] at hwide
      exact plain (fun cs e=>by subst e; simp at hwide) (fun ⟨fs,e⟩=>by rw [hu] at e; cases e) (by simp at hokT; rw [s4,hokT])
    · rename_i hu
      simp only [hu] at hwide
      exact plain (fun cs e=>by subst e; simp at hwide) (fun ⟨fs,e⟩=>by rw [hu] at e; cases e) (by simp at hokT; rw [s4,hokT])
    · rename_i e hu
      simp only [hu] at hwide
      exact plain (fun cs e=>by subst e; simp at hwide) (fun ⟨fs,e⟩=>by rw [hu] at e; cases e) (by simp at hokT; rw [s4,hokT.1.1])
    · rename_i fs hu
      simp only [hu] at hwide
      obtain ⟨cs,rfl,_,_⟩:=hwide
      refine ⟨.agg xs::avs,⟨?_,k1⟩,?_⟩
      · unfold ArgIs
        simp only [hu]
        exact ⟨xs,rfl,s1⟩
      · simp only [RepAll, Rep]
        exact ⟨⟨s3,cs.toList,by simp,s2⟩,k2⟩
    · cases hokT
theorem carry_all {W' : World} (hl:laidOutB P=true) (hb:Below W.heap.size W W'):∀ (ts:List TypeId) (args:List Value) (ds:List (DataW H)) (ps:List MemPlace),DataW.TrodAll enc P W 0 (fun _=>true) true ts args ds ps→(∀ t,t ∈ ts→P.readableRec t=true∧t < P.types.size) →
    DataW.TrodAll enc P W' 0 (fun b=>decide (b < W.heap.size)) true ts args ds ps
  | [],[],[],_,h,_=>h
  | [],[],_::_,_,h,_=>by simp [DataW.TrodAll] at h
  | [],_::_,_,_,h,_=>by simp [DataW.TrodAll] at h
  | _::_,[],_,_,h,_=>by simp [DataW.TrodAll] at h
  | _::_,_::_,[],_,h,_=>by simp [DataW.TrodAll] at h
  | t :: ts, v :: vs, d :: ds, ps, h, hr => by
    obtain ⟨p,q,h1,h2,rfl⟩:=h
    have lt : ∀ x ∈ p, x.block < W.heap.size := by
      obtain ⟨m,hm⟩:=h1
      exact DataW.trod_lt m _ _ _ hm
    obtain ⟨r1,r2⟩:=hr t (List.mem_cons_self ..)
    exact ⟨p,q,Below.trod hl r1 r2 h1 hb lt,carry_all hl hb ts vs ds q h2 (fun u hu=>hr u (List.mem_cons_of_mem _ hu)),rfl⟩
/-- What a law's row asks of a call. -/
theorem law_calls {f:FuncId} {fn:Func} {s:ChangeSpec} {all:List TypeId} {tb:TypeId} {base:Nat} {apart:Bool} {args:Array Value} {ds gs:List (DataW H)} {before:List MemPlace}
    (hall:all.all (okT P all)=true) (hpar:fn.params.toList.all (fun t=>memN t all && (P.readableRec t && Nat.blt t P.types.size))=true) (hl:laidOutB P=true) (hv:s.vars=[]) (hs:∀ ds:List (DataW H),ds.length=fn.params.toList.length→s.fn H ds = { results:=[.lit (.bool true)],args:=ds })
    (hrt:fn.resultTypes = #[tb]) (htb:P.underlying tb=some .bool) (hf:∀ b X,Fixed.fix b X→W.heap[b]? = some X)
    (hval:∀ (j:Nat) t v,fn.params[j]? = some t→args[j]? = some v→Value.okWide P W .any base t v)
    (hW:DataW.Whole enc P fn.params.toList s.vars apart W args.toList ds gs before) (hsz:(DataW.weightsEach P (fn.params.toList ++ s.plain.varTypes P) (ds ++ gs)).all (· ≤ B)=true)
    (hcall:∀ avs,ShapeArgs P B fn.params.toList avs→CallAt P f avs [] 0 (.bool true) []) :
    Calls P f args W fun e W' => ∃ v,e = .returned v∧s.post enc P fn apart true false false W args v W' := by
  have hW' := hW
  obtain ⟨p,q,hA,hV,rfl,_,_⟩:=hW
  rw [hv] at hV
  obtain ⟨rfl,rfl⟩:=trodVars_none hV
  have hlen : ∀ (ts : List TypeId) (vs : List Value) (ds : List (DataW H)) (ps : List MemPlace), DataW.TrodAll enc P W 0 (fun _ => true) true ts vs ds ps → ds.length = ts.length := by
    intro ts
    induction ts with
    | nil=>intro vs ds ps h; cases vs <;> cases ds <;> simp_all [DataW.TrodAll]
    | cons t ts ih =>
      intro vs ds ps h
      cases vs with
      | nil=>simp [DataW.TrodAll] at h
      | cons v vs => cases ds with
        | nil=>simp [DataW.TrodAll] at h
        | cons d ds =>
          obtain ⟨_,_,_,h2,_⟩:=h
          simp [ih vs ds _ h2]
  have hdl:=hlen _ _ _ _ hA
  rw [List.append_nil] at hsz
  have hvt : s.plain.varTypes P = [] := by
    show (ChangeSpec.plain s).varTypes P=[]
    unfold ChangeSpec.plain
    simp [hv,DataSpec.varTypes]
  rw [hvt,List.append_nil] at hsz
  have hmem:=List.all_eq_true.1 hpar
  have hm : ∀ t, t ∈ fn.params.toList → t ∈ all ∧ P.readableRec t = true ∧ t < P.types.size := by
    intro t ht
    have:=hmem t ht
    simp only [Bool.and_eq_true] at this
    exact ⟨memN_iff this.1,this.2.1,by simpa using this.2.2⟩
  obtain ⟨avs,a1,a2⟩:=args_known (base:=base) hall _ _ _ _ hA (fun t ht=>(hm t ht).1) (fun n hn=>by simpa using List.all_eq_true.1 hsz n hn) (fun j t v ht hx=>hval j t v (by simpa using ht) (by simpa using hx))
  have hc:=(hcall avs a1).bool hf a2
  rw [show args.toList.toArray=args from Array.toArray_toList] at hc
  refine hc.mono fun e W' ⟨he,bel⟩ => ?_
  subst he
  refine ⟨_,rfl,ds,[],_,[],p,[],hW',?_,?_,?_,bel.frame _,fun h=>by cases h⟩
  · rw [List.append_nil, hs ds hdl, hrt]
    exact trodAll_mk1 (shut_bool htb _)
  · rw [List.append_nil, hs ds hdl]
    exact carry_all hl bel _ _ _ _ hA (fun t ht=>(hm t ht).2)
  · rw [List.append_nil, hs ds hdl, hv]
    rfl
end
end Go.Vm
end
/- Library functions that turn a row of the call's own: what the sort's and Compact's contracts say, as functions over the store. -/
section
namespace Go.Vm
open Go.RowKit (Below)
variable [Fixed]
variable {P:Program} {C:Ctx} {w:World}
/-- A store's answer, where nothing comes back. -/
def unit1:Option (List Ob)→Option (AV × List Ob)
  | some σ=>some (.undef,σ)
  | none=>none
/-- Values of one cell that name nothing. -/
structure Plain {α:Type} (enc:α→Value) (av:α→AV):Prop where
  rep:∀ [Fixed] (C:Ctx) (w:World) (x:α),Rep C w (av x) (enc x)
  back:∀ [Fixed] (C:Ctx) (w:World) (x:α) (u:Value),Rep C w (av x) u→u=enc x
  one:∀ x,(av x).one=true
section
variable {α:Type} [Inhabited α] {enc:α→Value} {av:α→AV}
theorem Plain.all (hp:Plain enc av) (C:Ctx) (w:World):∀ l:List α,RepAll C w (l.map av) (l.map enc)
  | []=>by simp only [List.map_nil,RepAll]
  | x::l=>by simp only [List.map_cons,RepAll]; exact ⟨hp.rep C w x,hp.all C w l⟩
theorem Plain.allBack (hp:Plain enc av):∀ (l:List α) (us:List Value),RepAll C w (l.map av) us→us=l.map enc
  | [],[],_=>rfl
  | [],_::_,h=>by simp only [List.map_nil,RepAll] at h
  | _::_,[],h=>by simp only [List.map_cons,RepAll] at h
  | x :: l, u :: us, h => by
    simp only [List.map_cons,RepAll] at h
    rw [hp.back C w x u h.1,hp.allBack l us h.2]
    rfl
theorem Plain.ones (hp:Plain enc av):∀ l:List α,allOne (l.map av)
  | []=>trivial
  | x::l=>⟨hp.one x,hp.ones l⟩
/-- What a row of the call's own holds. -/
theorem Plain.row (hp:Plain enc av) (hs:SOk C w) {id:Nat} {l:List α} (ho:C.σ[id]? = some (.arr l.length 1 (l.map av))) :
    Go.Sort.Holds enc w (C.φ id) 0 l.toArray∧C.φ id < w.heap.size∧l.length ≤ C.κ id∧C.κ id ≤ maxLen∧∃ vs e,w.heap[C.φ id]? = some (.cells (l.map enc ++ vs).toArray e (0,0))∧l.length + vs.length=C.κ id:=by
  obtain ⟨h0,h1,hnc,hcm,us,vs,e,h2,h4,h3⟩:=hs.ob id _ ho
  have hu:=hp.allBack l us h3
  subst hu
  refine ⟨?_,hs.blk _ _ ho trivial,hnc,hcm,vs,e,h2,by simpa using h4⟩
  intro j hj
  have hj' : j < l.length:=by simpa using hj
  constructor
  · simp only [World.cell?, h2, Nat.zero_add]
    rw [getElem!_pos l.toArray j hj]
    simp only [List.getElem?_toArray,List.getElem_toArray]
    rw [List.getElem?_append_left (by simpa using hj'),List.getElem?_map,List.getElem?_eq_getElem hj']
    rfl
  · simp [World.frozen?,h2]
theorem put_heap {w:World} {b:Nat} {l l' : List α} {vs:List Value} {e:TypeId} (hg:w.heap[b]? = some (.cells (l.map enc ++ vs).toArray e (0,0))) (hl:l'.length=l.length) (q:Nat) (os:Array Obj) :
    (Go.Sort.grow (Go.Sort.putRow enc (Go.Sort.ahead w q) b 0 l'.toArray) os).heap[b]? = some (.cells (l'.map enc ++ vs).toArray e (0,0)):=by
  have hb:b < w.heap.size:=(Array.getElem?_eq_some_iff.1 hg).1
  have hx : (Go.Sort.putRow enc (Go.Sort.ahead w q) b 0 l'.toArray).heap[b]? = some (.cells (l'.map enc ++ vs).toArray e (0, 0)) := by
    simp only [Go.Sort.putRow,Go.Sort.mapBlock,Go.Sort.ahead,Array.getElem?_modify,if_true]
    rw [hg]
    simp only [Option.map_some,Go.Sort.onCells]
    congr 2
    apply Array.ext_getElem?
    intro k
    simp only [Go.Sort.putCells,Array.getElem?_mapIdx,List.size_toArray,List.getElem?_toArray,Nat.zero_add,Nat.sub_zero,Nat.zero_le,true_and]
    by_cases hk:k < l'.length
    · rw [List.getElem?_append_left (by simpa [hl] using hk), List.getElem?_append_left (by simpa using hk)]
      have hkl:k < l.length:=by omega
      simp only [List.getElem?_map,List.getElem?_eq_getElem hkl,List.getElem?_eq_getElem hk,Option.map_some,if_pos hk]
      rw [getElem!_pos l'.toArray k (by simpa using hk)]
      simp
    · rw [List.getElem?_append_right (by simp; omega), List.getElem?_append_right (by simp; omega)]
      simp only [List.length_map,hl]
      cases vs[k - l.length]? with
      | none=>rfl
      | some y =>
        simp only [Option.map_some]
        rw [if_neg (by omega)]
  simp only [Go.Sort.grow]
  rw [Array.getElem?_append_left (by simpa [Go.Sort.putRow,Go.Sort.mapBlock,Go.Sort.ahead] using hb)]
  exact hx
theorem put_other {w:World} {b x:Nat} {d:Array α} (hx:x < w.heap.size) (hne:x ≠ b) (q:Nat) (os:Array Obj) :
    (Go.Sort.grow (Go.Sort.putRow enc (Go.Sort.ahead w q) b 0 d) os).heap[x]? = w.heap[x]? := by
  simp only [Go.Sort.grow]
  rw [Array.getElem?_append_left (by simpa [Go.Sort.putRow,Go.Sort.mapBlock,Go.Sort.ahead] using hx)]
  simp only [Go.Sort.putRow,Go.Sort.mapBlock,Go.Sort.ahead,Array.getElem?_modify]
  rw [if_neg (fun e=>hne e.symm)]
theorem put_size {w:World} {b:Nat} {d:Array α} (q:Nat) (os:Array Obj):w.heap.size ≤ (Go.Sort.grow (Go.Sort.putRow enc (Go.Sort.ahead w q) b 0 d) os).heap.size:=by
  simp [Go.Sort.grow,Go.Sort.putRow,Go.Sort.mapBlock,Go.Sort.ahead]
/-- The row holds other elements. -/
theorem Plain.turned (hp:Plain enc av) (hs:SOk C w) {ro id:Nat} {l l' : List α} (ho:C.σ[id]? = some (.arr l.length 1 (l.map av))) (hro:ro ≤ id) (hl:l'.length=l.length) (q:Nat) (os:Array Obj) :
    SOk (C.put id (.arr l'.length 1 (l'.map av)) (C.φ id) (C.κ id)) (Go.Sort.grow (Go.Sort.putRow enc (Go.Sort.ahead w q) (C.φ id) 0 l'.toArray) os) ∧
    Grow ro C w (C.put id (.arr l'.length 1 (l'.map av)) (C.φ id) (C.κ id)) (Go.Sort.grow (Go.Sort.putRow enc (Go.Sort.ahead w q) (C.φ id) 0 l'.toArray) os):=by
  obtain ⟨_,hb,hn,hm,vs,e,h2,h4⟩:=hp.row hs ho
  have hX:=put_heap (enc:=enc) h2 hl q os
  refine turn_one hs ho trivial hro rfl rfl rfl (put_size q os) (fun x hx hne=>put_other hx hne q os) (.inl rfl) (Nat.lt_of_lt_of_le hb (put_size q os)) ?_ ?_
  · exact .inl ⟨l'.length,1,_,.inl rfl,by omega,fun _=>⟨rfl,rfl⟩⟩
  · intro _
    exact ⟨by simp,hp.ones l',by omega,hm,l'.map enc,vs,e,hX,by simp; omega,hp.all _ _ l'⟩
/-- A row of one's own, read back. -/
def ownRow (dec:List AV→Option (List α)) (σ:List Ob) (ro:Nat) (v:AV):Option (Nat × List α) :=
  match v with
  | .own id n => match σ[id]? with
    | some (.arr n' sz cs) => match dec cs with
      | some l=>if n' = n∧sz=1∧ro ≤ id∧n=l.length∧n ≤ 140737488355328 then some (id,l) else none
      | none=>none
    | _=>none
  | _=>none
theorem ownRow_at {dec:List AV→Option (List α)} (hd:∀ cs l,dec cs=some l→cs=l.map av) {ro:Nat} {v:AV} {id:Nat} {l:List α} (h:ownRow dec C.σ ro v=some (id,l)) :
    v = .own id l.length∧C.σ[id]? = some (.arr l.length 1 (l.map av))∧ro ≤ id∧l.length ≤ 140737488355328:=by
  unfold ownRow at h
  split at h
  · split at h
    · rename_i ho
      split at h
      · rename_i l' hl
        split at h
        · rename_i hc
          simp only [Option.some.injEq,Prod.mk.injEq] at h
          obtain ⟨rfl,rfl⟩:=h
          obtain ⟨rfl,rfl,h3,h4,h5⟩:=hc
          have:=hd _ _ hl
          subst this
          subst h4
          exact ⟨rfl,ho,h3,h5⟩
        · cases h
      · cases h
    · cases h
  · cases h
theorem own_value (hs:SOk C w) {id n:Nat} {sz:Nat} {cs:List AV} {u:Value} (ho:C.σ[id]? = some (.arr n sz cs)) (h:Rep C w (.own id n) u):u = .slice (some ⟨C.φ id,0,none⟩) n (C.κ id):=by
  simp only [Rep,RowIs,ho] at h
  exact h.2.2 trivial
def isNil:AV→Bool
  | .list .nil 0 0 []=>true
  | _=>false
/-- Sort: the row holds its elements in order. -/
def sortFn (dec:List AV→Option (List α)) (av:α→AV) (le:α→α→Bool) (vs:List AV) (σ:List Ob) (ro:Nat):Option (AV × List Ob) :=
  match vs with
  | [v] => if isNil v then some (.tup [], σ) else match ownRow dec σ ro v with
    | some (id,l)=>some (.tup [],setOb σ id (.arr l.length 1 ((l.mergeSort le).map av)))
    | none=>none
  | _=>none
theorem isNil_eq {v:AV} (h:isNil v=true):v = .list .nil 0 0 []:=by
  unfold isNil at h
  split at h
  · rfl
  · cases h
theorem nil_value {u:Value} (h:Rep C w (.list .nil 0 0 []) u):u = .slice none 0 0:=by
  simp only [Rep] at h
  obtain ⟨_,_,a,cap,rfl,_,_,_,h5,_⟩:=h
  obtain ⟨rfl,rfl⟩:=h5 trivial
  rfl
theorem sort_st (hp:Plain enc av) {f:FuncId} {dec:List AV→Option (List α)} (hd:∀ cs l,dec cs=some l→cs=l.map av) {le:α→α→Bool}
    (hcall : ∀ (blk cap : Nat) (zs : List α) (w : World), Go.Sort.Holds enc w blk 0 zs.toArray → blk < w.heap.size → zs.length < 4611686018427387904 →
      Calls P f #[.slice (some ⟨blk,0,none⟩) zs.length cap] w fun e w' => e = .returned (.tuple #[])∧∃ n os,w' = Go.Sort.grow (Go.Sort.putRow enc (Go.Sort.ahead w n) blk 0 (zs.mergeSort le).toArray) os)
    (hnone:∀ (p:Option Addr) (cap:Nat) (w:World),Calls P f #[.slice p 0 cap] w fun e w' => e = .returned (.tuple #[])∧w' = w) :
    ∀ vs σ ro r σ', sortFn dec av le vs σ ro = some (r, σ') → ∀ (C : Ctx) (w : World) (us : List Value), C.σ = σ → SOk C w → ro ≤ σ.length → RepAll C w vs us →
      Calls P f us.toArray w fun e w' => ∃ u C',e = .returned u∧C'.σ=σ' ∧ SOk C' w' ∧ Grow ro C w C' w' ∧ Rep C' w' r u:=by
  intro vs σ ro r σ' h C w us hσ hs hro hrep
  subst hσ
  unfold sortFn at h
  split at h
  · rename_i v
    obtain ⟨u, rfl⟩ : ∃ u, us = [u] := by
      match us,hrep with
      | [],h=>simp only [RepAll] at h
      | [u],_=>exact ⟨u,rfl⟩
      | _::_::_,h=>simp only [RepAll,and_false] at h
    simp only [RepAll,and_true] at hrep
    split at h
    · rename_i hn
      have:=isNil_eq hn
      subst this
      simp only [Option.some.injEq,Prod.mk.injEq] at h
      obtain ⟨rfl,rfl⟩:=h
      have:=nil_value hrep
      subst this
      refine Calls.mono (hnone none 0 w) ?_
      rintro e w' ⟨rfl,rfl⟩
      exact ⟨_,C,rfl,rfl,hs,Grow.refl _ _ _,by simp only [Rep]; exact ⟨[],rfl,by simp only [RepAll]⟩⟩
    · split at h
      · rename_i id l hl
        simp only [Option.some.injEq,Prod.mk.injEq] at h
        obtain ⟨rfl,rfl⟩:=h
        obtain ⟨rfl,ho,h3,h4⟩:=ownRow_at hd hl
        have:=own_value hs ho hrep
        subst this
        obtain ⟨k1,k2,_⟩:=hp.row hs ho
        refine Calls.mono (hcall (C.φ id) (C.κ id) l w k1 k2 (by omega)) ?_
        rintro e w' ⟨rfl,q,os,rfl⟩
        have hlen:(l.mergeSort le).length=l.length:=List.length_mergeSort l
        obtain ⟨j1,j2⟩:=hp.turned hs (l' := l.mergeSort le) ho h3 hlen q os
        rw [hlen] at j1 j2
        exact ⟨_,_,rfl,rfl,j1,j2,by simp only [Rep]; exact ⟨[],rfl,by simp only [RepAll]⟩⟩
      · cases h
  · cases h
/-- Compact: the row, cut. -/
def compFn [DecidableEq α] (dec:List AV→Option (List α)) (av:α→AV) (vs:List AV) (σ:List Ob) (ro:Nat):Option (AV × List Ob) :=
  match vs with
  | [v] => if isNil v then some (v, σ) else match ownRow dec σ ro v with
    | some (id,l)=>some (.own σ.length (Lib.compact l).length,setOb σ id .gone ++ [.arr (Lib.compact l).length 1 ((Lib.compact l).map av)])
    | none=>none
  | _=>none
theorem setOb_setOb:∀ (σ:List Ob) (id:Nat) (a b:Ob),setOb (setOb σ id a) id b=setOb σ id b
  | [],_,_,_=>rfl
  | _::_,0,_,_=>rfl
  | x::l,i + 1,a,b=>by simp only [setOb,setOb_setOb l i a b]
theorem comp_st [DecidableEq α] (hp:Plain enc av) {f:FuncId} {dec:List AV→Option (List α)} (hd:∀ cs l,dec cs=some l→cs=l.map av) (z:α) (hcl:∀ l:List α,(Lib.compact l).length ≤ l.length)
    (hcall : ∀ (blk cap : Nat) (zs : List α) (w : World), Go.Sort.Holds enc w blk 0 zs.toArray → zs.length ≤ 9223372036854775807 → zs.length ≤ cap →
      Calls P f #[.slice (some ⟨blk,0,none⟩) zs.length cap] w fun e w' => e = .returned (.slice (some ⟨blk,0,none⟩) (Lib.compact zs).length cap)∧∃ q,w' = Go.Sort.putRow enc (Go.Sort.ahead w q) blk 0 (Lib.compact zs ++ List.replicate (zs.length - (Lib.compact zs).length) z).toArray)
    (hnone:∀ (p:Option Addr) (cap:Nat) (w:World),Calls P f #[.slice p 0 cap] w fun e w' => e = .returned (.slice p 0 cap)∧w' = w) :
    ∀ vs σ ro r σ', compFn dec av vs σ ro = some (r, σ') → ∀ (C : Ctx) (w : World) (us : List Value), C.σ = σ → SOk C w → ro ≤ σ.length → RepAll C w vs us →
      Calls P f us.toArray w fun e w' => ∃ u C',e = .returned u∧C'.σ=σ' ∧ SOk C' w' ∧ Grow ro C w C' w' ∧ Rep C' w' r u:=by
  intro vs σ ro r σ' h C w us hσ hs hro hrep
  subst hσ
  unfold compFn at h
  split at h
  · rename_i v
    obtain ⟨u, rfl⟩ : ∃ u, us = [u] := by
      match us,hrep with
      | [],h=>simp only [RepAll] at h
      | [u],_=>exact ⟨u,rfl⟩
      | _::_::_,h=>simp only [RepAll,and_false] at h
    simp only [RepAll,and_true] at hrep
    split at h
    · rename_i hn
      have:=isNil_eq hn
      subst this
      simp only [Option.some.injEq,Prod.mk.injEq] at h
      obtain ⟨rfl,rfl⟩:=h
      have:=nil_value hrep
      subst this
      refine Calls.mono (hnone none 0 w) ?_
      rintro e w' ⟨rfl,rfl⟩
      exact ⟨_,C,rfl,rfl,hs,Grow.refl _ _ _,hrep⟩
    · split at h
      · rename_i id l hl
        simp only [Option.some.injEq,Prod.mk.injEq] at h
        obtain ⟨rfl,rfl⟩:=h
        obtain ⟨rfl,ho,h3,h4⟩:=ownRow_at hd hl
        have:=own_value hs ho hrep
        subst this
        obtain ⟨k1,k2,k3,_⟩:=hp.row hs ho
        refine Calls.mono (hcall (C.φ id) (C.κ id) l w k1 (by omega) k3) ?_
        rintro e w' ⟨rfl,q,rfl⟩
        have hc:=hcl l
        generalize hcc:Lib.compact l=c at hc ⊢
        have hlen:(c ++ List.replicate (l.length - c.length) z).length=l.length:=by simp; omega
        obtain ⟨j1,j2⟩:=hp.turned hs (l' := c ++ List.replicate (l.length - c.length) z) ho h3 hlen q #[]
        have eg : Go.Sort.grow (Go.Sort.putRow enc (Go.Sort.ahead w q) (C.φ id) 0 (c ++ List.replicate (l.length - c.length) z).toArray) #[] = Go.Sort.putRow enc (Go.Sort.ahead w q) (C.φ id) 0 (c ++ List.replicate (l.length - c.length) z).toArray := by
          unfold Go.Sort.grow
          rw [Array.append_empty]
        rw [eg] at j1 j2
        generalize Go.Sort.putRow enc (Go.Sort.ahead w q) (C.φ id) 0 (c ++ List.replicate (l.length - c.length) z).toArray=w1 at j1 j2 ⊢
        generalize hC1:C.put id (.arr (c ++ List.replicate (l.length - c.length) z).length 1 ((c ++ List.replicate (l.length - c.length) z).map av)) (C.φ id) (C.κ id)=C1 at j1 j2
        have hφ:C1.φ id=C.φ id:=by subst hC1; simp [Ctx.put,upd]
        have hκ:C1.κ id=C.κ id:=by subst hC1; simp [Ctx.put,upd]
        have ho1 : C1.σ[id]? = some (.arr (c ++ List.replicate (l.length - c.length) z).length 1 ((c ++ List.replicate (l.length - c.length) z).map av)) := by
          subst hC1; exact setOb_same _ ho
        have hlen1:C1.σ.length=C.σ.length:=by subst hC1; simp [Ctx.put,setOb_length]
        obtain ⟨m1,m2,m3,m4,vs1,e1,m5,m6⟩:=hp.row j1 ho1
        obtain ⟨n1, n2⟩ := anew_one j1 (o' := .arr c.length 1 (c.map av)) ho1 h3 (fun hk => ⟨by simp, hp.ones c, by rw [hlen] at m3; omega, m4, c.map enc, (List.replicate (l.length - c.length) z).map enc ++ vs1, e1, by rw [m5, List.map_append, List.append_assoc], by
          rw [hlen] at m6
          simp only [List.length_map,List.length_append,List.length_replicate]
          omega,hp.all _ _ c⟩)
        refine ⟨_,C1.anew id (.arr c.length 1 (c.map av)),rfl,?_,n1,Grow.trans j1 j2 n2,?_⟩
        · subst hC1
          simp only [Ctx.anew,Ctx.put,setOb_setOb]
        · simp only [Rep]
          refine ⟨⟨_,_,rfl⟩,?_⟩
          unfold RowIs
          have hget : (C1.anew id (.arr c.length 1 (c.map av))).σ[C.σ.length]? = some (.arr c.length 1 (c.map av)) := by
            rw [← hlen1]
            simp only [Ctx.anew]
            rw [List.getElem?_append_right (by rw [setOb_length]; exact Nat.le_refl _),setOb_length]
            simp
          rw [hget]
          simp only
          rw [← hlen1]
          simp only [Ctx.anew,upd_same,hφ,hκ]
          exact ⟨Nat.le_refl _,fun _=>trivial⟩
      · cases h
  · cases h
end
end Go.Vm
end
/- Codes: data of Go's types, as abstract values; specifications over data. -/
section
namespace Go.Vm
variable [Fixed]
variable {P:Program}

/-- How data lie in k cells. -/
structure Cod (α:Type) where
  k:Nat
  dec:List AV→Option α
  enc:α→List AV
  len:∀ x,(enc x).length=k
  one:∀ x,allOne (enc x)
  lt:∀ x,AV.ltAll 0 (enc x)=true
  owns:∀ x,AV.ownsAll (enc x)=[]
  de:∀ x,dec (enc x)=some x
  ro:∀ x,∀ v ∈ enc x,unfr1 v=v
  declt:∀ (cs:List AV) (x:α),dec cs=some x→AV.ltAll 0 cs=true
  rep:∀ (C:Ctx) (w:World) (cs:List AV) (us:List Value) (x:α),dec cs=some x→RepAll C w cs us→RepAll C w (enc x) us
def Cod.str:Cod ByteArray where
  k:=1
  dec:=fun | [.str s]=>some s | _=>none
  enc:=fun s=>[.str s]
  len:=fun _=>rfl
  one:=fun _=>⟨rfl,trivial⟩
  lt:=fun _=>rfl
  owns:=fun _=>rfl
  de:=fun _=>rfl
  ro:=fun x v hv=>by simp only [List.mem_singleton] at hv; subst hv; rfl
  declt := fun cs x h => by
    split at h
    · rfl
    · cases h
  rep := fun C w cs us x h hr => by
    split at h
    · simp only [Option.some.injEq] at h; subst h; exact hr
    · cases h
def Cod.int (q:IntKind):Cod Int where
  k:=1
  dec:=fun | [.int q' n]=>if q' = q then some n else none | _=>none
  enc:=fun n=>[.int q n]
  len:=fun _=>rfl
  one:=fun _=>⟨rfl,trivial⟩
  lt:=fun _=>rfl
  owns:=fun _=>rfl
  de:=fun _=>by simp
  ro:=fun x v hv=>by simp only [List.mem_singleton] at hv; subst hv; rfl
  declt := fun cs x h => by
    split at h
    · rfl
    · cases h
  rep := fun C w cs us x h hr => by
    split at h
    · split at h
      · rename_i e; simp only [Option.some.injEq] at h; subst h; subst e; exact hr
      · cases h
    · cases h
def Cod.bool:Cod Bool where
  k:=1
  dec:=fun | [.bool b]=>some b | _=>none
  enc:=fun b=>[.bool b]
  len:=fun _=>rfl
  one:=fun _=>⟨rfl,trivial⟩
  lt:=fun _=>rfl
  owns:=fun _=>rfl
  de:=fun _=>rfl
  ro:=fun x v hv=>by simp only [List.mem_singleton] at hv; subst hv; rfl
  declt := fun cs x h => by
    split at h
    · rfl
    · cases h
  rep := fun C w cs us x h hr => by
    split at h
    · simp only [Option.some.injEq] at h; subst h; exact hr
    · cases h
theorem ltAll_append {m:Nat}:∀ {a b:List AV},AV.ltAll m a=true→AV.ltAll m b=true→AV.ltAll m (a ++ b)=true
  | [],_,_,h=>h
  | x :: a, b, h, k => by
    simp only [AV.ltAll,Bool.and_eq_true,List.cons_append] at h ⊢
    exact ⟨h.1,ltAll_append h.2 k⟩
theorem ownsAll_append:∀ {a b:List AV},AV.ownsAll (a ++ b)=AV.ownsAll a ++ AV.ownsAll b
  | [],_=>rfl
  | x::a,b=>by simp only [AV.ownsAll,List.cons_append,ownsAll_append,List.append_assoc]
theorem ltAll_of_take {m:Nat}:∀ {k:Nat} {a:List AV},AV.ltAll m (a.take k)=true→AV.ltAll m (a.drop k)=true→AV.ltAll m a=true
  | k, a, h1, h2 => by
    have:=ltAll_append h1 h2
    rwa [List.take_append_drop] at this
/-- One behind the other. -/
def Cod.prod {α β:Type} (A:Cod α) (B:Cod β):Cod (α × β) where
  k:=A.k + B.k
  dec := fun cs => match A.dec (cs.take A.k), B.dec (cs.drop A.k) with
    | some a,some b=>some (a,b)
    | _,_=>none
  enc:=fun x=>A.enc x.1 ++ B.enc x.2
  len:=fun x=>by rw [List.length_append,A.len,B.len]
  one:=fun x=>(A.one x.1).append (B.one x.2)
  lt:=fun x=>ltAll_append (A.lt x.1) (B.lt x.2)
  owns:=fun x=>by rw [ownsAll_append,A.owns,B.owns]; rfl
  de := fun x => by
    have h1:(A.enc x.1 ++ B.enc x.2).take A.k=A.enc x.1:=by rw [← A.len x.1,List.take_left]
    have h2:(A.enc x.1 ++ B.enc x.2).drop A.k=B.enc x.2:=by rw [← A.len x.1,List.drop_left]
    simp only [h1,h2,A.de,B.de]
  ro := fun x v hv => by
    rcases List.mem_append.1 hv with hv | hv
    · exact A.ro _ v hv
    · exact B.ro _ v hv
  declt := fun cs x h => by
    split at h
    · rename_i a b h1 h2
      exact ltAll_of_take (A.declt _ _ h1) (B.declt _ _ h2)
    · cases h
  rep := fun C w cs us x h hr => by
    split at h
    · rename_i a b h1 h2
      simp only [Option.some.injEq] at h
      subst h
      have:=RepAll.append (A.rep C w _ _ _ h1 (hr.take A.k)) (B.rep C w _ _ _ h2 (hr.drop A.k))
      rwa [List.take_append_drop] at this
    · cases h
def Cod.iso {α β:Type} (A:Cod α) (f:α→β) (g:β→α) (h:∀ x,f (g x)=x) (h' : ∀ x,g (f x)=x):Cod β where
  k:=A.k
  dec:=fun cs=>(A.dec cs).map f
  enc:=fun x=>A.enc (g x)
  len:=fun x=>A.len _
  one:=fun x=>A.one _
  lt:=fun x=>A.lt _
  owns:=fun x=>A.owns _
  de:=fun x=>by rw [A.de,Option.map_some,h]
  ro:=fun x=>A.ro _
  declt := fun cs x hx => by
    cases ha:A.dec cs with
    | none=>rw [ha] at hx; cases hx
    | some a=>exact A.declt _ _ ha
  rep := fun C w cs us x hx hr => by
    cases ha:A.dec cs with
    | none=>rw [ha] at hx; cases hx
    | some a =>
      rw [ha] at hx
      simp only [Option.map_some,Option.some.injEq] at hx
      subst hx
      rw [h']
      exact A.rep C w _ _ _ ha hr
section
variable {α:Type} (A:Cod α)
def Cod.many:Nat→List AV→Option (List α)
  | 0,[]=>some []
  | 0,_::_=>none
  | n + 1, cs => match A.dec (cs.take A.k), Cod.many n (cs.drop A.k) with
    | some x,some l=>some (x::l)
    | _,_=>none
variable {A}
theorem Cod.many_de:∀ (l:List α),A.many l.length (l.flatMap A.enc)=some l
  | []=>rfl
  | x :: l => by
    have h1:(A.enc x ++ l.flatMap A.enc).take A.k=A.enc x:=by rw [← A.len x,List.take_left]
    have h2:(A.enc x ++ l.flatMap A.enc).drop A.k=l.flatMap A.enc:=by rw [← A.len x,List.drop_left]
    simp only [List.length_cons,Cod.many,List.flatMap_cons,h1,h2,A.de,Cod.many_de l]
theorem Cod.many_spec:∀ (n:Nat) (cs:List AV) (l:List α),A.many n cs=some l→l.length=n∧AV.ltAll 0 cs=true∧∀ C w us,RepAll C w cs us→RepAll C w (l.flatMap A.enc) us
  | 0,[],l,h=>by simp only [Cod.many,Option.some.injEq] at h; subst h; exact ⟨rfl,rfl,fun _ _ _ h=>h⟩
  | 0,_::_,l,h=>by simp [Cod.many] at h
  | n + 1, cs, l, h => by
    simp only [Cod.many] at h
    split at h
    · rename_i x l' h1 h2
      simp only [Option.some.injEq] at h
      subst h
      obtain ⟨k1,k2,k3⟩:=Cod.many_spec n _ _ h2
      refine ⟨by simp [k1],ltAll_of_take (A.declt _ _ h1) k2,fun C w us hr => ?_⟩
      have:=RepAll.append (A.rep C w _ _ _ h1 (hr.take A.k)) (k3 C w _ (hr.drop A.k))
      rwa [List.take_append_drop] at this
    · cases h
theorem Cod.flat_len:∀ (l:List α),(l.flatMap A.enc).length=l.length * A.k
  | []=>by simp
  | x::l=>by rw [List.flatMap_cons,List.length_append,A.len,Cod.flat_len l,List.length_cons,Nat.succ_mul,Nat.add_comm]
theorem Cod.flat_one:∀ (l:List α),allOne (l.flatMap A.enc)
  | []=>trivial
  | x::l=>by rw [List.flatMap_cons]; exact (A.one x).append (Cod.flat_one l)
theorem Cod.flat_lt:∀ (l:List α),AV.ltAll 0 (l.flatMap A.enc)=true
  | []=>rfl
  | x::l=>by rw [List.flatMap_cons]; exact ltAll_append (A.lt x) (Cod.flat_lt l)
theorem Cod.flat_owns:∀ (l:List α),AV.ownsAll (l.flatMap A.enc)=[]
  | []=>rfl
  | x::l=>by rw [List.flatMap_cons,ownsAll_append,A.owns,Cod.flat_owns l]; rfl
end
/-- A row. -/
def Cod.list {α:Type} (A:Cod α):Cod (List α) where
  k:=1
  dec:=fun | [.list _ n sz cs]=>if n=0 then (match cs with | []=>some [] | _=>none) else if sz=A.k then A.many n cs else none | _=>none
  enc:=fun l=>[.list .ro l.length A.k (l.flatMap A.enc)]
  len:=fun _=>rfl
  one:=fun _=>⟨rfl,trivial⟩
  lt:=fun l=>by simp only [AV.ltAll,AV.lt,Cod.flat_lt,Bool.and_self]
  owns:=fun l=>by simp only [AV.ownsAll,AV.owns,Cod.flat_owns,List.append_nil]
  de := fun l => by
    simp only
    split
    · rename_i h
      have:l=[]:=List.eq_nil_of_length_eq_zero h
      subst this
      rfl
    · simp only [if_true]
      exact Cod.many_de l
  ro:=fun x v hv=>by simp only [List.mem_singleton] at hv; subst hv; rfl
  declt := fun cs x h => by
    split at h
    · split at h
      · split at h
        · rfl
        · cases h
      · split at h
        · simp only [AV.ltAll,AV.lt,(Cod.many_spec _ _ _ h).2.1,Bool.and_self]
        · cases h
    · cases h
  rep := fun C w cs us x h hr => by
    split at h
    · rename_i lk n sz cs
      match us,hr with
      | [u], hr =>
        simp only [RepAll,and_true] at hr ⊢
        simp only [Rep] at hr ⊢
        obtain ⟨h0,h1,a,cap,h2,h3,h4,h5,h6,h7⟩:=hr
        split at h
        · rename_i hn
          subst hn
          split at h
          · simp only [Option.some.injEq] at h
            subst h
            exact ⟨by simp,trivial,a,cap,h2,h3,h4,by simp,by simp,fun h=>absurd h (by simp)⟩
          · cases h
        · rename_i hn
          split at h
          · rename_i hsz
            subst hsz
            obtain ⟨k1,k2,k3⟩:=Cod.many_spec _ _ _ h
            subst k1
            refine ⟨Cod.flat_len x,Cod.flat_one x,a,cap,h2,h3,h4,by simp,by simp,fun h => ?_⟩
            obtain ⟨b,o,us,e1,e2,e3,e4,e5⟩:=h7 h
            exact ⟨b,o,us,e1,e2,e3,e4,k3 C w us e5⟩
          · cases h
      | [],hr=>simp only [RepAll] at hr
      | _::_::_,hr=>simp only [RepAll,and_false] at hr
    · cases h
/-- An argument, or a result. -/
structure Arg (α:Type) where
  dec:AV→Option α
  enc:α→AV
  de:∀ x,dec (enc x)=some x
  lt:∀ x,AV.lt 0 (enc x)=true
  ro:∀ x,unfr (enc x)=enc x
  ro1:∀ x,unfr1 (enc x)=enc x
  declt:∀ v x,dec v=some x→AV.lt 0 v=true
  rep:∀ (C:Ctx) (w:World) (v:AV) (u:Value) (x:α),dec v=some x→Rep C w v u→Rep C w (enc x) u
theorem unfr_one {v:AV} (h:v.one=true):unfr v=unfr1 v:=by
  cases v <;> simp [AV.one] at h <;> rfl
def Arg.cell {α:Type} (A:Cod α) (hk:A.k=1):Arg α where
  dec:=fun v=>A.dec [v]
  enc:=fun x=>(A.enc x).headD .undef
  de := fun x => by
    have hl:=A.len x
    rw [hk] at hl
    match he:A.enc x,hl with
    | [y],_=>simp only [List.headD_cons]; rw [← he,A.de]
  lt := fun x => by
    have hl:=A.len x
    rw [hk] at hl
    have h:=A.lt x
    match he:A.enc x,hl with
    | [y],_=>rw [he] at h; simpa [AV.ltAll] using h
  ro := fun x => by
    have hl:=A.len x
    rw [hk] at hl
    have h:=A.ro x
    have h1:=A.one x
    match he:A.enc x,hl with
    | [y], _ =>
      rw [he] at h h1
      simp only [List.headD_cons]
      rw [unfr_one h1.1]
      exact h y (by simp)
  ro1 := fun x => by
    have hl:=A.len x
    rw [hk] at hl
    have h:=A.ro x
    match he:A.enc x,hl with
    | [y], _ =>
      rw [he] at h
      exact h y (by simp)
  declt := fun v x h => by
    have:=A.declt _ _ h
    simpa [AV.ltAll] using this
  rep := fun C w v u x h hr => by
    have hl:=A.len x
    rw [hk] at hl
    have:=A.rep C w [v] [u] x h (by simp only [RepAll,and_true]; exact hr)
    match he:A.enc x,hl with
    | [y], _ =>
      rw [he] at this
      simp only [RepAll,and_true] at this
      exact this
def Arg.agg {α:Type} (A:Cod α):Arg α where
  dec:=fun | .agg cs=>A.dec cs | _=>none
  enc:=fun x => .agg (A.enc x)
  de:=fun x=>A.de x
  lt:=fun x=>by simp only [AV.lt]; exact A.lt x
  ro:=fun x=>rfl
  ro1:=fun x=>rfl
  declt := fun v x h => by
    split at h
    · simp only [AV.lt]; exact A.declt _ _ h
    · cases h
  rep := fun C w v u x h hr => by
    split at h
    · simp only [Rep] at hr ⊢
      obtain ⟨_,us,e,hr⟩:=hr
      exact ⟨A.one x,us,e,A.rep C w _ _ _ h hr⟩
    · cases h
def Arg.tup2 {α β:Type} (A:Arg α) (B:Arg β):Arg (α × β) where
  dec:=fun | .tup [a,b]=>(match A.dec a,B.dec b with | some x,some y=>some (x,y) | _,_=>none) | _=>none
  enc:=fun x => .tup [A.enc x.1,B.enc x.2]
  de:=fun x=>by simp only [A.de,B.de]
  lt:=fun x=>by simp only [AV.lt,AV.ltAll,A.lt,B.lt,Bool.and_self]
  ro:=fun x=>by simp only [unfr,A.ro1]
  ro1:=fun x=>rfl
  declt := fun v x h => by
    split at h
    · split at h
      · rename_i h1 h2
        simp only [AV.lt,AV.ltAll,A.declt _ _ h1,B.declt _ _ h2,Bool.and_self]
      · cases h
    · cases h
  rep := fun C w v u x h hr => by
    split at h
    · split at h
      · rename_i h1 h2
        simp only [Option.some.injEq] at h
        subst h
        simp only [Rep] at hr ⊢
        obtain ⟨us,e,hr⟩:=hr
        refine ⟨us,e,?_⟩
        match us,hr with
        | [u1, u2], hr =>
          simp only [RepAll,and_true] at hr ⊢
          exact ⟨A.rep C w _ _ _ h1 hr.1,B.rep C w _ _ _ h2 hr.2⟩
        | [],hr=>simp only [RepAll] at hr
        | [_],hr=>simp only [RepAll,and_false] at hr
        | _::_::_::_,hr=>simp only [RepAll,and_false] at hr
      · cases h
    · cases h
def Arg.tup3 {α β γ:Type} (A:Arg α) (B:Arg β) (D:Arg γ):Arg (α × β × γ) where
  dec:=fun | .tup [a,b,c]=>(match A.dec a,B.dec b,D.dec c with | some x,some y,some z=>some (x,y,z) | _,_,_=>none) | _=>none
  enc:=fun x => .tup [A.enc x.1,B.enc x.2.1,D.enc x.2.2]
  de:=fun x=>by simp only [A.de,B.de,D.de]
  lt:=fun x=>by simp only [AV.lt,AV.ltAll,A.lt,B.lt,D.lt,Bool.and_self]
  ro:=fun x=>by simp only [unfr,A.ro1]
  ro1:=fun x=>rfl
  declt := fun v x h => by
    split at h
    · split at h
      · rename_i h1 h2 h3
        simp only [AV.lt,AV.ltAll,A.declt _ _ h1,B.declt _ _ h2,D.declt _ _ h3,Bool.and_self]
      · cases h
    · cases h
  rep := fun C w v u x h hr => by
    split at h
    · split at h
      · rename_i h1 h2 h3
        simp only [Option.some.injEq] at h
        subst h
        simp only [Rep] at hr ⊢
        obtain ⟨us,e,hr⟩:=hr
        refine ⟨us,e,?_⟩
        match us,hr with
        | [u1, u2, u3], hr =>
          simp only [RepAll,and_true] at hr ⊢
          exact ⟨A.rep C w _ _ _ h1 hr.1,B.rep C w _ _ _ h2 hr.2.1,D.rep C w _ _ _ h3 hr.2.2⟩
        | [],hr=>simp only [RepAll] at hr
        | [_],hr=>simp only [RepAll,and_false] at hr
        | [_,_],hr=>simp only [RepAll,and_false] at hr
        | _::_::_::_::_,hr=>simp only [RepAll,and_false] at hr
      · cases h
    · cases h
/-! ### specifications over data -/
def Spec.on (T:Spec) (f:FuncId) (s:List AV→Option AV):Spec:=fun g vs=>if Nat.beq g f then s vs else T g vs
theorem SpecOk.none' : SpecOk P fun _ _=>none:=fun _ _ _ h=>by cases h
theorem SpecOk.on {T:Spec} (hT:SpecOk P T) {f:FuncId} {s:List AV→Option AV} (h:∀ vs r,s vs=some r→CallAt P f vs [] 0 r []):SpecOk P (T.on f s):=by
  intro g vs r hr
  unfold Spec.on at hr
  split at hr
  · rename_i e
    have e:=Nat.eq_of_beq_eq_true e
    subst e
    exact h vs r hr
  · exact hT g vs r hr
section
variable {α β γ δ:Type}
def sp1 (A:Arg α) (g:α→Option AV):List AV→Option AV
  | [a] => match A.dec a with
    | some x=>g x
    | none=>none
  | _=>none
def sp2 (A:Arg α) (B:Arg β) (g:α→β→Option AV):List AV→Option AV
  | [a, b] => match A.dec a, B.dec b with
    | some x,some y=>g x y
    | _,_=>none
  | _=>none
theorem CallAt.args {f:FuncId} {vs vs' : List AV} {σ:List Ob} {ro:Nat} {r:AV} {σ' : List Ob} (h:CallAt P f vs' σ ro r σ') (hr:∀ C w us,RepAll C w vs us→RepAll C w vs' us):CallAt P f vs σ ro r σ' :=
  ⟨h.1,fun C w us hσ hs hro hu=>h.2 C w us hσ hs hro (hr C w us hu)⟩
theorem CallAt.res {B:Arg β} {f:FuncId} {vs:List AV} {σ:List Ob} {ro:Nat} {r:AV} {y:β} {σ' : List Ob} (h:CallAt P f vs σ ro r σ') (hd:B.dec r=some y):CallAt P f vs σ ro (B.enc y) σ' := by
  refine ⟨h.1,fun C w us hσ hs hro hu=>Calls.mono (h.2 C w us hσ hs hro hu) ?_⟩
  rintro e w' ⟨u,C',h1,h2,h3,h4,h5,h6⟩
  refine ⟨u,C',h1,h2,h3,h4,B.rep C' w' r u y hd h5,?_⟩
  rw [← B.ro y]
  exact fresh_unfr
theorem run_res {X:Ext} (hX:ExtOk P X) {call:Caller} (hc:CallOk P call) {B:Arg β} {f:FuncId} {fn:Func} {lf:Nat} {fg:Nat→List Nat} {vs:List AV} {r:AV} {y:β} {σ' : List Ob}
    (hd:X.dom f=true) (hf:P.funcs[f]? = some fn) (hb:fn.body=some (codeOf fn)) (hv:vbody P X call lf fg fn (codeOf fn) vs [] 0=some (r,σ')) (hdec:B.dec r=some y):CallAt P f vs [] 0 (B.enc y) [] :=
  ((body_at hX hc hd hf hb hv).clean (B.declt _ _ hdec)).res hdec
theorem SpecOk.on1 {T:Spec} (hT:SpecOk P T) {f:FuncId} {A:Arg α} {g:α→Option AV} (h:∀ x r,g x=some r→CallAt P f [A.enc x] [] 0 r []):SpecOk P (T.on f (sp1 A g)):=by
  refine hT.on fun vs r hr => ?_
  unfold sp1 at hr
  split at hr
  · split at hr
    · rename_i x hx
      refine (h x r hr).args fun C w us hu => ?_
      match us,hu with
      | [u],hu=>simp only [RepAll,and_true] at hu ⊢; exact A.rep C w _ _ _ hx hu
      | [],hu=>simp only [RepAll] at hu
      | _::_::_,hu=>simp only [RepAll,and_false] at hu
    · cases hr
  · cases hr
theorem SpecOk.on2 {T:Spec} (hT:SpecOk P T) {f:FuncId} {A:Arg α} {B:Arg β} {g:α→β→Option AV} (h:∀ x y r,g x y=some r→CallAt P f [A.enc x,B.enc y] [] 0 r []):SpecOk P (T.on f (sp2 A B g)):=by
  refine hT.on fun vs r hr => ?_
  unfold sp2 at hr
  split at hr
  · split at hr
    · rename_i x y hx hy
      refine (h x y r hr).args fun C w us hu => ?_
      match us,hu with
      | [u,v],hu=>simp only [RepAll,and_true] at hu ⊢; exact ⟨A.rep C w _ _ _ hx hu.1,B.rep C w _ _ _ hy hu.2⟩
      | [],hu=>simp only [RepAll] at hu
      | [_],hu=>simp only [RepAll,and_false] at hu
      | _::_::_::_,hu=>simp only [RepAll,and_false] at hu
    · cases hr
  · cases hr
/-- A call told by a specification, whatever the store. -/
theorem call_on {X:Ext} {T:Spec} {f:FuncId} {vs:List AV} {y:β} {B:Arg β} {σ:List Ob} {ro:Nat} {dr:Bool} (h1:X.pureFn f=none) (h2:X.stFn f=none) (ha:X.adopt f=false) (hl:AV.ltAll 0 vs=true) (h:T f vs=some (B.enc y)):callv X (callerOf T) dr f vs σ ro=some (B.enc y,σ):=by
  rw [call_spec h1 h2 hl h (B.lt y),ha,Bool.and_false,B.ro]
  rfl
theorem sp1_at {A:Arg α} {g:α→Option AV} {v:AV} {x:α} (h:A.dec v=some x):sp1 A g [v]=g x:=by simp only [sp1,h]
theorem sp2_at {A:Arg α} {B:Arg β} {g:α→β→Option AV} {v u:AV} {x:α} {y:β} (h:A.dec v=some x) (k:B.dec u=some y):sp2 A B g [v,u]=g x y:=by simp only [sp2,h,k]
end
end Go.Vm
end
/- Code whose end is not one state alone: a test of a row against nil, a range over a map in whatever order. -/
section
namespace Go.Vm
open Go.RowKit (Below)
variable [Fixed]
variable {P:Program} {C:Ctx} {w:World}

/-- Code c, begun in S, ends in one of R's states. -/
def SR (P:Program) (ro:Nat) (ds:List Deferred) (c:Code) (S:St) (R:Ex→St→Prop):Prop :=
  ∀ (C : Ctx) (w : World) (a : Act) (Q : Exit → Act → World → Prop), At C w S a ds → ro ≤ C.σ.length →
    (∀ x S' C' w' a',R x S' → At C' w' S' a' ds→Grow ro C w C' w' → Q x.toExit a' w')→c.wp P Q a w
section
variable {ro:Nat} {ds:List Deferred} {R R' R1:Ex→St→Prop}
theorem SR.mono {c:Code} {S:St} (h:SR P ro ds c S R) (hR:∀ x T,R x T→R' x T):SR P ro ds c S R' :=
  fun C w a Q hat hro hQ=>h C w a Q hat hro fun x S' C' w' a' h1=>hQ x S' C' w' a' (hR x S' h1)
theorem SR.exec {X:Ext} (hX:ExtOk P X) {call:Caller} (hc:CallOk P call) {lf:Nat} {fg:Nat→List Nat} {c:Code} (hok:codeOk c=true) {S S' : St} {x:Ex} (h:vexec P X call lf ro fg c S=some (x,S')):SR P ro ds c S fun y T=>y=x∧T=S' :=
  fun C w a Q hat hro hQ=>vexec_sound hX hc c hok C w S S' a x Q h hat hro fun C' w' a' h1 h2=>hQ x S' C' w' a' ⟨rfl,rfl⟩ h1 h2
theorem SR.seq {c d:Code} {S:St} (h:SR P ro ds c S R1) (hn:∀ T,R1 .normal T→SR P ro ds d T R) (ho:∀ x T,x ≠ .normal→R1 x T→R x T):SR P ro ds (.seq c d) S R:=by
  intro C w a Q hat hro hQ
  apply wp_seq
  refine h C w a _ hat hro ?_
  intro x T C1 w1 a1 hR hat1 hg1
  cases x with
  | normal=>exact hn T hR C1 w1 a1 Q hat1 (Nat.le_trans hro hg1.len) fun x S' C' w' a' h1 h2 h3=>hQ x S' C' w' a' h1 h2 (hg1.trans hat1.ok h3)
  | exit id=>exact hQ _ T C1 w1 a1 (ho _ _ (by simp) hR) hat1 hg1
  | ret=>exact hQ _ T C1 w1 a1 (ho _ _ (by simp) hR) hat1 hg1
theorem SR.cond {y:Operand} {c d:Code} {S:St} {b:Bool} (he:ev S y=some (.bool b)) (h:SR P ro ds (if b then c else d) S R):SR P ro ds (.cond y c d) S R:=by
  intro C w a Q hat hro hQ
  have:=ev_run hat.tmps he
  simp only [Rep] at this
  cases b with
  | true=>exact wp_cond_true this (h C w a Q hat hro hQ)
  | false=>exact wp_cond_false this (h C w a Q hat hro hQ)
theorem SR.block {id:Nat} {c:Code} {S:St} (h:SR P ro ds c S fun x T=>match x with | .exit id' => if id' = id then R .normal T else R (.exit id') T | x=>R x T):SR P ro ds (.block id c) S R:=by
  intro C w a Q hat hro hQ
  apply wp_block
  refine h C w a _ hat hro ?_
  intro x T C1 w1 a1 hR hat1 hg1
  cases x with
  | normal=>exact hQ _ T C1 w1 a1 hR hat1 hg1
  | ret=>exact hQ _ T C1 w1 a1 hR hat1 hg1
  | exit id' =>
    simp only [Ex.toExit,Exit.inBlock]
    simp only at hR
    split at hR
    · rename_i e
      rw [if_pos e]
      exact hQ .normal T C1 w1 a1 hR hat1 hg1
    · rename_i e
      rw [if_neg e]
      exact hQ _ T C1 w1 a1 hR hat1 hg1
theorem SR.skip {S:St} (h:R .normal S):SR P ro ds .skip S R:=fun C w a _ hat _ hQ=>wp_skip (hQ .normal S C w a h hat (Grow.refl ..))
theorem SR.ret {S:St} (h:R .ret S):SR P ro ds .ret S R:=fun C w a _ hat _ hQ=>wp_ret (hQ .ret S C w a h hat (Grow.refl ..))
theorem SR.forget {c:Code} {S:St} (ts:List Nat) (h:SR P ro ds c (forget ts S) R):SR P ro ds c S R:=fun C w a Q hat hro hQ=>h C w a Q (hat.forget ts) hro hQ
/-- A row, tested against nil: whatever comes of it. -/
theorem SR.nilTest {X:Ext} (hX:ExtOk P X) {call:Caller} (hc:CallOk P call) {id:Nat} {ops:Array Oper} {pre:List Oper} {o:Oper} {S S1:St} {t e:TypeId} {x:Operand} {nb d n sz:Nat} {k:LK} {cs:List AV} (hops:ops.toList=pre ++ [o]) (hpre:vops P X call false ro ops pre S=some S1)
    (ho:o.op = .binOp .eql t x (.const (.slice none 0 0)) nb) (hg:o.guard=none) (hd:o.dst=some d) (hu:P.underlying t=some (.slice e)) (hx:ev S1 x=some (.list k n sz cs)) :
    SR P ro ds (.region id ops false) S fun z T=>z = .normal∧∃ b,(b=true→n=0)∧T=⟨setN S1.tmps d (.bool b),S1.st⟩:=by
  intro C w a Q hat hro hQ
  refine wp_region_list ?_
  rw [hops]
  refine vops_app hX hc pre hpre hat hro fun C1 w1 a1 hat1 hg1 => ?_
  have hw:Region.wanted o (yielded ops a1.tmps)=true:=by simp [Region.wanted,hg]
  simp only [wpList]
  rw [if_pos hw]
  left
  have hr:=ev_run hat1.tmps hx
  simp only [Rep] at hr
  obtain ⟨_,_,p,cap,hval,_,_,_,_,h7⟩:=hr
  have hnil : p.isNone = true → n = 0 := by
    intro hp
    rcases Nat.eq_zero_or_pos n with h0 | h0
    · exact h0
    · obtain ⟨b, o, us, e1, _⟩ := h7 h0
      rw [e1] at hp
      simp at hp
  have hrun : (execOp a1.eval o).run P w1 = .ok (.value (.bool p.isNone)) w1 := by
    have h1:=equal_sl (P:=P) (w:=w1) hu p none n 0 cap 0 (.inr rfl)
    simp only [Option.isNone_none,Bool.and_true] at h1
    have hgu:=guard_plain (P:=P) (w:=w1) (op := .eql) (t:=t) (x:=x) (y := .const (.slice none 0 0)) (a := .slice p n cap) (b := .slice none 0 0) (by simp) (by simp)
    have hb : (binOp .eql t (.slice p n cap) (.slice none 0 0)).run P w1 = .ok (.bool p.isNone) w1 := by
      simp only [binOp,Sem.run_bind,h1,Result.andThen,Sem.run_pure]
    have he2:a1.eval (.const (.slice none 0 0)) = .slice none 0 0:=rfl
    simp only [execOp,ho,hval,he2,Sem.run_bind,hgu,Result.andThen,hb,Sem.run_pure]
  refine wp_value hrun ?_
  have hst:=hat1.step (d:=o.dst) hat1.ok (Grow.refl ro C1 w1) (v := .bool p.isNone) (u := .bool p.isNone) (by simp only [Rep])
  rw [hd] at hst ⊢
  refine hQ .normal ⟨setN S1.tmps d (.bool p.isNone),S1.st⟩ C1 w1 _ ⟨rfl,_,hnil,rfl⟩ ?_ hg1
  exact ⟨hat1.st,hst.ok,hst.tmps,hst.defers⟩
end
/-- A function whose end is not one state alone, but one answer. -/
theorem call_rel {β : Type} {B : Arg β} {f : FuncId} {fn : Func} {c : Code} {vs : List AV} {y : β} {R : Ex → St → Prop} (hf : P.funcs[f]? = some fn) (hb : fn.body = some c) (hname : ¬ fn.name = "runtime.NumGoroutine")
    (h:SR P 0 [] c { tmps:=vs ++ List.replicate (fn.ntmps - vs.length) .undef,st:=[] } R) (hR:∀ x T,R x T→(x = .normal ∨ x = .ret)∧∃ r σ',vend P fn [] 0 T=some (r,σ')∧B.dec r=some y):CallAt P f vs [] 0 (B.enc y) []:=by
  refine ⟨⟨fn,hf,by rw [hb]; rfl,hname⟩,?_⟩
  intro C w us hσ hs hro hr
  have hat : At C w { tmps := vs ++ List.replicate (fn.ntmps - vs.length) .undef, st := [] } { tmps := us.toArray ++ Array.replicate (fn.ntmps - us.toArray.size) undef, defers := [] } [] := by
    refine ⟨hσ.symm,hs,?_,rfl⟩
    have hrep : ∀ k, RepAll C w (List.replicate k AV.undef) (List.replicate k undef) := by
      intro k
      induction k with
      | zero=>simp only [List.replicate_zero,RepAll]
      | succ k ih=>simp only [List.replicate_succ,RepAll,Rep]; exact ⟨trivial,ih⟩
    have:=hr.append (hrep (fn.ntmps - vs.length))
    have e:fn.ntmps - us.length=fn.ntmps - vs.length:=by rw [hr.length]
    simpa [e] using this
  refine calls_of_wp hf hb (h C w _ _ hat (Nat.zero_le _) ?_)
  intro x T C1 w1 a1 hRx hat1 hg1
  obtain ⟨hxx,r,σ',hend,hdec⟩:=hR x T hRx
  obtain ⟨u,C',e1,e2,e3,e4,e5,e6⟩:=vend_run hend hat1 hσ hg1
  obtain ⟨t1,t2,t3⟩:=take_ok (m:=0) (v:=r) (u:=u) (by rw [hσ]; rfl) e3 e4 (by simp [ltObs]) (B.declt _ _ hdec) e5
  have hfr:∀ C'' w',Fresh C'' w w' (B.enc y) u:=fun C'' w' => by rw [← B.ro y]; exact fresh_unfr
  rcases hxx with rfl | rfl <;> exact ⟨hat1.defers,u,e1,u,_,rfl,by simp,t1,t2,B.rep _ _ _ _ _ hdec t3,hfr _ _⟩
/-! ### ranging over a map, in whatever order -/
/-- An address, as a value. -/
def ptrV (r:Nat):AV := .raw (.pointer (some ⟨r,0,none⟩))
theorem Grow.le {ro ro' : Nat} {C' : Ctx} {w' : World} (h:Grow ro' C w C' w') (hle:ro ≤ ro'):Grow ro C w C' w' :=
  ⟨h.os,h.tape,h.output,h.size,h.forb,fun b hb hk=>h.blk b hb fun id o hi=>hk id o (Nat.le_trans hle hi),h.may,h.turn,fun id hi=>h.low id (Nat.lt_of_lt_of_le hi hle)⟩
def Ctx.with (C:Ctx) (fb:Nat→Prop):Ctx:=⟨C.σ,C.φ,C.κ,fb⟩
/-- Less is forbidden. -/
theorem less_ok {fb:Nat→Prop} (hs:SOk C w) (hle:∀ b,fb b→C.forb b):SOk (C.with fb) w∧Keeps C w (C.with fb) w:=by
  have hmay : ∀ b, Mut (C.with fb) b → Mut C b := by
    rintro b (h | h)
    · exact .inl (hle b h)
    · exact .inr h
  have hk:Keeps C w (C.with fb) w:=⟨Nat.le_refl _,fun _ _ _=>rfl,fun b _ h=>hmay b h,fun _ o h=>⟨o,h,Turn.refl o ⟨rfl,rfl⟩⟩⟩
  exact ⟨⟨hs.blk,hs.inj,fun id o h=>ObOk.mono hk (fun _=>rfl) (hs.ob id o h),fun id o h hl hf=>hs.nof id o h hl (hle _ hf),fun b hb=>hs.fb b (hle b hb),hs.fx⟩,hk⟩
theorem RepEs.at {C:Ctx} {w:World}:∀ {es:List (AV × AV)} {ms:List MapEntry},RepEs C w es ms→es.length=ms.length∧∀ (i:Nat) (m:MapEntry),ms[i]? = some m→Rep C w (es.getD i default).1 m.key∧Rep C w (es.getD i default).2 m.val
  | [],[],_=>⟨rfl,fun i m h=>by simp at h⟩
  | e :: es, m :: ms, h => by
    simp only [RepEs] at h
    obtain ⟨h1,h2⟩:=RepEs.at h.2.2
    refine ⟨by simp [h1],fun i x hx => ?_⟩
    cases i with
    | zero =>
      simp only [List.getElem?_cons_zero,Option.some.injEq] at hx
      subst hx
      exact ⟨h.1.2,h.2.1⟩
    | succ i=>exact h2 i x (by simpa using hx)
  | [],_::_,h=>by simp [RepEs] at h
  | _::_,[],h=>by simp [RepEs] at h
/-- On the way: what has come is at the places il. -/
structure Rng (C0:Ctx) (w0:World) (ro id b r:Nat) (ms:Array MapEntry) (clock:Nat) (fb:Nat→Prop) (il:List Nat) (C:Ctx) (w:World):Prop where
  forb:∀ x,C.forb x ↔ fb x ∨ x=r
  phi:C.φ id=b
  map:w.heap[b]? = some (.map ms clock)
  iter:∃ c0 seen,clock ≤ c0∧w.heap[r]? = some (.mapIter (some b) clock seen c0)∧seen.toList=il.map fun i=>(ms.toList.getD i default).born
  grow:Grow ro C0 w0 (C.with fb) w
  new:w0.heap.size ≤ r
  fix:∀ X,¬ Fixed.fix r X
/-- The machine takes a step that the store tells of: the iterator and the map stay. -/
theorem Rng.move {C0 C C' : Ctx} {w0 w w' : World} {ro id b r:Nat} {ms:Array MapEntry} {clock:Nat} {fb:Nat→Prop} {il:List Nat} (h:Rng C0 w0 ro id b r ms clock fb il C w) (hs:SOk C w) (hs' : SOk C' w') (hid:(∃ es,C.σ[id]? = some (.mapo es)) ) (hro:ro ≤ id + 1) (hg:Grow (id + 1) C w C' w'):Rng C0 w0 ro id b r ms clock fb il C' w' ∧ w'.heap[r]? = w.heap[r]? := by
  obtain ⟨c0,seen,k1,k2,k3⟩:=h.iter
  obtain ⟨es,hes⟩:=hid
  have hb:b < w.heap.size:=(Array.getElem?_eq_some_iff.1 h.map).1
  have hr:r < w.heap.size:=(Array.getElem?_eq_some_iff.1 k2).1
  have e1 : w'.heap[b]? = w.heap[b]? := hg.blk b hb fun i o hi ho hl e => by
    have:=hs.inj i id o _ ho hl hes trivial (by rw [e,h.phi])
    omega
  have e2:w'.heap[r]? = w.heap[r]? := hg.blk r hr fun i o hi ho hl e=>hs.nof i o ho hl ((h.forb _).2 (.inr e))
  have hforb:∀ x,C'.forb x ↔ fb x ∨ x=r:=fun x=>by rw [hg.forb]; exact h.forb x
  have hl1:=less_ok (fb:=fb) hs (fun x hx=>(h.forb x).2 (.inl hx))
  have hl2:=less_ok (fb:=fb) hs' (fun x hx=>(hforb x).2 (.inl hx))
  have hg2 : Grow ro (C.with fb) w (C'.with fb) w' := by
    have hle:=hg.le hro
    refine ⟨hg.os,hg.tape,hg.output,hg.size,rfl,hle.blk,fun x hx hm => ?_,hg.turn,hle.low⟩
    rcases hm with hf | ⟨i,o,q1,q2,q3⟩
    · exact .inl hf
    · rcases hg.may x hx (.inr ⟨i, o, q1, q2, q3⟩) with hf | hm
      · rcases (h.forb x).1 hf with hf | hf
        · exact .inl hf
        · exact absurd ((hforb _).2 (.inr (q3.trans hf))) (hs'.nof i o q1 q2)
      · exact .inr hm
  exact ⟨⟨hforb,(hg.low id (Nat.lt_succ_self _)).2.1.trans h.phi,e1.trans h.map,⟨c0,seen,k1,e2.trans k2,k3⟩,h.grow.trans hl1.1 hg2,h.new,h.fix⟩,e2⟩
/-- What stands ready for a range over a map: the code's parts, and the states. -/
structure RangeAt (P:Program) (X:Ext) (call:Caller) (ro:Nat) (ds:List Deferred) (ops8 ops9 ops10:Array Oper) (rest:Code) (cc:Tmp) (S:St) (id:Nat) (es:List (AV × AV)) (Dk:List Nat) (F:List (AV × AV)→Nat→St) (d9:Tmp) (RR:St→Prop):Prop where
  first : ∃ pre8 o8 t kt vt xm S1 d8 n9 x9 e10 post d10, ops8.toList = pre8 ++ [o8] ∧ vops P X call false ro ops8 pre8 S = some S1 ∧ o8.op = .range t xm ∧ o8.guard = none ∧ o8.dst = some d8 ∧ P.underlying t = some (.map kt vt) ∧ ev S1 xm = some (.map id) ∧ S1.st[id]? = some (.mapo es) ∧
    ops9.toList=[n9,x9]∧n9.op = .next (.tmp d8) false∧n9.guard=none∧n9.dst=some d9∧x9.op = .extract (.tmp d9) 0∧x9.guard=none∧x9.dst=some cc∧ops10.toList=e10::post∧e10.op = .entry (.tmp d8)∧e10.guard=none∧e10.dst=some d10 ∧
    (∀ r,forget Dk ⟨setN S1.tmps d8 (ptrV r),S1.st⟩=F [] r)∧(∀ done r,nth (F done r).tmps d8=ptrV r)∧d9 ≠ d8∧cc ≠ d8∧(∀ done r,d9 < (F done r).tmps.length∧cc < (F done r).tmps.length) ∧
    (∀ done e tl r, (done ++ e :: tl).Perm es → ∃ S2, vops P X call false (id + 1) ops10 post ⟨setN (setN (setN (F done r).tmps d9 (.tup [.bool true, e.1, e.2])) cc (.bool true)) d10 (.tup [e.1, e.2]), (F done r).st⟩ = some S2 ∧
      SR P (id + 1) ds rest S2 fun x T=>(x = .normal∧forget Dk T=F (done ++ [e]) r) ∨ (x = .ret∧RR T))
  store:∀ done r,(F done r).st[id]? = some (.mapo es)
end Go.Vm
end
/- The evaluator over specifications, with whatever bound for loops; calls that bear references. -/
section
namespace Go.Vm
section
variable {P:Program}
end
end Go.Vm
end
/- A builder's String, with the world behind it told exactly: nothing but the buffer's frozen range and the draws turns. -/
section
set_option linter.unusedVariables false
namespace Go.Proofs
open Go.Shelf Go.RowKit
variable {P:Program} {ρ:Ren}

set_option maxHeartbeats 2000000 in
set_option maxRecDepth 100000 in
theorem bld_string (L:Lays.n169 P ρ) (X:Builder.Extra P ρ) (b g cap:Nat) (p:Value) (tb:TypeId) (cur:Array Value) (l:List UInt8) (w:World) (h0:l ≠ [])
    (hbk:w.heap[b]? = some (.cells #[p,.slice (some ⟨g,0,none⟩) l.length cap] tb (0,0)))
    (hg:w.heap[g]? = some (.cells cur (ρ.t 5) (0,0))) (hnc:l.length ≤ cap) (hcm:cap ≤ maxLen) (hcs:cur.size=cap)
    (hcells:∀ j x,l[j]? = some x→w.cell? ⟨g,j,none⟩=some (.int .u8 x.toNat)) :
    Calls P (ρ.f 169) #[.pointer (some ⟨b,0,none⟩)] w fun e w' => e = .returned (.string ⟨l.toArray⟩)∧w' = w.drew.freeze ⟨g,0,none⟩ l.length:=by
  have hl0:l.length ≠ 0:=by simpa using h0
  have c1 : w.drew.cell? ⟨b, 1, none⟩ = some (.slice (some ⟨g, 0, none⟩) l.length cap) := by
    have:w.drew.heap[b]? = some (.cells #[p,.slice (some ⟨g,0,none⟩) l.length cap] tb (0,0)):=hbk
    rw [Lib.cell_of_heap this]; rfl
  have hSD : (Builtin.unsafeSliceData_ #[(ρ.t 37)] (ρ.t 127) #[.slice (some ⟨g, 0, none⟩) l.length cap]).run P w.drew = .ok (.pointer (some ⟨g, 0, none⟩)) w.drew :=
    Lib.run_unsafeSliceData_row _ _ _ _ _ _ (by omega)
  have hUS : (Builtin.unsafeString_ #[(ρ.t 127), (ρ.t 3)] (ρ.t 9) #[.pointer (some ⟨g, 0, none⟩), .int .i64 l.length]).run P w.drew = .ok (.string ⟨l.toArray⟩) (w.drew.freeze ⟨g, 0, none⟩ l.length) := by
    refine Lib.run_unsafeString_row w.drew (ρ.t 127) (ρ.t 3) (ρ.t 9) (ρ.t 5) L.t127 X.cellsByte g cur.size (by have hg' : w.drew.heap[g]? = some (.cells cur (ρ.t 5) (0,0)):=hg; simp [World.shape?,hg']) l h0 (by omega) (by unfold maxLen at hcm; omega) ?_
    intro j x hx
    have:=hcells j x hx
    have e : (⟨g, 0, none⟩ : Addr).add j = ⟨g, j, none⟩ := by
      simp only [Addr.add,Nat.zero_add]
      split
      · rename_i h
        rw [h]
      · rfl
    rw [e]
    exact this
  have mixed:=L.mixed
  have t72:=L.t72; have a72:=L.a72; have z72:=L.z72; have v72:=L.v72; have u72:=run_underlying L.t72
  have t70:=L.t70; have a70:=L.a70; have z70:=L.z70; have v70:=L.v70; have u70:=run_underlying L.t70
  have t37:=L.t37; have a37:=L.a37; have z37:=L.z37; have v37:=L.v37; have u37:=run_underlying L.t37
  have t127:=L.t127; have a127:=L.a127; have z127:=L.z127; have v127:=L.v127; have u127:=run_underlying L.t127
  have t3:=L.t3; have a3:=L.a3; have z3:=L.z3; have v3:=L.v3; have u3:=run_underlying L.t3
  have t9:=L.t9; have a9:=L.a9; have z9:=L.z9; have v9:=L.v9; have u9:=run_underlying L.t9
  have t5:=X.t5; have a5:=X.a5; have z5:=X.z5; have v5:=X.v5; have u5:=run_underlying X.t5
  go_enter L.f169,Body.n169_ntmps ρ
  go_wp2
  go_region_o
  all_goals (go_wp2; go_ret; exact ⟨rfl,rfl⟩)

set_option maxHeartbeats 2000000 in
set_option maxRecDepth 100000 in
theorem bld_string_nil (L:Lays.n169 P ρ) (X:Builder.Extra P ρ) (b:Nat) (p:Value) (tb:TypeId) (w:World) (hbk:w.heap[b]? = some (.cells #[p,.slice none 0 0] tb (0,0))) :
    Calls P (ρ.f 169) #[.pointer (some ⟨b,0,none⟩)] w fun e w' => e = .returned (.string ⟨#[]⟩)∧w' = w.drew:=by
  have hUS:=Any.unsafeString_none L X
  have c1 : w.drew.cell? ⟨b, 1, none⟩ = some (.slice none 0 0) := by
    have:w.drew.heap[b]? = some (.cells #[p,.slice none 0 0] tb (0,0)):=hbk
    rw [Lib.cell_of_heap this]; rfl
  have hSD:(Builtin.unsafeSliceData_ #[(ρ.t 37)] (ρ.t 127) #[.slice none 0 0]).run P w.drew = .ok (.pointer none) w.drew:=rfl
  have mixed:=L.mixed
  have t72:=L.t72; have a72:=L.a72; have z72:=L.z72; have v72:=L.v72; have u72:=run_underlying L.t72
  have t70:=L.t70; have a70:=L.a70; have z70:=L.z70; have v70:=L.v70; have u70:=run_underlying L.t70
  have t37:=L.t37; have a37:=L.a37; have z37:=L.z37; have v37:=L.v37; have u37:=run_underlying L.t37
  have t127:=L.t127; have a127:=L.a127; have z127:=L.z127; have v127:=L.v127; have u127:=run_underlying L.t127
  have t3:=L.t3; have a3:=L.a3; have z3:=L.z3; have v3:=L.v3; have u3:=run_underlying L.t3
  have t9:=L.t9; have a9:=L.a9; have z9:=L.z9; have v9:=L.v9; have u9:=run_underlying L.t9
  have t5:=X.t5; have a5:=X.a5; have z5:=X.z5; have v5:=X.v5; have u5:=run_underlying X.t5
  go_enter L.f169,Body.n169_ntmps ρ
  go_wp2
  go_region_o
  all_goals (go_wp2; go_ret; exact ⟨rfl,rfl⟩)
end Go.Proofs

namespace Go.Vm
open Go.Proofs Go.Shelf
variable [Fixed] {P:Program} {w:World}

/-- copyCheck: a new builder holds its own address from now on. -/
def bldCheck (T:TypeId) (vs:List AV) (σ:List Ob) (ro:Nat):Option (AV × List Ob) :=
  match vs with
  | [.ref id 0] => match σ[id]? with
    | some (.cells [.ptag t,c])=>if t=T∧ro ≤ id then some (.tup [],setOb σ id (.cells [.ref id 0,c])) else none
    | some (.cells [.ref id' 0,_])=>if id' = id then some (.tup [],σ) else none
    | _=>none
  | _=>none
/-- String: the bytes; the buffer is gone. -/
def bldString (e:TypeId) (vs:List AV) (σ:List Ob) (ro:Nat):Option (AV × List Ob) :=
  match vs with
  | [.ref id 0] => match σ[id]? with
    | some (.cells [_,.list .nil 0 _ _])=>some (.str ⟨#[]⟩,σ)
    | some (.cells [_, .own i n]) => match σ[i]? with
      | some (.brow t l)=>if t=e∧l.length=n∧ro ≤ i∧n ≠ 0 then some (.str ⟨l.toArray⟩,setOb σ i .gone) else none
      | _=>none
    | _=>none
  | _=>none

theorem one_arg {C:Ctx} {id off:Nat} {us:List Value} (h:RepAll C w [.ref id off] us):us=[.pointer (some ⟨C.φ id,off,none⟩)]:=by
  match us,h with
  | [],h=>simp only [RepAll] at h
  | [u],h=>simp only [RepAll,Rep,and_true] at h; rw [h.2]
  | _::_::_,h=>simp only [RepAll,and_false] at h
theorem two_cells {C:Ctx} {a b:AV} {us:List Value} (h:RepAll C w [a,b] us):∃ u v,us=[u,v]∧Rep C w a u∧Rep C w b v:=by
  match us,h with
  | [],h=>simp only [RepAll] at h
  | [_],h=>simp only [RepAll,and_false] at h
  | [u,v],h=>simp only [RepAll,and_true] at h; exact ⟨u,v,rfl,h⟩
  | _::_::_::_,h=>simp only [RepAll,and_false] at h

theorem bldCheck_st {f T:TypeId}
    (hused:∀ (b:Nat) (w:World),w.cell? ⟨b,0,none⟩=some (.pointer (some ⟨b,0,none⟩))→Calls P f #[.pointer (some ⟨b,0,none⟩)] w fun e w' => e = .returned (.tuple #[])∧w' = w)
    (hfresh:∀ (b:Nat) (w:World),w.cell? ⟨b,0,none⟩=some (.pointer none)→w.shape? b=some (T,2)→w.frozen? ⟨b,0,none⟩=false→Calls P f #[.pointer (some ⟨b,0,none⟩)] w fun e w' => e = .returned (.tuple #[])∧w' = w.setCell ⟨b,0,none⟩ (.pointer (some ⟨b,0,none⟩))) :
    ∀ vs σ ro r σ', bldCheck T vs σ ro = some (r, σ') → ∀ (C : Ctx) (w : World) (us : List Value), C.σ = σ → SOk C w → ro ≤ σ.length → RepAll C w vs us →
      Calls P f us.toArray w fun e w' => ∃ u C',e = .returned u∧C'.σ=σ' ∧ SOk C' w' ∧ Grow ro C w C' w' ∧ Rep C' w' r u:=by
  intro vs σ ro r σ' h C w us hσ hs hro hrep
  subst hσ
  unfold bldCheck at h
  split at h
  case h_2=>cases h
  rename_i id
  have e:=one_arg hrep
  subst e
  split at h
  · rename_i t c ho
    split at h
    case isFalse=>cases h
    rename_i hc
    obtain ⟨rfl,hroi⟩:=hc
    simp only [Option.some.injEq,Prod.mk.injEq] at h
    obtain ⟨rfl,rfl⟩:=h
    obtain ⟨h1,us,e,hb,ht,hr⟩:=hs.ob id _ ho
    simp only [TagOk] at ht
    subst ht
    obtain ⟨u0,u1,rfl,hr0,hr1⟩:=two_cells hr
    simp only [Rep] at hr0
    subst hr0
    refine Calls.mono (hfresh (C.φ id) w (by rw [Lib.cell_of_heap hb]; rfl) (by simp [World.shape?,hb]) (Lib.frozen_of_heap hb 0)) ?_
    rintro e w' ⟨rfl,rfl⟩
    have hX : (w.setCell ⟨C.φ id, 0, none⟩ (.pointer (some ⟨C.φ id, 0, none⟩))).heap[C.φ id]? = some (.cells #[.pointer (some ⟨C.φ id, 0, none⟩), u1] e (0, 0)) := by
      simp [World.setCell,Array.getElem?_modify,hb]
    obtain ⟨k1, k2⟩ := turn_one hs (w' := w.setCell ⟨C.φ id, 0, none⟩ (.pointer (some ⟨C.φ id, 0, none⟩))) (b := C.φ id) (c := C.κ id) (o' := .cells [.ref id 0, c]) ho trivial hroi rfl rfl rfl (by simp [World.setCell])
      (fun x _ hx=>Go.RowKit.Below.heap_setCell _ _ _ _ hx) (.inl rfl) (by simpa [World.setCell] using hs.blk _ _ ho trivial) ⟨⟨_,rfl,rfl⟩,rfl,rfl⟩
      (fun hk => ⟨⟨rfl, h1.2⟩, _, e, hX, trivial, by
        simp only [RepAll,and_true]
        refine ⟨?_,Rep.mono hk _ _ hr1⟩
        simp only [Rep]
        exact ⟨⟨_,setOb_same _ ho⟩,by simp [Ctx.put,upd]⟩⟩)
    exact ⟨_,_,rfl,rfl,k1,k2,by simp only [Rep]; exact ⟨[],rfl,by simp only [RepAll]⟩⟩
  · rename_i id' c ho
    split at h
    case isFalse=>cases h
    rename_i hc
    subst hc
    simp only [Option.some.injEq,Prod.mk.injEq] at h
    obtain ⟨rfl,rfl⟩:=h
    obtain ⟨h1,us,e,hb,ht,hr⟩:=hs.ob id' _ ho
    obtain ⟨u0,u1,rfl,hr0,hr1⟩:=two_cells hr
    simp only [Rep] at hr0
    obtain ⟨_,rfl⟩:=hr0
    refine Calls.mono (hused (C.φ id') w (by rw [Lib.cell_of_heap hb]; rfl)) ?_
    rintro e w' ⟨rfl,rfl⟩
    exact ⟨_,C,rfl,rfl,hs,Grow.refl _ _ _,by simp only [Rep]; exact ⟨[],rfl,by simp only [RepAll]⟩⟩
  · cases h

theorem bldString_st {f T e:TypeId}
    (hnil:∀ (b:Nat) (p:Value) (t:TypeId) (w:World),w.heap[b]? = some (.cells #[p,.slice none 0 0] t (0,0))→Calls P f #[.pointer (some ⟨b,0,none⟩)] w fun e w' => e = .returned (.string ⟨#[]⟩)∧w' = w.drew)
    (hrow : ∀ (b g cap : Nat) (p : Value) (t : TypeId) (cur : Array Value) (l : List UInt8) (w : World), l ≠ [] →
      w.heap[b]? = some (.cells #[p,.slice (some ⟨g,0,none⟩) l.length cap] t (0,0))→w.heap[g]? = some (.cells cur e (0,0))→l.length ≤ cap→cap ≤ maxLen→cur.size=cap →
      (∀ j x,l[j]? = some x→w.cell? ⟨g,j,none⟩=some (.int .u8 x.toNat)) →
      Calls P f #[.pointer (some ⟨b,0,none⟩)] w fun e w' => e = .returned (.string ⟨l.toArray⟩)∧w' = w.drew.freeze ⟨g,0,none⟩ l.length) :
    ∀ vs σ ro r σ', bldString e vs σ ro = some (r, σ') → ∀ (C : Ctx) (w : World) (us : List Value), C.σ = σ → SOk C w → ro ≤ σ.length → RepAll C w vs us →
      Calls P f us.toArray w fun e w' => ∃ u C',e = .returned u∧C'.σ=σ' ∧ SOk C' w' ∧ Grow ro C w C' w' ∧ Rep C' w' r u:=by
  intro vs σ ro r σ' h C w us hσ hs hro hrep
  subst hσ
  unfold bldString at h
  split at h
  case h_2=>cases h
  rename_i id
  have e1:=one_arg hrep
  subst e1
  split at h
  · rename_i c0 sz cs ho
    simp only [Option.some.injEq,Prod.mk.injEq] at h
    obtain ⟨rfl,rfl⟩:=h
    obtain ⟨h1,us,e,hb,ht,hr⟩:=hs.ob id _ ho
    obtain ⟨u0,u1,rfl,hr0,hr1⟩:=two_cells hr
    simp only [Rep] at hr1
    obtain ⟨_,_,a,cap,rfl,_,_,_,h5,_⟩:=hr1
    obtain ⟨rfl,rfl⟩:=h5 trivial
    refine Calls.mono (hnil (C.φ id) u0 e w hb) ?_
    rintro e w' ⟨rfl,rfl⟩
    obtain ⟨k1,k2,_⟩:=more_heap hs ro (w' := w.drew) rfl rfl rfl (Nat.le_refl _) (fun x hx=>rfl)
    exact ⟨_,C,rfl,rfl,k1,k2,by simp only [Rep]⟩
  · rename_i c0 i n ho
    split at h
    case h_2=>cases h
    rename_i t l hl
    split at h
    case isFalse=>cases h
    rename_i hc
    obtain ⟨rfl,rfl,hroi,hn⟩:=hc
    simp only [Option.some.injEq,Prod.mk.injEq] at h
    obtain ⟨rfl,rfl⟩:=h
    obtain ⟨h1,us,e,hb,ht,hr⟩:=hs.ob id _ ho
    obtain ⟨u0,u1,rfl,hr0,hr1⟩:=two_cells hr
    simp only [Rep] at hr1
    obtain ⟨_,hrw⟩:=hr1
    unfold RowIs at hrw
    rw [hl] at hrw
    have hu:=hrw.2 rfl
    subst hu
    obtain ⟨m1,m2,vs,m3,m4⟩:=hs.ob i _ hl
    refine Calls.mono (hrow (C.φ id) (C.φ i) (C.κ i) u0 e _ l w (fun e=>hn (by rw [e]; rfl)) hb m3 m1 m2 (by simpa using m4) ?_) ?_
    · intro j x hx
      have hj:=(List.getElem?_eq_some_iff.1 hx).1
      rw [Lib.cell_of_heap m3,List.getElem?_toArray,List.getElem?_append_left (by simpa using hj),List.getElem?_map,hx]
      rfl
    · rintro e w' ⟨rfl, rfl⟩
      have hfz : ∀ (W : World) (a : Addr) (k : Nat), (W.freeze a k).os = W.os ∧ (W.freeze a k).tape = W.tape ∧ (W.freeze a k).output = W.output ∧ (W.freeze a k).heap.size = W.heap.size ∧ ∀ x, x ≠ a.block → (W.freeze a k).heap[x]? = W.heap[x]? := by
        intro W a k
        unfold World.freeze
        split
        · exact ⟨rfl,rfl,rfl,rfl,fun _ _=>rfl⟩
        · exact ⟨rfl,rfl,rfl,by simp,fun x hx=>by simp only [Array.getElem?_modify]; rw [if_neg (fun e=>hx e.symm)]⟩
      obtain ⟨f1,f2,f3,f4,f5⟩:=hfz w.drew ⟨C.φ i,0,none⟩ l.length
      obtain ⟨k1, k2⟩ := turn_one hs (w' := w.drew.freeze ⟨C.φ i, 0, none⟩ l.length) (b := C.φ i) (c := C.κ i) (o' := .gone) hl trivial hroi f1 f2 f3 (Nat.le_of_eq f4.symm)
        (fun x _ hx=>f5 x hx) (.inl rfl) (by rw [f4]; exact hs.blk _ _ hl trivial) (.inr rfl) (fun _=>trivial)
      exact ⟨_,_,rfl,rfl,k1,k2,by simp only [Rep]⟩
  · cases h
end Go.Vm
end
/- A range over a string. -/
section
namespace Go.Vm
open Go.RowKit (Below)
variable [Fixed]
variable {P:Program} {C:Ctx} {w:World}

/-- Where the k-th letter of a string begins. -/
def posR (s:ByteArray):Nat→Nat
  | 0=>0
  | k + 1=>posR s k + (Utf8.decode s (posR s k)).2
/-- On the way. -/
structure Rns (C0:Ctx) (w0:World) (ro r:Nat) (s:ByteArray) (fb:Nat→Prop) (pos:Nat) (C:Ctx) (w:World):Prop where
  forb:∀ x,C.forb x ↔ fb x ∨ x=r
  iter:w.heap[r]? = some (.stringIter s pos)
  grow:Grow ro C0 w0 (C.with fb) w
  new:w0.heap.size ≤ r
  fix:∀ X,¬ Fixed.fix r X
theorem Rns.move {C0 C C' : Ctx} {w0 w w' : World} {ro r:Nat} {s:ByteArray} {fb:Nat→Prop} {pos:Nat} (h:Rns C0 w0 ro r s fb pos C w) (hs:SOk C w) (hs' : SOk C' w') (hg:Grow ro C w C' w'):Rns C0 w0 ro r s fb pos C' w' := by
  have hr:r < w.heap.size:=(Array.getElem?_eq_some_iff.1 h.iter).1
  have e2:w'.heap[r]? = w.heap[r]? := hg.blk r hr fun i o hi ho hl e=>hs.nof i o ho hl ((h.forb _).2 (.inr e))
  have hforb:∀ x,C'.forb x ↔ fb x ∨ x=r:=fun x=>by rw [hg.forb]; exact h.forb x
  have hl1:=less_ok (fb:=fb) hs (fun x hx=>(h.forb x).2 (.inl hx))
  have hg2 : Grow ro (C.with fb) w (C'.with fb) w' := by
    refine ⟨hg.os,hg.tape,hg.output,hg.size,rfl,hg.blk,fun x hx hm => ?_,hg.turn,hg.low⟩
    rcases hm with hf | ⟨i,o,q1,q2,q3⟩
    · exact .inl hf
    · rcases hg.may x hx (.inr ⟨i, o, q1, q2, q3⟩) with hf | hm
      · rcases (h.forb x).1 hf with hf | hf
        · exact .inl hf
        · exact absurd ((hforb _).2 (.inr (q3.trans hf))) (hs'.nof i o q1 q2)
      · exact .inr hm
  exact ⟨hforb,e2.trans h.iter,h.grow.trans hl1.1 hg2,h.new,h.fix⟩
/-- What stands ready for a range over a string: the code's parts, and the states. Inv: the places to which the loop comes. -/
structure RunAt (P:Program) (X:Ext) (call:Caller) (ro:Nat) (ds:List Deferred) (ops8 ops9:Array Oper) (body:Code) (cc:Tmp) (S:St) (s:ByteArray) (Dk:List Nat) (F:Nat→Nat→St) (d9:Tmp) (Inv:Nat→Prop) (RR:St→Prop):Prop where
  first : ∃ pre8 o8 t xm S1 d8 n9 x9, ops8.toList = pre8 ++ [o8] ∧ vops P X call false ro ops8 pre8 S = some S1 ∧ o8.op = .range t xm ∧ o8.guard = none ∧ o8.dst = some d8 ∧ P.underlying t = some .string ∧ ev S1 xm = some (.str s) ∧
    ops9.toList=[n9,x9]∧n9.op = .next (.tmp d8) true∧n9.guard=none∧n9.dst=some d9∧x9.op = .extract (.tmp d9) 0∧x9.guard=none∧x9.dst=some cc ∧
    (∀ r,forget Dk ⟨setN S1.tmps d8 (ptrV r),S1.st⟩=F 0 r)∧(∀ k r,nth (F k r).tmps d8=ptrV r)∧(∀ k r,d9 < (F k r).tmps.length∧cc < (F k r).tmps.length)
  start:Inv 0
  step : ∀ k r, Inv k → posR s k < s.size → SR P ro ds body ⟨setN (setN (F k r).tmps d9 (.tup [.bool true, .int .i64 (posR s k), .int .i32 (Utf8.decode s (posR s k)).1])) cc (.bool true), (F k r).st⟩
      fun x T=>(x = .normal∧Inv (k + 1)∧forget Dk T=F (k + 1) r) ∨ (x = .ret∧RR T)
end Go.Vm
end
/- How many letters a string has, told by the length of its runes' row. -/
section
namespace Go.Vm
open Go.RowKit (Below)
variable [Fixed]
variable {P:Program} {C:Ctx} {w:World}
end Go.Vm
end
/- Code that may panic: the relation SP beside SR, calls that return or panic, deferred calls. -/
section
namespace Go.Vm
open Go.RowKit (Below)
variable [Fixed]
variable {P:Program} {C:Ctx} {w:World}

/-- A panic with one value, not yet recovered. -/
def one (v:Value):List PanicEntry:=[{ v:=v,recovered:=false }]
/-- Code c, begun in S, ends in one of R's states, or panics in one of RP's. -/
def SP (P:Program) (ro:Nat) (ds:List Deferred) (c:Code) (S:St) (R:Ex→St→Prop) (RP:Value→St→Prop):Prop :=
  ∀ (C : Ctx) (w : World) (a : Act) (Q : Exit → Act → World → Prop), At C w S a ds → ro ≤ C.σ.length →
    (∀ x S' C' w' a',R x S' → At C' w' S' a' ds→Grow ro C w C' w' → Q x.toExit a' w') →
    (∀ v S' C' w' a',RP v S' → At C' w' S' a' ds→Grow ro C w C' w' → Q (.panic (one v)) a' w')→c.wp P Q a w
section
variable {ro:Nat} {ds:List Deferred} {R R' R1:Ex→St→Prop} {RP RP' RP1:Value→St→Prop}
theorem SP.of {c:Code} {S:St} (h:SR P ro ds c S R):SP P ro ds c S R RP:=fun C w a Q hat hro hQ _=>h C w a Q hat hro hQ
theorem SP.mono {c:Code} {S:St} (h:SP P ro ds c S R RP) (hR:∀ x T,R x T→R' x T) (hP:∀ v T,RP v T→RP' v T):SP P ro ds c S R' RP' :=
  fun C w a Q hat hro hQ hQP=>h C w a Q hat hro (fun x S' C' w' a' h1=>hQ x S' C' w' a' (hR x S' h1)) fun v S' C' w' a' h1=>hQP v S' C' w' a' (hP v S' h1)
theorem SP.exec {X:Ext} (hX:ExtOk P X) {call:Caller} (hc:CallOk P call) {lf:Nat} {fg:Nat→List Nat} {c:Code} (hok:codeOk c=true) {S S' : St} {x:Ex} (h:vexec P X call lf ro fg c S=some (x,S')) (hR:R x S'):SP P ro ds c S R RP :=
  SP.of ((SR.exec hX hc hok h).mono fun y T ⟨e1,e2⟩=>by subst e1; subst e2; exact hR)
theorem SP.seq {c d:Code} {S:St} (h:SP P ro ds c S R1 RP) (hn:∀ T,R1 .normal T→SP P ro ds d T R RP) (ho:∀ x T,x ≠ .normal→R1 x T→R x T):SP P ro ds (.seq c d) S R RP:=by
  intro C w a Q hat hro hQ hQP
  apply wp_seq
  refine h C w a _ hat hro ?_ ?_
  · intro x T C1 w1 a1 hR hat1 hg1
    cases x with
    | normal=>exact hn T hR C1 w1 a1 Q hat1 (Nat.le_trans hro hg1.len) (fun x S' C' w' a' h1 h2 h3=>hQ x S' C' w' a' h1 h2 (hg1.trans hat1.ok h3)) fun v S' C' w' a' h1 h2 h3=>hQP v S' C' w' a' h1 h2 (hg1.trans hat1.ok h3)
    | exit id=>exact hQ _ T C1 w1 a1 (ho _ _ (by simp) hR) hat1 hg1
    | ret=>exact hQ _ T C1 w1 a1 (ho _ _ (by simp) hR) hat1 hg1
  · intro v T C1 w1 a1 hR hat1 hg1
    exact hQP v T C1 w1 a1 hR hat1 hg1
theorem SP.cond {y:Operand} {c d:Code} {S:St} {b:Bool} (he:ev S y=some (.bool b)) (h:SP P ro ds (if b then c else d) S R RP):SP P ro ds (.cond y c d) S R RP:=by
  intro C w a Q hat hro hQ hQP
  have:=ev_run hat.tmps he
  simp only [Rep] at this
  cases b with
  | true=>exact wp_cond_true this (h C w a Q hat hro hQ hQP)
  | false=>exact wp_cond_false this (h C w a Q hat hro hQ hQP)
theorem SP.block {id:Nat} {c:Code} {S:St} (h:SP P ro ds c S (fun x T=>match x with | .exit id' => if id' = id then R .normal T else R (.exit id') T | x=>R x T) RP):SP P ro ds (.block id c) S R RP:=by
  intro C w a Q hat hro hQ hQP
  apply wp_block
  refine h C w a _ hat hro ?_ ?_
  · intro x T C1 w1 a1 hR hat1 hg1
    cases x with
    | normal=>exact hQ _ T C1 w1 a1 hR hat1 hg1
    | ret=>exact hQ _ T C1 w1 a1 hR hat1 hg1
    | exit id' =>
      simp only [Ex.toExit,Exit.inBlock]
      simp only at hR
      split at hR
      · rename_i e
        rw [if_pos e]
        exact hQ .normal T C1 w1 a1 hR hat1 hg1
      · rename_i e
        rw [if_neg e]
        exact hQ _ T C1 w1 a1 hR hat1 hg1
  · intro v T C1 w1 a1 hR hat1 hg1
    exact hQP v T C1 w1 a1 hR hat1 hg1
theorem SP.skip {S:St} (h:R .normal S):SP P ro ds .skip S R RP:=SP.of (SR.skip h)
theorem SP.ret {S:St} (h:R .ret S):SP P ro ds .ret S R RP:=SP.of (SR.ret h)
theorem SP.forget {c:Code} {S:St} (ts:List Nat) (h:SP P ro ds c (forget ts S) R RP):SP P ro ds c S R RP:=fun C w a Q hat hro hQ=>h C w a Q (hat.forget ts) hro hQ
/-- A loop, with what holds of its head. -/
theorem SP.loop {c:Code} (I:St→Prop) (μ:St→Nat) {S:St} (h0:I S) (hr:∀ S,I S→SP P ro ds c S (fun x T=>match x with | .normal=>I T∧μ T < μ S | x=>R x T) RP):SP P ro ds (.loop c) S R RP:=by
  intro C w a Q hat hro hQ hQP
  have key : ∀ n S C1 w1 a1, μ S < n → I S → At C1 w1 S a1 ds → Grow ro C w C1 w1 → Code.rounds P c Q n a1 w1 := by
    intro n
    induction n with
    | zero=>intro S C1 w1 a1 h; omega
    | succ n ih =>
      intro S C1 w1 a1 hn hI hat1 hg1
      refine hr S hI C1 w1 a1 _ hat1 (Nat.le_trans hro hg1.len) ?_ ?_
      · intro x T C2 w2 a2 hR hat2 hg2
        cases x with
        | normal=>exact ih T C2 w2 a2 (by have:=hR.2; omega) hR.1 hat2 (hg1.trans hat1.ok hg2)
        | exit id=>exact hQ _ T C2 w2 a2 hR hat2 (hg1.trans hat1.ok hg2)
        | ret=>exact hQ _ T C2 w2 a2 hR hat2 (hg1.trans hat1.ok hg2)
      · intro v T C2 w2 a2 hR hat2 hg2
        exact hQP v T C2 w2 a2 hR hat2 (hg1.trans hat1.ok hg2)
  exact wp_loop_rounds (μ S + 1) (key _ S C w a (Nat.lt_succ_self _) h0 hat (Grow.refl ..))

/-- What a call does that returns, or panics. -/
def CallP (P:Program) (f:FuncId) (vs:List AV) (σ:List Ob) (ro:Nat) (R:AV→List Ob→Prop) (RP:Value→List Ob→Prop):Prop :=
  Bodied P f ∧ ∀ (C : Ctx) (w : World) (us : List Value), C.σ = σ → SOk C w → ro ≤ σ.length → RepAll C w vs us →
    Calls P f us.toArray w fun e w' => (∃ r u C',e = .returned u∧R r C'.σ∧SOk C' w' ∧ Grow ro C w C' w' ∧ Rep C' w' r u) ∨ (∃ v C',e = .panicked (one v)∧RP v C'.σ∧SOk C' w' ∧ Grow ro C w C' w')
theorem wp_enterP {o:Oper} {a:Act} {next:Act→World→Prop} {Q:Exit→Act→World→Prop} {f:FuncId} {args:Array Value} {w' : World} (e:(execOp a.eval o).run P w = .ok (.enter f args) w')
    (h:Calls P f args w' fun e w'' => (∃ u,e = .returned u∧next (a.put o.dst u) w'') ∨ (∃ v,e = .panicked (one v)∧Q (.panic (one v)) a w'')):o.wp P a w next Q:=by
  unfold Oper.wp
  rw [e]
  refine Calls.mono h ?_
  rintro e w' (⟨u,rfl,h⟩ | ⟨v,rfl,h⟩)
  · exact h
  · exact h
/-- A region in which one operation is a call that may panic; what comes behind it is told for each result. -/
theorem SP.call {X:Ext} (hX:ExtOk P X) {call:Caller} (hc:CallOk P call) {id:Nat} {ops:Array Oper} {pre post:List Oper} {o:Oper} {S S1:St} {f:FuncId} {c:Call} {g:Operand} {caps vs:List AV} {Rc:AV→List Ob→Prop} {RPc:Value→List Ob→Prop}
    (hops:ops.toList=pre ++ o::post) (hpre:vops P X call false ro ops pre S=some S1) (ho:o.op = .call c) (hcal:c.callee = .value g) (hg:o.guard=none) (hgv:ev S1 g=some (.clo f caps)) (hx:evs S1 c.args.toList=some vs)
    (hcall:CallP P f (vs ++ caps) S1.st ro Rc RPc) (hr:∀ r σ',Rc r σ' → ∃ S2,vops P X call false ro ops post (putSlot S1 o.dst r σ')=some S2∧R .normal S2) (hp:∀ v σ',RPc v σ' → RP v ⟨S1.tmps,σ'⟩) :
    SP P ro ds (.region id ops false) S R RP:=by
  intro C w a Q hat hro hQ hQP
  refine wp_region_list ?_
  rw [hops]
  refine vops_app hX hc pre hpre hat hro fun C1 w1 a1 hat1 hg1 => ?_
  have hw:Region.wanted o (yielded ops a1.tmps)=true:=by simp [Region.wanted,hg]
  simp only [wpList]
  rw [if_pos hw]
  left
  have hst:=hat1.st
  have hfn:=ev_run hat1.tmps hgv
  simp only [Rep] at hfn
  obtain ⟨us,e,hcaps⟩:=hfn
  have hus:=(evs_run hat1.tmps hx).append hcaps
  have hrun : (execOp a1.eval o).run P w1 = .ok (.enter f (c.args.toList.map a1.eval ++ us).toArray) w1 := by
    simp only [execOp,ho,resolve,hcal,e,Deferred.ofValue,Sem.run_bind,Sem.run_pure,Result.andThen,invoke]
    have : (#[] ++ c.args.map a1.eval ++ us.toArray) = (c.args.toList.map a1.eval ++ us).toArray := by
      apply Array.ext'
      simp
    rw [this]
    exact callFunc_run hcall.1
  refine wp_enterP hrun ?_
  refine Calls.mono (hcall.2 C1 w1 _ hst.symm hat1.ok (by rw [hst]; exact Nat.le_trans hro hg1.len) hus) ?_
  rintro e w' (⟨r,u,C',rfl,k1,k2,k3,k4⟩ | ⟨v,C',rfl,k1,k2,k3⟩)
  · left
    refine ⟨u,rfl,?_⟩
    obtain ⟨S2,j1,j2⟩:=hr r C'.σ k1
    refine vops_sound hX hc post j1 (hat1.step k2 k3 k4) (Nat.le_trans hro (Nat.le_trans hg1.len k3.len)) fun C2 w2 a2 hat2 hg2 => ?_
    exact hQ .normal S2 C2 w2 a2 j2 hat2 ((hg1.trans hat1.ok k3).trans k2 hg2)
  · right
    refine ⟨v,rfl,?_⟩
    refine hQP v ⟨S1.tmps,C'.σ⟩ C' w' a1 (hp v _ k1) ?_ (hg1.trans hat1.ok k3)
    exact ⟨rfl,k2,RepAll.mono k3.keeps _ _ hat1.tmps,hat1.defers⟩
end
/-- A body that returns or panics. -/
theorem body_P {f : FuncId} {fn : Func} {c : Code} {vs : List AV} {σ : List Ob} {ro : Nat} {R : AV → List Ob → Prop} {RP : Value → List Ob → Prop} (hf : P.funcs[f]? = some fn) (hb : fn.body = some c) (hname : ¬ fn.name = "runtime.NumGoroutine")
    (h:SP P ro [] c { tmps:=vs ++ List.replicate (fn.ntmps - vs.length) .undef,st:=σ } (fun x T=>(x = .normal ∨ x = .ret)∧∃ r σ',vend P fn σ ro T=some (r,σ')∧R r σ') (fun v T=>RP v T.st)):CallP P f vs σ ro R RP:=by
  refine ⟨⟨fn,hf,by rw [hb]; rfl,hname⟩,?_⟩
  intro C w us hσ hs hro hr
  have hat : At C w { tmps := vs ++ List.replicate (fn.ntmps - vs.length) .undef, st := σ } { tmps := us.toArray ++ Array.replicate (fn.ntmps - us.toArray.size) undef, defers := [] } [] := by
    refine ⟨hσ.symm,hs,?_,rfl⟩
    have hrep : ∀ k, RepAll C w (List.replicate k AV.undef) (List.replicate k undef) := by
      intro k
      induction k with
      | zero=>simp only [List.replicate_zero,RepAll]
      | succ k ih=>simp only [List.replicate_succ,RepAll,Rep]; exact ⟨trivial,ih⟩
    have:=hr.append (hrep (fn.ntmps - vs.length))
    have e:fn.ntmps - us.length=fn.ntmps - vs.length:=by rw [hr.length]
    simpa [e] using this
  refine calls_of_wp hf hb (h C w _ _ hat (by rw [hσ]; exact hro) ?_ ?_)
  · intro x T C1 w1 a1 hRx hat1 hg1
    obtain ⟨hxx,r,σ',hend,hR⟩:=hRx
    obtain ⟨u,C',e1,e2,e3,e4,e5,e6⟩:=vend_run hend hat1 hσ hg1
    rcases hxx with rfl | rfl <;> exact ⟨hat1.defers,u,e1,.inl ⟨r,u,C',rfl,by rw [e2]; exact hR,e3,e4,e5⟩⟩
  · intro v T C1 w1 a1 hRx hat1 hg1
    exact ⟨hat1.defers,.inr ⟨v,C1,rfl,by rw [← hat1.st]; exact hRx,hat1.ok,hg1⟩⟩
end Go.Vm
end
/- A call that gets one map: it turns that map alone. -/
section
namespace Go.Vm
open Go.RowKit (Below)
variable [Fixed]
variable {P:Program} {C:Ctx} {w:World}

def pureEs (es:List (AV × AV)):Prop:=∀ e ∈ es,AV.lt 0 e.1=true∧AV.lt 0 e.2=true
/-- The context of a call that gets object id alone. -/
def Ctx.only (C:Ctx) (id:Nat) (o:Ob):Ctx:=⟨[o],fun _=>C.φ id,fun _=>C.κ id,fun b=>Mut C b∧b ≠ C.φ id⟩
theorem only_get {id j:Nat} {o x:Ob} (h:(C.only id o).σ[j]? = some x):j=0∧x=o:=by
  cases j with
  | zero=>simp [Ctx.only] at h; exact ⟨rfl,h.symm⟩
  | succ j=>simp [Ctx.only] at h
theorem mut_only {id b:Nat} {o:Ob} (ho:C.σ[id]? = some o) (hl:o.live):Mut (C.only id o) b ↔ Mut C b:=by
  constructor
  · rintro (h | ⟨j, x, h1, h2, h3⟩)
    · exact h.1
    · obtain ⟨_, rfl⟩ := only_get h1
      exact .inr ⟨id,x,ho,h2,h3⟩
  · intro h
    by_cases e:b=C.φ id
    · exact .inr ⟨0,o,rfl,hl,e.symm⟩
    · exact .inl ⟨h,e⟩
theorem only_ok {id:Nat} {es:List (AV × AV)} (hs:SOk C w) (ho:C.σ[id]? = some (.mapo es)) (hp:pureEs es):SOk (C.only id (.mapo es)) w:=by
  have hag:Agree 0 C (C.only id (.mapo es)) w:=⟨fun _ h=>absurd h (by omega),fun b _ h=>(mut_only ho trivial).1 h⟩
  refine ⟨?_,?_,?_,?_,?_,?_⟩
  · intro j o h _
    exact hs.blk id _ ho trivial
  · intro i j oi oj hi _ hj _ _
    rw [(only_get hi).1,(only_get hj).1]
  · intro j o h
    obtain ⟨_,rfl⟩:=only_get h
    obtain ⟨ms,cl,k1,kst,k2⟩:=hs.ob id _ ho
    exact ⟨ms,cl,k1,kst,k2.swap hag hp⟩
  · intro j o h _ hf
    exact hf.2 rfl
  · rintro b ⟨h, _⟩
    rcases h with h | ⟨j,o,h1,h2,rfl⟩
    · exact hs.fb b h
    · exact hs.blk j o h1 h2
  · intro b X hX
    exact ⟨(hs.fx b X hX).1,fun j o _ _=>(hs.fx b X hX).2 id _ ho trivial⟩
/-- The frame: a call with one map, out of whatever store. -/
theorem map_frame {f:FuncId} {id:Nat} {es es' : List (AV × AV)} {rest:List AV} {r:AV} {σ σ1:List Ob} {ro:Nat} (h:CallAt P f (.map 0::rest) [.mapo es] 0 r σ1) (h1:σ1[0]? = some (.mapo es')) (hes:pureEs es) (hes' : pureEs es') (hr:r.pure=true) (hu:unfr r=r)
    (hrest:AV.ltAll 0 rest=true) (ho:σ[id]? = some (.mapo es)) (hro:ro ≤ id):CallAt P f (.map id::rest) σ ro r (setOb σ id (.mapo es')):=by
  refine ⟨h.1,?_⟩
  intro C w us hσ hs hle hrep
  subst hσ
  have hag:Agree 0 C (C.only id (.mapo es)) w:=⟨fun _ h=>absurd h (by omega),fun b _ h=>(mut_only ho trivial).1 h⟩
  cases us with
  | nil=>simp only [RepAll] at hrep
  | cons u us =>
    simp only [RepAll] at hrep
    obtain ⟨hm,hrep⟩:=hrep
    simp only [Rep] at hm
    refine Calls.mono (h.2 (C.only id (.mapo es)) w (u::us) rfl (only_ok hs ho hes) (Nat.zero_le _) ?_) ?_
    · simp only [RepAll, Rep]
      exact ⟨⟨⟨es,rfl⟩,hm.2⟩,RepAll.swap hag _ _ hrest hrep⟩
    · rintro e w' ⟨u', C1, rfl, k1, k2, k3, k4, _⟩
      have hget:C1.σ[0]? = some (.mapo es'):=by rw [k1]; exact h1
      obtain ⟨o',g1,g2⟩:=k3.turn 0 (.mapo es) rfl
      obtain ⟨_,g3,g4⟩:=g2
      have gφ:C1.φ 0=C.φ id:=g3
      obtain ⟨ms,cl,j1,jst,j2⟩:=k2.ob 0 _ hget
      rw [gφ] at j1
      have hblk:∀ x,x < w.heap.size→x ≠ C.φ id→w'.heap[x]? = w.heap[x]? := fun x hx hne=>k3.blk x hx fun j o _ _ _ e=>hne e.symm
      have hmut : ∀ b, Mut C b → Mut C1 b := by
        intro b hb
        rcases (mut_only ho trivial).2 hb with hf | ⟨j,x,e1,_,e3⟩
        · left; rw [k3.forb]; exact hf
        · refine .inr ⟨0, _, hget, trivial, ?_⟩
          rw [gφ]; exact e3
      have hidlt:=hs.blk id _ ho trivial
      have hput : ∀ b, Mut (C.put id (.mapo es') (C.φ id) (C.κ id)) b → Mut C1 b := by
        intro b hb
        rcases hb with hf | ⟨j,x,e1,e2,e3⟩
        · exact hmut b (.inl hf)
        · by_cases e : j = id
          · subst e
            refine hmut b (.inr ⟨j,_,ho,trivial,?_⟩)
            rw [← e3]; simp [Ctx.put,upd]
          · refine hmut b (.inr ⟨j, x, ?_, e2, ?_⟩)
            · rw [← e1]; exact (setOb_other _ e).symm
            · rw [← e3]; simp [Ctx.put,upd,e]
      have hag2:Agree 0 C1 (C.put id (.mapo es') (C.φ id) (C.κ id)) w' := ⟨fun _ h=>absurd h (by omega),fun b _ h=>hput b h⟩
      obtain ⟨s1,s2⟩:=turn_one hs (ro:=ro) (w' := w') (b:=C.φ id) (c:=C.κ id) (o' := .mapo es') ho trivial hro k3.os k3.tape k3.output k3.size hblk (.inl rfl) (Nat.lt_of_lt_of_le hidlt k3.size) ⟨⟨_,rfl⟩,rfl,rfl⟩ (fun _=>⟨ms,cl,j1,jst,j2.swap hag2 hes'⟩)
      exact ⟨u',_,rfl,rfl,s1,s2,Rep.swap hag2 _ _ hr k4,by rw [← hu]; exact fresh_unfr⟩
end Go.Vm
end
/- Calls told by a relation. -/
section
namespace Go.Vm
variable [Fixed]
variable {P:Program}
open Classical in
/-- What a relation tells; else what was told before. -/
noncomputable def Caller.by (call:Caller) (R:FuncId→List AV→List Ob→Nat→AV × List Ob→Prop):Caller:=fun f vs σ ro =>
  if h:∃ p,R f vs σ ro p then some h.choose else call f vs σ ro
theorem by_ok {call:Caller} {R:FuncId→List AV→List Ob→Nat→AV × List Ob→Prop} (hc:CallOk P call) (hR:∀ f vs σ ro p,R f vs σ ro p→CallAt P f vs σ ro p.1 p.2):CallOk P (call.by R):=by
  intro f vs σ ro r σ' h
  unfold Caller.by at h
  split at h
  · rename_i hx
    have hp:=hR _ _ _ _ _ hx.choose_spec
    simp only [Option.some.injEq] at h
    rw [h] at hp
    exact hp
  · exact hc _ _ _ _ _ _ h
theorem by_at {call:Caller} {R:FuncId→List AV→List Ob→Nat→AV × List Ob→Prop} {f:FuncId} {vs:List AV} {σ:List Ob} {ro:Nat} {p:AV × List Ob} (hu:∀ q,R f vs σ ro q→q=p) (h:R f vs σ ro p):call.by R f vs σ ro=some p:=by
  unfold Caller.by
  have hx:∃ p,R f vs σ ro p:=⟨p,h⟩
  rw [dif_pos hx,hu _ hx.choose_spec]
theorem by_not {call:Caller} {R:FuncId→List AV→List Ob→Nat→AV × List Ob→Prop} {f:FuncId} {vs:List AV} {σ:List Ob} {ro:Nat} (h:∀ p,¬ R f vs σ ro p):call.by R f vs σ ro=call f vs σ ro:=by
  unfold Caller.by
  rw [dif_neg (fun ⟨p,hp⟩=>h p hp)]
end Go.Vm
end
/- Regions whose order is drawn, and whose last operation is a call that may panic. -/
section
namespace Go.Vm
open Go.RowKit (Below)
variable [Fixed]
variable {P:Program} {C:Ctx} {w:World}
theorem mixreg_any {ops:Array Oper} {X:Ext} {call:Caller} {Fs:List Nat} {ro:Nat} {ds:List Deferred} {Q:Exit→Act→World→Prop} (hX:ExtOk P X) (hc:CallOk P call) (hok:drOk ops=true) (hch:effChain Fs ops=true) {S S' : St} {a:Act} (hrun:vopm P X call ro Fs ops S.st ops.toList S=some S')
    (hat:At C w S a ds) (hro:ro ≤ C.σ.length) (hQ:∀ C' w' a',At C' w' S' a' ds→Grow ro C w C' w' → Q .normal a' w'):wpAny P .any ops Q ops.size (Array.replicate ops.size false) a { w with drawn:=w.drawn + 1 }:=by
  obtain ⟨h1,h2,_⟩:=more_heap hat.ok ro (w' := { w with drawn:=w.drawn + 1 }) rfl rfl rfl (Nat.le_refl _) (fun _ _=>rfl)
  have hgd : ∀ i, (Array.replicate ops.size false).getD i false = false := by
    intro i
    simp only [Array.getD]
    split
    · rw [Array.getInternal_eq_getElem]; simp
    · rfl
  unfold effChain at hch
  rw [Bool.and_eq_true] at hch
  refine wpAny_mix (w:=w) hX hc hok hch.2 hrun hat.st hro hQ ops.size _ 0 C _ a (by simp) ?_ ?_ ?_ ?_ h2
  · exact Nat.le_trans List.countP_le_length (by simp)
  · intro i x _ hLi
    rw [hgd] at hLi
    cases hLi
  · refine ⟨Nat.zero_le _, fun i x _ _ => ?_⟩
    simp only [hgd]
    simp
  · have e : (fun i => (Array.replicate ops.size false).getD i false) = fun _ => false := funext hgd
    rw [e,mixm_none hrun (fun _ _=>rfl)]
    exact ⟨hat.st,h1,RepAll.mono h2.keeps _ _ hat.tmps,hat.defers⟩
/-- What is to be shown ahead of the last operation. -/
def ahead (P:Program) (ops:Array Oper) (n:Nat) (Q:Exit→Act→World→Prop):Exit→Act→World→Prop
  | .normal=>wpOp P ops Q n (Q .normal)
  | e=>Q e
theorem upon_ahead {o:Oper} {a:Act} {next:Act→World→Prop} {Q Q' : Exit→Act→World→Prop} (hp:∀ c a w,Q' (.panic c) a w→Q (.panic c) a w) (ho:∀ a w,Q' .outgrown a w→Q .outgrown a w) {r:Result Next} (h:o.upon P a next Q' r):o.upon P a next Q r:=by
  cases r with
  | ok n w' =>
    cases n <;> simp only [Oper.upon] at h ⊢ <;>
      first
        | exact h
        | exact Calls.mono h (fun e w'' he => by
            cases e
            · exact he
            · exact hp _ _ _ he
            · exact he.imp fun a h=>h.imp fun w h=>ho a w h)
  | halt x w' =>
    cases x <;> simp only [Oper.upon] at h ⊢
    exact hp _ _ _ h
def opsR:Code→Array Oper
  | .region _ ops _=>ops
  | _ => #[]
/-- A region without its last operation. -/
def popR:Code→Code
  | .region id ops d => .region id ops.pop d
  | c=>c
/-- Guards refer to operations of the region. -/
def guardsIn (pre:Array Oper):Bool:=pre.toList.all fun x=>match x.guard with
  | some (j,_)=>Nat.blt j pre.size
  | none=>true
theorem wpAny_last {ops pre:Array Oper} {o:Oper} {Q:Exit→Act→World→Prop} (hops:ops.toList=pre.toList ++ [o]) (hok:drOk ops=true) (hcov:cover ops pre.size (edgesOf ops pre.size)=true) (hgu:guardsIn pre=true) :
    ∀ (fuel : Nat) (listed : Array Bool) (a : Act) (w : World), listed.size = pre.size → (∀ i x, pre[i]? = some x → listed.getD i false = true → ∀ e ∈ x.after.toList, Region.binds .any e = true → listed.getD e.on false = true) →
      wpAny P .any pre (ahead P ops pre.size Q) fuel listed a w→wpAny P .any ops Q (fuel + 1) (listed.push false) a w:=by
  have hsz : ops.size = pre.size + 1 := by
    have:=congrArg List.length hops
    simpa using this
  have hget : ∀ i, i < pre.size → ops[i]? = pre[i]? := by
    intro i hi
    rw [← Array.getElem?_toList,hops,List.getElem?_append_left (by simpa using hi),Array.getElem?_toList]
  have hlast : ops[pre.size]? = some o := by
    rw [← Array.getElem?_toList,hops,List.getElem?_append_right (by simp)]
    simp
  have gpush : ∀ (listed : Array Bool) (j : Nat), listed.size = pre.size → (listed.push false).getD j false = listed.getD j false := by
    intro listed j hl
    simp only [Array.getD,Array.size_push]
    by_cases h1:j < listed.size
    · rw [dif_pos (by omega), dif_pos h1]
      rw [Array.getInternal_eq_getElem,Array.getInternal_eq_getElem,Array.getElem_push_lt h1]
    · rw [dif_neg h1]
      by_cases h2:j < listed.size + 1
      · rw [dif_pos h2, Array.getInternal_eq_getElem]
        have:j=listed.size:=by omega
        subst this
        rw [Array.getElem_push_eq]
      · rw [dif_neg h2]
  have before : ∀ j x, pre[j]? = some x → ∀ e ∈ x.after.toList, Region.binds .any e = true → e.on < j := by
    intro j x hx e he hb
    have hj:=(Array.getElem?_eq_some_iff.1 hx).1
    exact (drOk_spec hok (by rw [hget j hj]; exact hx)).1 e he hb
  -- nothing is ready any more: all are listed
  have full : ∀ (listed : Array Bool), listed.size = pre.size → Region.ready .any pre listed = [] → ∀ i, i < pre.size → listed.getD i false = true := by
    intro listed hl hr i
    induction i using Nat.strongRecOn with
    | _ i ih =>
      intro hi
      by_cases h:listed.getD i false=true
      · exact h
      · have ho : pre[i]? = some pre[i] := Array.getElem?_eq_getElem hi
        have : i ∈ Region.ready .any pre listed := (ready_iff hl).2 ⟨_, ho, by simpa using h, fun e he hb => by
          have:=before i _ ho e he hb
          exact ih e.on this (by omega)⟩
        rw [hr] at this
        simp at this
  have rdy : ∀ (listed : Array Bool), listed.size = pre.size → ∀ i, i < pre.size → (i ∈ Region.ready .any ops (listed.push false) ↔ i ∈ Region.ready .any pre listed) := by
    intro listed hl i hi
    rw [ready_iff (by rw [Array.size_push,hl,hsz]),ready_iff hl,hget i hi]
    simp only [gpush listed _ hl]
  have rlast : ∀ (listed : Array Bool), listed.size = pre.size → (∀ i x, pre[i]? = some x → listed.getD i false = true → ∀ e ∈ x.after.toList, Region.binds .any e = true → listed.getD e.on false = true) → pre.size ∈ Region.ready .any ops (listed.push false) → ∀ i, i < pre.size → listed.getD i false = true := by
    intro listed hl hcl h i hi
    obtain ⟨x,hx,_,hr⟩:=(ready_iff (by rw [Array.size_push,hl,hsz])).1 h
    simp only [gpush listed _ hl] at hr
    refine cover_spec (ops:=ops) (L:=fun i=>listed.getD i false) ?_ pre.size _ hcov ?_ i hi
    · intro j y hy hL e he hb
      rcases Nat.lt_or_ge j pre.size with hj | hj
      · exact hcl j y (by rw [← hget j hj]; exact hy) hL e he hb
      · exfalso
        simp only [Array.getD] at hL
        rw [dif_neg (by omega)] at hL
        cases hL
    · intro t ht
      obtain ⟨e,he,hb,rfl⟩:=(edges_iff hx).1 ht
      exact hr e he hb
  have top : ∀ (listed : Array Bool), listed.size = pre.size → ∀ i, i ∈ Region.ready .any ops (listed.push false) → i < pre.size ∨ i = pre.size := by
    intro listed hl i h
    obtain ⟨x,hx,_⟩:=(ready_iff (by rw [Array.size_push,hl,hsz])).1 h
    have:=(Array.getElem?_eq_some_iff.1 hx).1
    omega
  -- the last one is run
  have fin : ∀ (fuel : Nat) (listed : Array Bool) (a : Act) (w : World), listed.size = pre.size → (∀ i, i < pre.size → listed.getD i false = true) → Region.ready .any pre listed = [] → ahead P ops pre.size Q .normal a w → wpAny P .any ops Q (fuel + 1) (listed.push false) a w := by
    intro fuel listed a w hl hall hr hQ
    have hall' : ∀ i, i ≤ pre.size → ((listed.push false).setIfInBounds pre.size true).getD i false = true := by
      intro i hi
      rw [set_get (by rw [Array.size_push]; omega),Bool.or_eq_true]
      by_cases e:i=pre.size
      · subst e; left; simp
      · right; rw [gpush listed _ hl]; exact hall i (by omega)
    have none' : Region.ready .any ops ((listed.push false).setIfInBounds pre.size true) = [] := by
      apply List.eq_nil_iff_forall_not_mem.2
      intro i hi
      obtain ⟨x,hx,h1,_⟩:=(ready_iff (by rw [Array.size_setIfInBounds,Array.size_push,hl,hsz])).1 hi
      have:=(Array.getElem?_eq_some_iff.1 hx).1
      rw [hall' i (by omega)] at h1
      cases h1
    have nxt : ∀ a w, Q .normal a w → wpAny P .any ops Q fuel ((listed.push false).setIfInBounds pre.size true) a w := by
      intro a w h
      cases fuel with
      | zero=>exact ⟨none',h⟩
      | succ fuel=>exact ⟨fun _=>h,fun i hi=>by rw [none'] at hi; simp at hi⟩
    refine ⟨fun hn => ?_,fun i hi => ?_⟩
    · exfalso
      have : pre.size ∈ Region.ready .any ops (listed.push false) := (ready_iff (by rw [Array.size_push, hl, hsz])).2 ⟨o, hlast, by rw [gpush listed _ hl]; simp only [Array.getD]; rw [dif_neg (by omega)], fun e he hb => by
        rw [gpush listed _ hl]
        exact hall _ ((drOk_spec hok hlast).1 e he hb)⟩
      rw [hn] at this
      simp at this
    · rcases top listed hl i hi with h | h
      · have := (rdy listed hl i h).1 hi
        rw [hr] at this
        simp at this
      · subst h
        exact wpOp_mono nxt hQ
  intro fuel
  induction fuel with
  | zero =>
    intro listed a w hl hcl h
    exact fin 0 listed a w hl (full listed hl h.1) h.1 h.2
  | succ fuel ih =>
    intro listed a w hl hcl h
    by_cases hr:Region.ready .any pre listed=[]
    · exact fin (fuel + 1) listed a w hl (full listed hl hr) hr (h.1 hr)
    · refine ⟨fun hn => ?_, fun i hi => ?_⟩
      · exfalso
        obtain ⟨i,hi⟩:=List.exists_mem_of_ne_nil _ hr
        obtain ⟨x,hx,_⟩:=(ready_iff hl).1 hi
        have:=(rdy listed hl i (Array.getElem?_eq_some_iff.1 hx).1).2 hi
        rw [hn] at this
        simp at this
      · rcases top listed hl i hi with hlt | e
        · have hi' := (rdy listed hl i hlt).1 hi
          have hstep:=h.2 i hi'
          obtain ⟨x,hx,hnl,hready⟩:=(ready_iff hl).1 hi'
          unfold wpOp at hstep ⊢
          rw [hget i hlt,hx]
          rw [hx] at hstep
          simp only at hstep ⊢
          have hset : (listed.push false).setIfInBounds i true = (listed.setIfInBounds i true).push false := by
            apply Array.ext'
            simp only [Array.toList_setIfInBounds,Array.toList_push]
            rw [List.set_append_left _ _ (by simpa [hl] using hlt)]
          have hcl' : ∀ k y, pre[k]? = some y → (listed.setIfInBounds i true).getD k false = true → ∀ e ∈ y.after.toList, Region.binds .any e = true → (listed.setIfInBounds i true).getD e.on false = true := by
            intro k y hy hk e he hb
            rw [set_get (by omega),Bool.or_eq_true] at hk ⊢
            right
            rcases hk with hk | hk
            · have : k = i := by simpa using hk
              subst this
              rw [hx] at hy
              cases hy
              exact hready e he hb
            · exact hcl k y hy hk e he hb
          have hyl : Region.wanted x (yielded ops a.tmps) = Region.wanted x (yielded pre a.tmps) := by
            have hgd : ∀ j want, x.guard = some (j, want) → j < pre.size := by
              intro j want hg
              have:=List.all_eq_true.1 hgu x (by rw [Array.mem_toList_iff]; exact Array.mem_of_getElem? hx)
              rw [hg] at this
              simpa using this
            unfold Region.wanted
            cases hg:x.guard with
            | none=>rfl
            | some jw =>
              obtain ⟨j,want⟩:=jw
              simp only
              unfold yielded
              rw [hget j (by have:=hgd j want hg; omega)]
          rw [hyl]
          have hnext : ∀ a w, wpAny P .any pre (ahead P ops pre.size Q) fuel (listed.setIfInBounds i true) a w → wpAny P .any ops Q (fuel + 1) ((listed.push false).setIfInBounds i true) a w := by
            intro a w h
            rw [hset]
            exact ih _ a w (by rw [Array.size_setIfInBounds]; exact hl) hcl' h
          split at hstep
          · rename_i hw
            rw [if_pos hw]
            rcases hstep with hstep | ⟨h1,h2⟩
            · left
              exact Oper.wp_mono hnext (upon_ahead (fun _ _ _ h=>h) (fun _ _ h=>h) hstep)
            · exact .inr ⟨h1,h2⟩
          · rename_i hw
            rw [if_neg hw]
            exact hnext _ _ hstep
        · exfalso
          subst e
          have hall:=rlast listed hl hcl hi
          apply hr
          apply List.eq_nil_iff_forall_not_mem.2
          intro j hj
          obtain ⟨x,hx,h1,_⟩:=(ready_iff hl).1 hj
          rw [hall j (Array.getElem?_eq_some_iff.1 hx).1] at h1
          cases h1
/-- A drawn region whose last operation is a call that may panic. -/
theorem SP.drawn {X:Ext} (hX:ExtOk P X) {call:Caller} (hc:CallOk P call) (hm:P.follows .mixedOrders=true) {ro:Nat} {ds:List Deferred} {R:Ex→St→Prop} {RP:Value→St→Prop} {id:Nat} {ops pre:Array Oper} {o:Oper} {S S1:St} {f:FuncId} {c:Call} {g:Operand} {caps vs:List AV} {Rc:AV→List Ob→Prop} {RPc:Value→List Ob→Prop} {L:List Nat}
    (hops:ops.toList=pre.toList ++ [o]) (hok:drOk ops=true) (hok' : drOk pre=true) (hcov:cover ops pre.size (edgesOf ops pre.size)=true) (hgu:guardsIn pre=true) (hch:effChain L pre=true)
    (hpre:vopm P X call ro L pre S.st pre.toList S=some S1) (ho:o.op = .call c) (hcal:c.callee = .value g) (hg:o.guard=none) (hgv:ev S1 g=some (.clo f caps)) (hx:evs S1 c.args.toList=some vs)
    (hcall:CallP P f (vs ++ caps) S1.st ro Rc RPc) (hr:∀ r σ',Rc r σ' → R .normal (putSlot S1 o.dst r σ')) (hp:∀ v σ',RPc v σ' → RP v ⟨S1.tmps,σ'⟩) :
    SP P ro ds (.region id ops true) S R RP:=by
  intro C w a Q hat hro hQ hQP
  apply wp_region_any hm
  have hsz : ops.size = pre.size + 1 := by
    have:=congrArg List.length hops
    simpa using this
  have hrep : Array.replicate ops.size false = (Array.replicate pre.size false).push false := by
    rw [hsz]
    exact Array.replicate_succ
  rw [hrep,hsz]
  have hgd : ∀ i, (Array.replicate pre.size false).getD i false = false := by
    intro i
    simp only [Array.getD]
    split
    · rw [Array.getInternal_eq_getElem]; simp
    · rfl
  refine wpAny_last hops hok hcov hgu pre.size _ a _ (by simp) (fun i x _ h=>by rw [hgd] at h; cases h) ?_
  refine mixreg_any hX hc hok' hch hpre hat hro fun C1 w1 a1 hat1 hg1 => ?_
  show wpOp P ops Q pre.size (Q .normal) a1 w1
  have hlast : ops[pre.size]? = some o := by
    rw [← Array.getElem?_toList,hops,List.getElem?_append_right (by simp)]
    simp
  unfold wpOp
  rw [hlast]
  have hw:Region.wanted o (yielded ops a1.tmps)=true:=by simp [Region.wanted,hg]
  simp only
  rw [if_pos hw]
  left
  have hst:=hat1.st
  have hfn:=ev_run hat1.tmps hgv
  simp only [Rep] at hfn
  obtain ⟨us,e,hcaps⟩:=hfn
  have hus:=(evs_run hat1.tmps hx).append hcaps
  have hrun : (execOp a1.eval o).run P w1 = .ok (.enter f (c.args.toList.map a1.eval ++ us).toArray) w1 := by
    simp only [execOp,ho,resolve,hcal,e,Deferred.ofValue,Sem.run_bind,Sem.run_pure,Result.andThen,invoke]
    have : (#[] ++ c.args.map a1.eval ++ us.toArray) = (c.args.toList.map a1.eval ++ us).toArray := by
      apply Array.ext'
      simp
    rw [this]
    exact callFunc_run hcall.1
  refine wp_enterP hrun ?_
  refine Calls.mono (hcall.2 C1 w1 _ hst.symm hat1.ok (by rw [hst]; exact Nat.le_trans hro hg1.len) hus) ?_
  rintro e w' (⟨r,u,C',rfl,k1,k2,k3,k4⟩ | ⟨v,C',rfl,k1,k2,k3⟩)
  · left
    exact ⟨u,rfl,hQ .normal _ C' w' _ (hr r C'.σ k1) (hat1.step k2 k3 k4) (hg1.trans hat1.ok k3)⟩
  · right
    refine ⟨v,rfl,hQP v ⟨S1.tmps,C'.σ⟩ C' w' a1 (hp v _ k1) ?_ (hg1.trans hat1.ok k3)⟩
    exact ⟨rfl,k2,RepAll.mono k3.keeps _ _ hat1.tmps,hat1.defers⟩
end Go.Vm
end
/- A drawn region that ends in the store to a new box: it is read by value from then on. -/
section
namespace Go.Vm
open Go.RowKit (Below)
variable [Fixed]
variable {P:Program} {C:Ctx} {w:World}
theorem ltObs_all {m:Nat}:∀ {l:List Ob},(∀ (id:Nat) (o:Ob),l[id]? = some o→ltObs m [o]=true)→ltObs m l=true
  | [],_=>rfl
  | o :: l, h => by
    have h0:=h 0 o rfl
    have h1:=ltObs_all (l:=l) fun id o ho=>h (id + 1) o (by simpa using ho)
    cases o <;> simp_all [ltObs]
    exact h0
theorem repEs_lt {C:Ctx} {w:World}:∀ {es:List (AV × AV)} {ms:List MapEntry},RepEs C w es ms→(es.all fun e=>AV.lt C.σ.length e.1 && AV.lt C.σ.length e.2)=true
  | [],_,_=>rfl
  | e :: es, m :: ms, h => by
    obtain ⟨⟨_,h1⟩,h2,h3⟩:=h
    rw [List.all_cons,Rep.lt _ _ h1,Rep.lt _ _ h2,repEs_lt h3]; rfl
  | _::_,[],h=>h.elim
theorem ok_lt (hs:SOk C w):ltObs C.σ.length C.σ=true:=by
  apply ltObs_all
  intro id o ho
  have:=hs.ob id o ho
  cases o with
  | cells cs=>obtain ⟨_,us,e,_,_,h⟩:=this; simp [ltObs,RepAll.lt _ _ h]
  | arr n sz cs=>obtain ⟨_,_,_,_,us,vs,e,_,_,h⟩:=this; simp [ltObs,RepAll.lt _ _ h]
  | fro n sz cs=>obtain ⟨_,_,_,_,_,_,us,_,h⟩:=this; simp [ltObs,RepAll.lt _ _ h]
  | mapo es =>
    obtain ⟨ms,cl,_,_,h⟩:=this
    have:=repEs_lt h
    simp only [ltObs,Bool.and_true]
    exact this
  | gone=>rfl
  | brow t l=>rfl
/-- The last object, a box, is read by value from now on. -/
theorem unbox_at {ro:Nat} {C0:Ctx} {w0:World} {T:List AV} {d:Nat} {cs:List AV} {a:Act} {ds:List Deferred} (h0:SOk C0 w0) (hat:At C w ⟨T,C0.σ ++ [.cells cs]⟩ a ds) (hg:Grow ro C0 w0 C w) (hd:nth T d = .ref C0.σ.length 0) (hcs:AV.ltAll C0.σ.length cs=true) (hT:AV.ltAll C0.σ.length (setN T d .any)=true) :
    ∃ C',At C' w ⟨setN T d (.eaddr cs),C0.σ⟩ a ds∧Grow ro C0 w0 C' w:=by
  have hσ:=hat.st
  simp only at hσ
  have htk:C.σ.take C0.σ.length=C0.σ:=by rw [← hσ]; simp
  have hlt:ltObs C0.σ.length (C.σ.take C0.σ.length)=true:=by rw [htk]; exact ok_lt h0
  have hany:RepAll C w (setN T d .any) a.tmps.toList:=set_rep hat.tmps fun _ _=>by simp only [Rep]
  have hget:C.σ[C0.σ.length]? = some (.cells cs):=by rw [← hσ]; simp
  obtain ⟨h1,us,e,h2,_,h3⟩:=hat.ok.ob _ _ hget
  obtain ⟨t1,t2,t3⟩:=take_ok (v := .tup (setN T d .any)) (u := .tuple a.tmps.toList.toArray) rfl hat.ok hg hlt (by simpa [AV.lt] using hT) (by simp only [Rep]; exact ⟨_,rfl,hany⟩)
  obtain ⟨_,_,t4⟩:=take_ok (v := .tup cs) (u := .tuple us.toArray) rfl hat.ok hg hlt (by simpa [AV.lt] using hcs) (by simp only [Rep]; exact ⟨_,rfl,h3⟩)
  simp only [Rep] at t3 t4
  obtain ⟨us1,e1,t3⟩:=t3
  obtain ⟨us2,e2,t4⟩:=t4
  have e1 : a.tmps.toList = us1 := by
    have:a.tmps=us1.toArray:=by simpa using e1
    rw [this]
  have e2:us=us2:=by simpa using e2
  subst e2
  refine ⟨_,⟨by rw [htk],t1,?_,hat.defers⟩,t2⟩
  have hset : setN T d (.eaddr cs) = setN (setN T d .any) d (.eaddr cs) := by
    apply nth_ext
    · simp [setN_length]
    · intro t
      simp only [nth_setN,setN_length]
      split <;> simp_all
  rw [hset]
  refine set_rep (by rw [e1]; exact t3) fun u hu => ?_
  obtain ⟨u',hu1,hu2⟩:=nth_at (t:=d) hat.tmps
  rw [hd] at hu1
  have:=hu2 u hu
  subst this
  simp only [Rep] at hu1 ⊢
  obtain ⟨_,rfl⟩:=hu1
  have hlive:(Ob.cells cs).live:=trivial
  refine ⟨h1,C.φ C0.σ.length,0,us,rfl,hat.ok.blk _ _ hget hlive,?_,?_,t4⟩
  · rintro (hf | ⟨id, o, k1, k2, k3⟩)
    · exact hat.ok.nof _ _ hget hlive hf
    · rw [List.getElem?_take] at k1
      split at k1
      · rename_i hid
        have:=hat.ok.inj id _ o _ k1 k2 hget hlive k3
        omega
      · cases k1
  · intro i x hx
    unfold World.cell?
    simp only [Nat.zero_add]
    rw [h2]
    simp only
    rw [← Array.getElem?_toList]
    simpa using hx
/-- A drawn region that ends in the store to a box that it makes. -/
theorem SP.boxLast {X:Ext} (hX:ExtOk P X) {call:Caller} (hc:CallOk P call) (hm:P.follows .mixedOrders=true) {ro:Nat} {ds:List Deferred} {R:Ex→St→Prop} {RP:Value→St→Prop} {id:Nat} {ops pre:Array Oper} {o:Oper} {T:List AV} {σ:List Ob} {S:St} {L:List Nat} {t:TypeId} {d:Nat} {x:Operand} {v:AV} {zs:List AV}
    (hops:ops.toList=pre.toList ++ [o]) (hok:drOk ops=true) (hok' : drOk pre=true) (hcov:cover ops pre.size (edgesOf ops pre.size)=true) (hgu:guardsIn pre=true) (hch:effChain L pre=true) (hS:S.st=σ)
    (hpre:vopm P X call ro L pre S.st pre.toList S=some ⟨T,σ ++ [.cells zs]⟩) (ho:o.op = .store t (.tmp d) x) (hg:o.guard=none) (hdst:o.dst=none) (hd:nth T d = .ref σ.length 0) (hx:ev ⟨T,σ ++ [.cells zs]⟩ x=some v) (hro:ro ≤ σ.length)
    (hf:v.flat=true) (hl:v.cells.length=P.cellsOf t) (hi:(P.info? t).isSome=true) (hz:zs.length=v.cells.length) (hh:headTag v.cells=false) (hvl:AV.ltAll σ.length v.cells=true) (hT:AV.ltAll σ.length (setN T d .any)=true)
    (hR:R .normal ⟨setN T d (.eaddr v.cells),σ⟩):SP P ro ds (.region id ops true) S R RP:=by
  intro C w a Q hat hroC hQ _
  have hsz : ops.size = pre.size + 1 := by
    have:=congrArg List.length hops
    simpa using this
  apply wp_region_any hm
  have hrep : Array.replicate ops.size false = (Array.replicate pre.size false).push false := by
    rw [hsz]
    exact Array.replicate_succ
  rw [hrep,hsz]
  have hgd : ∀ i, (Array.replicate pre.size false).getD i false = false := by
    intro i
    simp only [Array.getD]
    split
    · rw [Array.getInternal_eq_getElem]; simp
    · rfl
  refine wpAny_last hops hok hcov hgu pre.size _ a _ (by simp) (fun i x _ h=>by rw [hgd] at h; cases h) ?_
  refine mixreg_any hX hc hok' hch hpre hat hroC fun C1 w1 a1 hat1 hg1 => ?_
  show wpOp P ops Q pre.size (Q .normal) a1 w1
  have hlast : ops[pre.size]? = some o := by
    rw [← Array.getElem?_toList,hops,List.getElem?_append_right (by simp)]
    simp
  unfold wpOp
  rw [hlast]
  have hw:Region.wanted o (yielded ops a1.tmps)=true:=by simp [Region.wanted,hg]
  simp only
  rw [if_pos hw]
  left
  have hCσ:C.σ=σ:=by rw [← hat.st,hS]
  have hev : evOp P X call false ro ⟨T, σ ++ [.cells zs]⟩ o = some (.undef, σ ++ [.cells v.cells]) := by
    have he:ev ⟨T,σ ++ [.cells zs]⟩ (.tmp d)=some (.ref σ.length 0):=by simp only [ev,hd]
    unfold evOp
    rw [ho]
    simp only [he,hx,Bool.false_eq_true,if_false]
    unfold storev
    rw [if_pos ⟨hf,hl,hi⟩]
    have hgt:(σ ++ [Ob.cells zs])[σ.length]? = some (.cells zs):=by simp
    simp only [hgt]
    rw [if_pos ⟨hro,by omega,hh⟩,setOb_last]
    have : overlay zs 0 v.cells = v.cells := by
      unfold overlay
      rw [Nat.zero_add,List.take_zero,List.nil_append,← hz,List.drop_length,List.append_nil]
    rw [this]
  refine evOp_sound hX hc hev hat1.st hat1.ok (Nat.le_trans hroC hg1.len) hat1.tmps ?_
  intro u w' C' hσ' hs' hg' hv' _
  have hat2 : At C' w' ⟨T, C.σ ++ [.cells v.cells]⟩ (a1.put o.dst u) ds := by
    have:=hat1.step (d:=o.dst) hs' hg' hv'
    rw [hdst] at this ⊢
    have e : putSlot ⟨T, σ ++ [Ob.cells zs]⟩ none AV.undef C'.σ = ⟨T, C.σ ++ [.cells v.cells]⟩ := by
      rw [hσ',hCσ]; rfl
    rw [e] at this
    exact this
  obtain ⟨C3,k1,k2⟩:=unbox_at hat.ok hat2 (hg1.trans hat1.ok hg') (by rw [hCσ]; exact hd) (by rw [hCσ]; exact hvl) (by rw [hCσ]; exact hT)
  rw [hCσ] at k1
  exact hQ .normal _ C3 w' _ hR k1 k2
end Go.Vm
end
/- A body that defers a closure; what is told of it whether the rest returns or panics. -/
section
namespace Go.Vm
variable [Fixed]
variable {P:Program} {C:Ctx} {w:World}
/-- The deferred closure finds no panic: nothing turns. -/
def Idle (P:Program) (g:FuncId) (k:Nat):Prop:=∀ (w:World) (us:List Value),us.length=k→CallsD P g us.toArray .returning w fun e u' w' => (∃ rv,e = .returned rv)∧u' = .returning∧w' = w
/-- The deferred closure recovers from a panic with value v: the store turns. -/
def Catch (P:Program) (g:FuncId) (cv:List AV) (v:Value) (σ σ2:List Ob):Prop:=∀ (C:Ctx) (w:World) (us:List Value),SOk C w→C.σ=σ→RepAll C w cv us →
  CallsD P g us.toArray (.panicking (one v)) w fun e u' w' => ∃ C',(∃ rv,e = .returned rv)∧u' = .panicking [{ v:=v,recovered:=true }]∧SOk C' w' ∧ Grow 0 C w C' w' ∧ C'.σ=σ2
theorem call_deferred {X:Ext} (hX:ExtOk P X) {call:Caller} (hc:CallOk P call) {f:FuncId} {fn:Func} {R0 rest:Code} {i1 lf t:Nat} {ops1:Array Oper} {fg:Nat→List Nat} {mk df:Oper} {g gt:FuncId} {cs:Array Operand} {cl:Call} {cv:List AV} {vs:List AV} {β:Type} {B:Arg β} {y:β} {S1:St} {R:Ex→St→Prop} {RP:Value→St→Prop}
    (hf : P.funcs[f]? = some fn) (hb : fn.body = some (.seq R0 (.seq (.region i1 ops1 false) rest))) (hname : ¬ fn.name = "runtime.NumGoroutine") (hgb : Bodied P g) (hok0 : codeOk R0 = true)
    (h0:vexec P X call lf 0 fg R0 { tmps:=vs ++ List.replicate (fn.ntmps - vs.length) .undef,st:=[] }=some (.normal,S1))
    (hops:ops1.toList=[mk,df]) (hmk:mk.op = .makeFunc (.func g) #[] cs) (hmd:mk.dst=some t) (hmg:mk.guard=none) (hdf:df.op = .defer cl) (hdd:df.dst=none) (hdg:df.guard=none) (hcl:cl.callee = .value (.tmp t)) (hca:cl.args = #[])
    (hcv:evs S1 cs.toList=some cv) (ht:t < S1.tmps.length)
    (hrest:∀ ds,SP P 0 ds rest ⟨setN S1.tmps t (.clo g cv),S1.st⟩ R RP) (hid:Idle P g cv.length)
    (hR:∀ x T,R x T→(x = .normal ∨ x = .ret)∧∃ r σ',vend P fn [] 0 T=some (r,σ')∧B.dec r=some y)
    (hRP:∀ v T,RP v T→∃ σ2,Catch P g cv v T.st σ2∧∃ r σ',vend P fn [] 0 ⟨T.tmps,σ2⟩=some (r,σ')∧B.dec r=some y):CallAt P f vs [] 0 (B.enc y) []:=by
  refine ⟨⟨fn,hf,by rw [hb]; rfl,hname⟩,?_⟩
  intro C w us hσ hs hro hr
  have hat : At C w { tmps := vs ++ List.replicate (fn.ntmps - vs.length) .undef, st := [] } { tmps := us.toArray ++ Array.replicate (fn.ntmps - us.toArray.size) undef, defers := [] } [] := by
    refine ⟨hσ.symm,hs,?_,rfl⟩
    have hrep : ∀ k, RepAll C w (List.replicate k AV.undef) (List.replicate k undef) := by
      intro k
      induction k with
      | zero=>simp only [List.replicate_zero,RepAll]
      | succ k ih=>simp only [List.replicate_succ,RepAll,Rep]; exact ⟨trivial,ih⟩
    have:=hr.append (hrep (fn.ntmps - vs.length))
    have e:fn.ntmps - us.length=fn.ntmps - vs.length:=by rw [hr.length]
    simpa [e] using this
  -- what the end gives
  have shut : ∀ (T : St) (C1 : Ctx) (w1 : World) (tm : Array Value), SOk C1 w1 → RepAll C1 w1 T.tmps tm.toList → T.st = C1.σ → Grow 0 C w C1 w1 → (∃ r σ', vend P fn [] 0 T = some (r, σ') ∧ B.dec r = some y) →
      ∃ u,(results fn tm).run P w1 = .ok u w1∧∃ C',C'.σ=[]∧SOk C' w1∧Grow 0 C w C' w1∧Rep C' w1 (B.enc y) u∧Fresh C' w w1 (B.enc y) u:=by
    intro T C1 w1 tm k1 k2 k3 k4 ⟨r,σ',hend,hdec⟩
    have hat1:At C1 w1 T ⟨tm,[]⟩ []:=⟨k3,k1,k2,rfl⟩
    obtain ⟨u,C',e1,e2,e3,e4,e5,e6⟩:=vend_run hend hat1 hσ k4
    obtain ⟨t1,t2,t3⟩:=take_ok (m:=0) (v:=r) (u:=u) (by rw [hσ]; rfl) e3 e4 (by simp [ltObs]) (B.declt _ _ hdec) e5
    exact ⟨u,e1,_,by simp,t1,t2,B.rep _ _ _ _ _ hdec t3,by rw [← B.ro y]; exact fresh_unfr⟩
  refine calls_of_wp_defers hf hb ?_
  apply wp_seq
  refine vexec_sound hX hc R0 hok0 C w _ S1 _ .normal _ h0 hat (Nat.zero_le _) fun C1 w1 a1 hat1 hg1 => ?_
  show (Code.seq (.region i1 ops1 false) rest).wp P _ a1 w1
  apply wp_seq
  refine wp_region_list ?_
  rw [hops]
  -- the closure is made
  have hev : evOp P X call false 0 S1 mk = some (.clo g cv, S1.st) := by
    unfold evOp
    rw [hmk]
    simp only [hcv]
  simp only [wpList]
  rw [if_pos (by simp [Region.wanted,hmg])]
  left
  refine evOp_sound hX hc hev hat1.st hat1.ok (Nat.zero_le _) hat1.tmps ?_
  intro u w2 C2 hσ2 hs2 hg2 hv2 _
  rw [if_pos (by simp [Region.wanted,hdg])]
  left
  have hat2 : At C2 w2 ⟨setN S1.tmps t (.clo g cv), S1.st⟩ (a1.put mk.dst u) [] := by
    have:=hat1.step (d:=mk.dst) hs2 hg2 hv2
    rw [hmd] at this ⊢
    rw [hσ2] at this
    exact this
  have hclo : Rep C2 w2 (.clo g cv) ((a1.put mk.dst u).eval (.tmp t)) := by
    have := ev_run hat2.tmps (S := ⟨setN S1.tmps t (.clo g cv), S1.st⟩) (x := .tmp t) (v := .clo g cv) (by
      show some (nth (setN S1.tmps t (.clo g cv)) t)=_
      rw [nth_setN,if_pos ⟨rfl,ht⟩])
    exact this
  simp only [Rep] at hclo
  obtain ⟨us2,e2,hus2⟩:=hclo
  have hrun : (execOp (a1.put mk.dst u).eval df).run P w2 = .ok (.defer { target := .fn (.func g) us2.toArray, args := #[] }) w2 := by
    simp only [execOp,hdf,resolve,hcl,hca,e2,Deferred.ofValue,Sem.run_bind,Sem.run_pure,Result.andThen]
    simp
  unfold Oper.wp
  rw [hrun,Oper.upon_defer,hdd]
  have hd2:(a1.put mk.dst u).defers=[]:=hat2.defers
  generalize hD:({ target := .fn (.func g) us2.toArray,args := #[] }:Deferred)=D
  have hat3 : At C2 w2 ⟨setN S1.tmps t (.clo g cv), S1.st⟩ ({ (a1.put mk.dst u) with defers := D :: (a1.put mk.dst u).defers }.put none undef) [D] := by
    refine ⟨hat2.st,hat2.ok,?_,?_⟩
    · exact hat2.tmps
    · show D :: (a1.put mk.dst u).defers = [D]
      rw [hd2]
  have hg02:Grow 0 C w C2 w2:=hg1.trans hat1.ok hg2
  have hinv : ∀ w', (invoke (.fn (.func g) us2.toArray) #[]).run P w' = .ok (.enter g us2.toArray) w' := by
    intro w'
    simp only [invoke]
    have:(#[] ++ us2.toArray)=us2.toArray:=by simp
    rw [this]
    exact callFunc_run hgb
  have hlen:us2.length=cv.length:=(RepAll.length hus2).symm
  refine hrest [D] C2 w2 _ _ hat3 (Nat.zero_le _) ?_ ?_
  · intro x T C3 w3 a3 hRx hat4 hg3
    obtain ⟨hxx,hend⟩:=hR x T hRx
    obtain ⟨u3,k1,C',j1,j2,j3,j4,j5⟩:=shut T C3 w3 a3.tmps hat4.ok hat4.tmps hat4.st (hg02.trans hat2.ok hg3) hend
    have hleave : Leaves P fn a3.tmps (fun e w' => ∃ u C', e = .returned u ∧ C'.σ = [] ∧ SOk C' w' ∧ Grow 0 C w C' w' ∧ Rep C' w' (B.enc y) u ∧ Fresh C' w w' (B.enc y) u) a3.defers .returning w3 := by
      rw [hat4.defers,← hD]
      refine leaves_cons (by simp) (hinv w3) ?_
      refine (hid w3 us2 hlen).mono ?_
      rintro e u' w' ⟨⟨rv,rfl⟩,rfl,rfl⟩
      exact ⟨u3,k1,u3,C',rfl,j1,j2,j3,j4,j5⟩
    rcases hxx with rfl | rfl <;> exact hleave
  · intro v T C3 w3 a3 hRx hat4 hg3
    obtain ⟨σ2,hcatch,hend⟩:=hRP v T hRx
    show Leaves P fn a3.tmps _ a3.defers (.panicking (one v)) w3
    rw [hat4.defers,← hD]
    refine leaves_cons (by simp) (hinv w3) ?_
    refine (hcatch C3 w3 us2 hat4.ok hat4.st.symm (RepAll.mono hg3.keeps _ _ hus2)).mono ?_
    rintro e u' w' ⟨C4,⟨rv,rfl⟩,rfl,m1,m2,m3⟩
    obtain ⟨u3,k1,C',j1,j2,j3,j4,j5⟩:=shut ⟨T.tmps,σ2⟩ C4 w' a3.tmps m1 (RepAll.mono m2.keeps _ _ hat4.tmps) m3.symm ((hg02.trans hat2.ok hg3).trans hat4.ok m2) hend
    exact ⟨u3,k1,u3,C',rfl,j1,j2,j3,j4,j5⟩
/-- A region that ends in panic(n), a number in an interface. -/
theorem SP.panicLast {X:Ext} (hX:ExtOk P X) {call:Caller} (hc:CallOk P call) {ro:Nat} {ds:List Deferred} {R:Ex→St→Prop} {RP:Value→St→Prop} {id:Nat} {ops:Array Oper} {pre:List Oper} {mi pn:Oper} {S S1:St} {t:TypeId} {x:Operand} {d:Nat} {k:IntKind} {n:Int}
    (hops:ops.toList=pre ++ [mi,pn]) (hpre:vops P X call false ro ops pre S=some S1) (hmi:mi.op = .makeInterface t x) (hmg:mi.guard=none) (hmd:mi.dst=some d) (hx:ev S1 x=some (.int k n)) (ht:P.concrete t=true) (hpn:pn.op = .panic (.tmp d)) (hpg:pn.guard=none) (hd:d < S1.tmps.length)
    (hp:RP (.iface t (.int k n)) ⟨setN S1.tmps d (.raw (.iface t (.int k n))),S1.st⟩):SP P ro ds (.region id ops false) S R RP:=by
  intro C w a Q hat hro hQ hQP
  refine wp_region_list ?_
  rw [hops]
  refine vops_app hX hc pre hpre hat hro fun C1 w1 a1 hat1 hg1 => ?_
  simp only [wpList]
  rw [if_pos (by simp [Region.wanted,hmg])]
  left
  have hxv:=ev_run hat1.tmps hx
  simp only [Rep] at hxv
  have hrun : (execOp a1.eval mi).run P w1 = .ok (.value (.iface t (.int k n))) w1 := by
    simp only [execOp,hmi,hxv,Sem.run_bind]
    rw [run_makeInterface w1 t (.int k n) ht]
    rfl
  unfold Oper.wp
  rw [hrun,Oper.upon_value]
  rw [if_pos (by simp [Region.wanted,hpg])]
  left
  have hat2 : At C1 w1 ⟨setN S1.tmps d (.raw (.iface t (.int k n))), S1.st⟩ (a1.put mi.dst (.iface t (.int k n))) ds := by
    have:=hat1.step (d:=mi.dst) (v := .raw (.iface t (.int k n))) (u := .iface t (.int k n)) hat1.ok (Grow.refl ro C1 w1) (by simp only [Rep])
    rw [hmd] at this ⊢
    rw [← hat1.st] at this
    exact this
  have hev : (a1.put mi.dst (.iface t (.int k n))).eval (.tmp d) = .iface t (.int k n) := by
    have := ev_run hat2.tmps (S := ⟨setN S1.tmps d (.raw (.iface t (.int k n))), S1.st⟩) (x := .tmp d) (v := .raw (.iface t (.int k n))) (by
      show some (nth (setN S1.tmps d _) d)=_
      rw [nth_setN,if_pos ⟨rfl,hd⟩])
    simpa only [Rep] using this
  have hrun2 : (execOp (a1.put mi.dst (.iface t (.int k n))).eval pn).run P w1 = .halt (.panic (.iface t (.int k n))) w1 := by
    simp only [execOp,hpn,hev,Sem.run_bind]
    rw [run_panic_iface]
    rfl
  rw [hrun2,Oper.upon_panic]
  exact hQP _ _ C1 w1 _ hp hat2 hg1
theorem forget_nil (S:St):forget [] S=S:=rfl
/-- A part whose end is known, then slots are forgotten. -/
theorem SP.next {X:Ext} (hX:ExtOk P X) {call:Caller} (hc:CallOk P call) {ro lf:Nat} {ds:List Deferred} {R:Ex→St→Prop} {RP:Value→St→Prop} {fg:Nat→List Nat} {c d:Code} {S S1 S2:St} (D:List Nat) (h:vexec P X call lf ro fg c S=some (.normal,S1)) (hok:codeOk c=true) (hf:Vm.forget D S1=S2) (hd:SP P ro ds d S2 R RP):SP P ro ds (.seq c d) S R RP:=by
  refine SP.seq (R1:=fun x T=>x = .normal∧T=S1) (SP.exec hX hc hok h ⟨rfl,rfl⟩) ?_ ?_
  · rintro T ⟨_, rfl⟩
    exact SP.forget D (by rw [hf]; exact hd)
  · rintro x T h ⟨e, _⟩
    exact absurd e h
/-- What a drawn region's walk says of its operations. -/
theorem vopm_of {X:Ext} {call:Caller} {lf ro id:Nat} {fg:Nat→List Nat} {ops:Array Oper} {S S1:St} (h:vexec P X call lf ro fg (.region id ops true) S=some (.normal,S1)) (h5:fg (5000 + id)=[]) (h3:fg (3000 + id)=[]) (h0:fg id=[]) (h4:fg (4000 + id)=[]) (ht:tailL (fg (2000 + id))=none) (hch:effChain (fg (2000 + id)) ops=true) :
    vopm P X call ro (fg (2000 + id)) ops S.st ops.toList S=some S1:=by
  unfold vexec at h
  rw [h5,h3,h0,h4] at h
  simp only [vreg,ht,hch,Bool.and_self] at h
  split at h
  · rename_i S2 hS2
    simp only [fin,settle,forget_nil,Option.some.injEq,Prod.mk.injEq,true_and] at h
    rw [hS2,h]
  · cases h
/-- A test that panics if it fails, at the end of a drawn region. -/
theorem SP.check {X:Ext} (hX:ExtOk P X) {call:Caller} (hc:CallOk P call) (hm:P.follows .mixedOrders=true) {ro lf:Nat} {ds:List Deferred} {R:Ex→St→Prop} {RP:Value→St→Prop} {id:Nat} {ops:Array Oper} {fg:Nat→List Nat} {o:Oper} {S S1 S2:St} {f:FuncId} {c:Call} {vs:List AV} {b:Bool} {v:Value} {rest:Code} (D:List Nat)
    (hops:ops.toList=ops.pop.toList ++ [o]) (hok:drOk ops=true) (hok' : drOk ops.pop=true) (hcov:cover ops ops.pop.size (edgesOf ops ops.pop.size)=true) (hgu:guardsIn ops.pop=true)
    (h5:fg (5000 + id)=[]) (h3:fg (3000 + id)=[]) (h0:fg id=[]) (h4:fg (4000 + id)=[]) (ht:tailL (fg (2000 + id))=none) (hch:effChain (fg (2000 + id)) ops.pop=true)
    (ho:o.op = .call c) (hcal:c.callee = .value (.func f)) (hg:o.guard=none)
    (hpre:vexec P X call lf ro fg (.region id ops.pop true) S=some (.normal,S1)) (hx:evs S1 c.args.toList=some vs)
    (hcall:CallP P f vs S1.st ro (fun r σ' => b=true∧σ' = S1.st∧r = .tup []) (fun u σ' => b=false∧σ' = S1.st∧u=v))
    (hf:Vm.forget D (putSlot S1 o.dst (.tup []) S1.st)=S2) (hr:b=true→SP P ro ds rest S2 R RP) (hp:b=false→RP v S1):SP P ro ds (.seq (.region id ops true) rest) S R RP:=by
  have hcall' : CallP P f (vs ++ []) S1.st ro (fun r σ' => b=true∧σ' = S1.st∧r = .tup []) (fun u σ' => b=false∧σ' = S1.st∧u=v):=by rw [List.append_nil]; exact hcall
  refine SP.seq (R1:=fun x T=>x = .normal∧b=true∧T=putSlot S1 o.dst (.tup []) S1.st) (SP.drawn hX hc hm hops hok hok' hcov hgu hch (vopm_of hpre h5 h3 h0 h4 ht hch) ho hcal hg rfl hx hcall' ?_ ?_) ?_ ?_
  · rintro r σ' ⟨h1, rfl, rfl⟩
    exact ⟨rfl,h1,rfl⟩
  · rintro u σ' ⟨h1, rfl, rfl⟩
    exact hp h1
  · rintro T ⟨_, h1, rfl⟩
    exact SP.forget D (by rw [hf]; exact hr h1)
  · rintro x T h ⟨e, _⟩
    exact absurd e h
/-- The same where the order is the text's. -/
theorem SP.checkT {X:Ext} (hX:ExtOk P X) {call:Caller} (hc:CallOk P call) {ro:Nat} {ds:List Deferred} {R:Ex→St→Prop} {RP:Value→St→Prop} {id:Nat} {ops:Array Oper} {o:Oper} {S S1 S2:St} {f:FuncId} {c:Call} {vs:List AV} {b:Bool} {v:Value} {rest:Code} {pre:List Oper} (D:List Nat)
    (hops:ops.toList=pre ++ [o]) (ho:o.op = .call c) (hcal:c.callee = .value (.func f)) (hg:o.guard=none)
    (hpre:vops P X call false ro ops pre S=some S1) (hx:evs S1 c.args.toList=some vs)
    (hcall:CallP P f vs S1.st ro (fun r σ' => b=true∧σ' = S1.st∧r = .tup []) (fun u σ' => b=false∧σ' = S1.st∧u=v))
    (hf:Vm.forget D (putSlot S1 o.dst (.tup []) S1.st)=S2) (hr:b=true→SP P ro ds rest S2 R RP) (hp:b=false→RP v S1):SP P ro ds (.seq (.region id ops false) rest) S R RP:=by
  have hcall' : CallP P f (vs ++ []) S1.st ro (fun r σ' => b=true∧σ' = S1.st∧r = .tup []) (fun u σ' => b=false∧σ' = S1.st∧u=v):=by rw [List.append_nil]; exact hcall
  refine SP.seq (R1:=fun x T=>x = .normal∧b=true∧T=putSlot S1 o.dst (.tup []) S1.st) (SP.call hX hc (post:=[]) hops hpre ho hcal hg rfl hx hcall' ?_ ?_) ?_ ?_
  · rintro r σ' ⟨h1, rfl, rfl⟩
    exact ⟨_,rfl,rfl,h1,rfl⟩
  · rintro u σ' ⟨h1, rfl, rfl⟩
    exact hp h1
  · rintro T ⟨_, h1, rfl⟩
    exact SP.forget D (by rw [hf]; exact hr h1)
  · rintro x T h ⟨e, _⟩
    exact absurd e h
theorem SP.last {X:Ext} (hX:ExtOk P X) {call:Caller} (hc:CallOk P call) {ro lf:Nat} {ds:List Deferred} {R:Ex→St→Prop} {RP:Value→St→Prop} {fg:Nat→List Nat} {c:Code} {S S1:St} {x:Ex} (h:vexec P X call lf ro fg c S=some (x,S1)) (hok:codeOk c=true) (hR:R x S1):SP P ro ds c S R RP:=SP.exec hX hc hok h hR
end Go.Vm
end
