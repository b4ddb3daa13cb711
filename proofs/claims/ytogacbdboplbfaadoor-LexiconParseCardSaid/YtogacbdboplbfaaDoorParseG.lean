/- Part 7 of the texts of this claim: the evaluator, and what it says of the program's functions. -/
import Derived.Test.YtogacbdboplbfaaDoorParseF
import Derived.Test.YtogacbdboplbfaaDoorParseB
import Derived.Test.YtogacbdboplbfaaDoorTie
import Derived.Test.YtogacbdboplbfaaDoorCards
import Derived.Lib.LaidU8T
import Derived.Lib.LaidIn
import Derived.Lay
import Derived.SevenTiedAt
import Derived.HandedShaped
import Derived.Shelf.Vars
set_option linter.unusedSectionVars false
set_option linter.unusedVariables false
set_option linter.unusedSimpArgs false
set_option linter.constructorNameAsVariable false
/- Lexicon: the chapter's example holds. -/
section
open Go Go.Vm Go.Proofs
namespace Go.Proofs.Lex
def exT:ByteArray:=⟨#[120,51,32,118,32,98,97,116,32,45]⟩
def exLine:ByteArray:=⟨#[120,49,32,110,32,98,97,116,32,110,111,117,110,32,103,101,110,100,101,114,61,102]⟩
def exA:AV := .list .clip 3 5 [st ⟨#[120,49]⟩,st ⟨#[110]⟩,st ⟨#[98,97,116]⟩,st ⟨#[110,111,117,110]⟩,.list .clip 1 2 [st ⟨#[103,101,110,100,101,114]⟩,st ⟨#[102]⟩],st ⟨#[120,50]⟩,st ⟨#[110]⟩,st ⟨#[116,97,98]⟩,st ⟨#[110,111,117,110]⟩,nil0,st ⟨#[120,51]⟩,st ⟨#[118]⟩,st ⟨#[98,97,116]⟩,st ⟨#[]⟩,nil0]
section
variable [Fixed]
theorem ex_parse:parseL exT=some ex3:=by kernel_rfl
theorem ex_line:lineS ex1=exLine:=by kernel_rfl
theorem ex_dec:aLs.dec exA=some exL:=by kernel_rfl
theorem ex_cats:catsS exL=[⟨#[110]⟩,⟨#[118]⟩]:=by
  have h:catsN exL exL.length=[⟨#[110]⟩,⟨#[118]⟩]:=by kernel_rfl
  unfold catsS
  rw [h]
  unfold sortS
  have h2:([⟨#[110]⟩,⟨#[118]⟩]:List ByteArray).map (·.data.toList)=[[110],[118]]:=by kernel_rfl
  rw [h2]
  have h3:([[110],[118]]:List (List UInt8)).mergeSort leB=[[110],[118]]:=List.mergeSort_of_pairwise (by simp [leB]; decide)
  rw [h3]
  rfl
theorem ex_idx:idxP (fun x=>decide (x.id=⟨#[120,50]⟩)) exL=1:=by kernel_rfl
theorem ex_cat:exL.filter (fun x=>decide (x.cat=⟨#[110]⟩))=[ex1,ex2]:=by kernel_rfl
theorem ex_okPar:okPar exT:=⟨by decide,any_ascii (by decide +kernel) (by decide +kernel)⟩
theorem ex_okLine:okLine ex1:=⟨by decide +kernel,by decide +kernel,by decide +kernel,by decide +kernel,any_ascii (by decide +kernel) (by decide +kernel),fun _=>by decide +kernel,fun _=>by decide +kernel⟩
theorem ex_okLs:okLs exL:=by decide +kernel
abbrev x2S:ByteArray:=⟨#[120,50]⟩
abbrev nS1:ByteArray:=⟨#[110]⟩
theorem s1_dec {α β:Type} {A:Arg α} {B:Arg β} {g:α→β} {ok:α→Prop} [DecidablePred ok] {v:AV} {x:α} (h:A.dec v=some x) (hok:ok x):s1 A B g ok [v]=some (B.enc (g x)):=by
  unfold s1
  rw [sp1_at h,if_pos hok]
/-- What the example asks. -/
def TEx:Go.Vm.Spec:=((((((Go.Vm.Spec.on (fun _ _=>none) 23 (s1 aS aLE (fun s=>resE d0L (parseL s)) fun s=>s=exT)).on 18 (s1 aLs aSss (fun _=>[[ex1.id,ex3.id]]) fun L=>L=exL)).on 28 (sp2 aLs aS fun L s=>if L=exL∧s=x2S then some (aI.enc 1) else none)).on 17 (sp2 aLs aS fun L s=>if L=exL∧s=nS1 then some (aLs.enc [ex1,ex2]) else none)).on 21 (s1 aL aS lineS fun x=>x=ex1)).on 16 (s1 aLs aSs catsS fun L=>L=exL))
theorem call18_ex (hX:ExtOk Tryd.prog X09):CallAt Tryd.prog 18 [aLs.enc exL] [] 0 (aSss.enc [[ex1.id,ex3.id]]) []:=by
  have hC:=vcallL_ok hX (SpecOk.none' (P:=Tryd.prog)) 10 2
  have h:=hom_ex
  cases hv:vbody Tryd.prog X09 (vcallL Tryd.prog X09 (fun _ _=>none) 10 2) 10 fg18 Tryd.f18 (codeOf Tryd.f18) [lexsV exL] [] 0 with
  | none=>rw [hv] at h; cases h
  | some p =>
    rw [hv] at h
    simp only [Option.map_some,Option.some.injEq] at h
    exact run_res (B:=aSss) hX hC (xl09.dom 18 rfl rfl) Tryd.func18 (by kernel_rfl) hv h
theorem TEx_ok (hX:ExtOk Tryd.prog X09):SpecOk Tryd.prog TEx:=by
  refine SpecOk.s1 (SpecOk.s1 (SpecOk.on2 (SpecOk.on2 (SpecOk.s1 (SpecOk.s1 SpecOk.none' fun s hs => ?_) fun L hL => ?_) fun L s r h => ?_) fun L s r h => ?_) fun x hx => ?_) fun L hL => ?_
  · subst hs
    exact call23 hX xm09 ex_okPar
  · subst hL
    exact call18_ex hX
  · split at h
    · rename_i hh
      obtain ⟨rfl,rfl⟩:=hh
      simp only [Option.some.injEq] at h
      subst h
      have:=call28 hX xl09 (L:=exL) (s:=x2S) (by decide)
      rwa [ex_idx] at this
    · cases h
  · split at h
    · rename_i hh
      obtain ⟨rfl,rfl⟩:=hh
      simp only [Option.some.injEq] at h
      subst h
      have:=call17 hX xl09 (L:=exL) (s:=nS1) ex_okLs
      rwa [ex_cat] at this
    · cases h
  · subst hx
    exact call21 hX xm09 ex_okLine
  · subst hL
    exact call16 hX xm09 (by decide)
/-- The chapter's example holds. -/
theorem awake14 (hX:ExtOk Tryd.prog X09):CallAt Tryd.prog 14 [] [] 0 (bo true) []:=by
  have hC:=callerOf_ok (TEx_ok hX)
  have t23 : TEx 23 [st exT] = some (aLE.enc (ex3, 0)) := by
    have:=s1_at (A:=aS) (B:=aLE) (g:=fun s=>resE d0L (parseL s)) (ok:=fun s=>s=exT) (x:=exT) rfl
    simp only [ex_parse] at this
    exact this
  have t18:TEx 18 [exA]=some (aSss.enc [[ex1.id,ex3.id]]):=s1_dec (A:=aLs) (B:=aSss) (g:=fun _=>[[ex1.id,ex3.id]]) (ok:=fun L=>L=exL) ex_dec rfl
  have t28:TEx 28 [exA,st x2S]=some (aI.enc 1):=(sp2_at (A:=aLs) (B:=aS) (g:=fun L s=>if L=exL∧s=x2S then some (aI.enc 1) else none) ex_dec (aS.de x2S)).trans (if_pos ⟨rfl,rfl⟩)
  have t17:TEx 17 [exA,st nS1]=some (aLs.enc [ex1,ex2]):=(sp2_at (A:=aLs) (B:=aS) (g:=fun L s=>if L=exL∧s=nS1 then some (aLs.enc [ex1,ex2]) else none) ex_dec (aS.de nS1)).trans (if_pos ⟨rfl,rfl⟩)
  have d21:aL.dec (.agg [st ⟨#[120,49]⟩,st ⟨#[110]⟩,st ⟨#[98,97,116]⟩,st ⟨#[110,111,117,110]⟩,.list .clip 1 2 [st ⟨#[103,101,110,100,101,114]⟩,st ⟨#[102]⟩]])=some ex1:=by kernel_rfl
  have t21 : TEx 21 [.agg [st ⟨#[120, 49]⟩, st ⟨#[110]⟩, st ⟨#[98, 97, 116]⟩, st ⟨#[110, 111, 117, 110]⟩, .list .clip 1 2 [st ⟨#[103, 101, 110, 100, 101, 114]⟩, st ⟨#[102]⟩]]] = some (aS.enc exLine) := by
    rw [← ex_line]
    exact s1_dec (A:=aL) (B:=aS) (g:=lineS) (ok:=fun x=>x=ex1) d21 rfl
  have t16 : TEx 16 [exA] = some (aSs.enc [⟨#[110]⟩, ⟨#[118]⟩]) := by
    rw [← ex_cats]
    exact s1_dec (A:=aLs) (B:=aSs) (g:=catsS) (ok:=fun L=>L=exL) ex_dec rfl
  have c : ∀ {α : Type} {B : Arg α} {f : FuncId} {vs : List AV} {y : α} (σ : List Ob), lexW f = true → AV.ltAll 0 vs = true → TEx f vs = some (B.enc y) → callv X09 (callerOf TEx) false f vs σ 0 = some (B.enc y, σ) := by
    intro α B f vs y σ hw hl h
    obtain ⟨a1,a2,a3⟩:=xl09.ok f hw
    exact call_on a1 a2 a3 hl h
  have h:=f14_p X09 (callerOf TEx) 0 (c _ rfl rfl t23) (c _ rfl rfl t18) (c _ rfl rfl t28) (c _ rfl rfl t17) (c _ rfl rfl t21) (c _ rfl rfl t16)
  exact run_res (B:=aB) (y:=true) hX hC (xl09.dom 14 rfl rfl) Tryd.func14 (by kernel_rfl) h rfl
end
end Go.Proofs.Lex
end
/- Lexicon: laws over lists of whatever length: a list that is not short is told at once. -/
section
open Go Go.Vm Go.Proofs
namespace Go.Proofs.Lex
section
variable [Fixed] {X:Ext}
/-- The example, and the test of a list. -/
def TB:Go.Vm.Spec:=(Go.Vm.Spec.on (fun _ _=>none) 15 (s1 aLs aB fewL fun L=>L.length ≤ big)).on 14 fun vs=>match vs with
  | []=>some (bo true)
  | _=>none
theorem TB_ok (hX:ExtOk Tryd.prog X) (hL:XL X) (h14:CallAt Tryd.prog 14 [] [] 0 (bo true) []):SpecOk Tryd.prog TB:=by
  refine SpecOk.on (SpecOk.s1 SpecOk.none' fun L h=>call15 hX hL h) fun vs r h => ?_
  split at h
  · simp only [Option.some.injEq] at h
    subst h
    exact h14
  · cases h
variable (hX:ExtOk Tryd.prog X) (hL:XL X) (h14:CallAt Tryd.prog 14 [] [] 0 (bo true) [])
include hX hL h14
end
end Go.Proofs.Lex
end
/- Lexicon: from the readings of a row to lexemes; the tables; what a law's row asks. -/
section
open Go Go.Vm Go.Proofs Go.Proofs.YtogacbdboplbfaaDoor
open Go.RowKit Go.ChangeShapes Go.WideShapes Go.Lib Go.Shelf
namespace Go.Proofs.Lex
abbrev tys:List TypeId:=[3,4,5,9,22,25,31,33,57]
theorem tys_ok:tys.all (Go.Vm.okT Tryd.prog tys)=true:=by kernel_rfl
theorem str_shape {B:Nat} {x:List AV} (hx:Shape Tryd.prog B 9 x):∃ s:ByteArray,x=[.str s]∧s.size ≤ B:=by
  cases hx with
  | str hu s hs=>exact ⟨s,rfl,hs⟩
  | int hu=>rw [Tryd.underlying9] at hu; cases hu
  | bool hu=>rw [Tryd.underlying9] at hu; cases hu
  | slice hu=>rw [Tryd.underlying9] at hu; cases hu
  | struct hu=>rw [Tryd.underlying9] at hu; cases hu
theorem arg_str {B:Nat} {v:AV} (h:ArgIs Tryd.prog B 9 v):∃ s:ByteArray,v=st s∧s.size ≤ B:=by
  obtain ⟨s,hs,h1⟩:=str_shape (h.one Tryd.underlying9 rfl)
  simp only [List.cons.injEq,and_true] at hs
  exact ⟨s,hs,h1⟩
/-! ### the tables, and the variable of which only the kind is known -/
abbrev laidL : List (String × DataW Unit) := [("unicode/utf8.acceptRanges", Rows.laid_unicode_utf8_acceptRanges), ("unicode/utf8.first", Rows.laid_unicode_utf8_first)]
theorem accept_eq:Rows.laid_unicode_utf8_acceptRanges (H:=Unit)=Lib.acceptData:=by kernel_rfl
theorem first_eq:Rows.laid_unicode_utf8_first=Lib.firstData:=by kernel_rfl
theorem tabs_of {W:World} (hL:laidMet Tryd.prog laidL W):Lib.Utf8Tabs 0 1 W:=by
  have h1 : (("unicode/utf8.first", Lib.firstData) : String × DataW Unit) ∈ laidL := by rw [← first_eq]; exact .tail _ (.head _)
  have h2 : (("unicode/utf8.acceptRanges", Lib.acceptData) : String × DataW Unit) ∈ laidL := by rw [← accept_eq]; exact .head _
  exact utf8Tabs_of_readsT (U8Types.of196 Tryd.laysValid) ⟨by kernel_rfl,by kernel_rfl,by kernel_rfl,by kernel_rfl,by kernel_rfl,by kernel_rfl,by kernel_rfl⟩ (Lib.laidMet.reads hL h1) (Lib.laidMet.reads hL h2)
theorem laidOut:laidOutB Tryd.prog=true:=by kernel_rfl
theorem own:ownKnob Tryd.prog.godebug=none:=by kernel_rfl
theorem maxLen_of {W:World} (h:W.ShapedOpen Tryd.prog):∃ m,W.cell? ⟨2,0,none⟩=some (.int .i64 m) :=
  cell_of_shapedOpen_int (t:=3) (zero := #[.int .i64 0]) h (by decide +kernel) (by kernel_rfl) rfl (by kernel_rfl) (by kernel_rfl) Tryd.underlying3
noncomputable def wit (os:Os):World:=World.laidAll Tryd.prog os laidL
theorem wit_met (os:Os) (args:Array Value):laidMet Tryd.prog laidL ((wit os).forCall (fun _ _=>0) ⟨#[],args,[]⟩).memory :=
  laidMet_laidAll args (by kernel_rfl) (by kernel_rfl)
theorem laidH {W:World} (h:laidMet Tryd.prog laidL W):laidMetH Tryd.prog laidL W:=by
  have e:(laidL.filter fun x=>x.2.handleName?.isSome)=[]:=by kernel_rfl
  unfold laidMetH
  rw [e]
  exact h
theorem laidH_of {W:World} (h:laidMetH Tryd.prog laidL W):laidMet Tryd.prog laidL W:=by
  have e:(laidL.filter fun x=>x.2.handleName?.isSome)=[]:=by kernel_rfl
  unfold laidMetH at h
  rw [e] at h
  exact h
section
variable {H:Type} {enc:TypeId × Value→H}
/-- A row's wrap that keeps both the conditions on what lies laid and the world's shape. -/
theorem returns_and_shaped {a:Assume} {C:Checked} {os:Os} {f:FuncId} {fn:Func} {s:ChangeSpec} {conds:List PathCond} {apart fresh handsOn again:Bool} {X:World→Array Value→Prop}
    (hX:∀ (w w' : World) (args:Array Value),w.heap=w'.heap→X w args→X w' args)
    (own:ownKnob C.prog.godebug=none) (started:os.Started) (noInit:C.prog.inits.idxOf? f=none) (hfn:C.prog.funcs[f]? = some fn)
    (witness : ∃ (w : World) (tape : Tape) (i : Input), w.os = os ∧ (w.forCall tape i).Shaped C.prog ∧ i.vars = [] ∧ Input.okWide C.prog (w.forCall tape i) .any w.heap.size f i ∧
      ((s.pre enc C.prog fn conds apart (w.forCall tape i).memory i.args∧X (w.forCall tape i).memory i.args)∧sizedMet enc C.prog fn (OpenSpec.ofChange s) apart (w.forCall tape i).memory i.args)∧a.holds C.prog (lone (Frame.enter C.prog f i.args .normal) [] (w.forCall tape i)))
    (contract : ∀ (W : World) (base : Nat) (args : Array Value) (ds gs : List (DataW H)) (before : List MemPlace),
      (∀ (j:Nat) t v,fn.params[j]? = some t→args[j]? = some v→Value.okWide C.prog W .any base t v) →
      DataW.Whole enc C.prog fn.params.toList s.vars apart W args.toList ds gs before →
      (DataW.weightsEach C.prog (fn.params.toList ++ s.plain.varTypes C.prog) (ds ++ gs)).all (· ≤ reachBytes)=true→X W args→W.ShapedOpen C.prog →
      Calls C.prog f args W fun e W' => ∃ v,e = .returned v∧s.post enc C.prog fn apart fresh handsOn again W args v W') :
    ReturnsInHanded a C os f .any (fun w args=>(s.pre enc C.prog fn conds apart w args∧X w args)∧sizedMet enc C.prog fn (OpenSpec.ofChange s) apart w args) (s.post enc C.prog fn apart fresh handsOn again):=by
  refine returnsInHanded_of_calls own started noInit witness ?_
  intro w tape i _ hsh _ hok hpre _
  obtain ⟨_,_,_,fn',hfn',_,_,_,_,hval⟩:=hok
  have e:fn' = fn:=Option.some.inj (hfn'.symm.trans hfn)
  subst e
  obtain ⟨⟨⟨ds,gs,before,hw,_⟩,hx⟩,hz⟩:=hpre
  have hw' := DataW.Whole.of_heap (w' := w.forCall tape i) (by rfl) hw
  refine (contract (w.forCall tape i) w.heap.size i.args ds gs before hval hw' (hz.weights hw) (hX _ _ _ (by rfl) hx) hsh).mono fun e W' ⟨v,he,hp⟩ => ?_
  subst he
  exact ChangeSpec.post_blind hp
end
end Go.Proofs.Lex
end
