/- Part 6 of the texts of this claim: the evaluator, and what it says of the program's functions. -/
import Derived.Test.YtogacbdboplbfaaDoorOwnE
import Derived.Test.YtogacbdboplbfaaDoorOwnC
import Derived.Test.YtogacbdboplbfaaDoorOwnD
import Derived.WalkKit
import Derived.Lib.Walk
import Derived.Lib.SliceRun
import Derived.Test.YtogacbdboplbfaaDoorOwnB
import Derived.KernelRfl
set_option linter.unusedSectionVars false
set_option linter.unusedVariables false
set_option linter.unusedSimpArgs false
set_option linter.constructorNameAsVariable false
/- Lexicon: the functions that are walked; Clip, copied. -/
section
open Go Go.Vm Go.Proofs
namespace Go.Proofs.Lex
/-- alphabet.indices: each letter's box is read by value. -/
def fg92:Nat→List Nat
  | 4=>[14,15,16,17]
  | 5=>[18,19,20,21,22,23,24,25,26]
  | 7=>[27,28,29,30]
  | 8=>[31]
  | 5004=>[1]
  | _=>[]
def fgX (f:FuncId):Nat→List Nat:=if f=40 then fg40 else if f=64 then fg64 else if f=48 then fg48 else if f=92 then fg92 else noFg
/-- Which functions are walked. -/
def lexW (f:FuncId):Bool:=Nat.blt 2 f && Nat.blt f 115 && !(f == 39 || f == 53 || f == 55 || f == 84 || f == 44 || f == 93 || f == 80 || f == 110)
structure XL (X:Ext):Prop where
  ok:∀ f,lexW f=true→X.pureFn f=none∧X.stFn f=none∧X.adopt f=false
  dom:∀ f,Nat.blt 2 f=true→Nat.blt f 115=true→X.dom f=true
  fg:∀ f,X.fg f=fgX f
  chk:X.pureFn 110=none∧X.stFn 110=some (bldCheck 91)
  str:X.pureFn 80=none∧X.stFn 80=some (bldString 5)
section
variable [Fixed] {X:Ext}
theorem clip87 (hX:ExtOk Tryd.prog X) (hL:XL X) (F:List Feat):CallAt Tryd.prog 87 [aFs.enc F] [] 0 (aFs.enc F) []:=by
  have hC:CallOk Tryd.prog (callerOf fun _ _=>none):=callerOf_ok SpecOk.none'
  have h:=f87_p F X (callerOf fun _ _=>none) 0 _ _ _ _ _ (slc_all Tryd.underlying31 cells57 info57 (flat_len featC_len F) (owns_feats F)) (vend1_plain (by simp only [AV.ownsAll,AV.owns,owns_feats,List.append_nil]))
  refine run_res (B:=aFs) (y:=F) hX hC (hL.dom 87 rfl rfl) Tryd.func87 (by kernel_rfl) h ?_
  have:=aFs.de F
  exact this
def T0:Go.Vm.Spec:=Go.Vm.Spec.on (Go.Vm.Spec.on (fun _ _=>none) 87 (sp1 aFs fun F=>some (aFs.enc F))) 88 (sp1 aFs fun F=>if F.length * 33 ≤ big then some (aFs.enc F) else none)
theorem T0_ok (hX:ExtOk Tryd.prog X) (hL:XL X):SpecOk Tryd.prog T0:=by
  refine SpecOk.on1 (SpecOk.on1 SpecOk.none' fun F r h => ?_) fun F r h => ?_
  · simp only [Option.some.injEq] at h
    subst h
    exact clip87 hX hL F
  · split at h
    · rename_i hF
      simp only [Option.some.injEq] at h
      subst h
      exact clone88 hX hF
    · cases h
/-- A lexeme that a machine can bear. -/
abbrev okL (x:Lexm):Prop:=x.feats.length * 33 ≤ big
abbrev okLs (L:List Lexm):Prop:=L.length * 89 ≤ big∧∀ x ∈ L,okL x
theorem copied61 (hX:ExtOk Tryd.prog X) (hL:XL X) {x:Lexm} (h:okL x):CallAt Tryd.prog 61 [aL.enc x] [] 0 (aL.enc x) []:=by
  have hC:CallOk Tryd.prog (callerOf T0):=callerOf_ok (T0_ok hX hL)
  have h8 : T0 88 [aFs.enc x.feats] = some (aFs.enc x.feats) := by
    show sp1 aFs (fun F=>if F.length * 33 ≤ big then some (aFs.enc F) else none) [aFs.enc x.feats]=_
    rw [sp1_at (aFs.de _),if_pos h]
  have h7 : T0 87 [aFs.enc x.feats] = some (aFs.enc x.feats) := by
    show sp1 aFs (fun F=>some (aFs.enc F)) [aFs.enc x.feats]=_
    rw [sp1_at (aFs.de _)]
  obtain ⟨a1,a2,a3⟩:=hL.ok 88 rfl
  obtain ⟨b1,b2,b3⟩:=hL.ok 87 rfl
  have hlt:AV.ltAll 0 [aFs.enc x.feats]=true:=by simp only [AV.ltAll,aFs.lt,Bool.and_self]
  have hv:=f61_p x X (callerOf T0) 0 _ _ _ _ (call_on (B:=aFs) a1 a2 a3 hlt h8) (call_on (B:=aFs) b1 b2 b3 hlt h7) (vend1_plain (by show AV.ownsAll (lexC x) ++ []=[]; rw [owns_lex]; rfl))
  exact run_res (B:=aL) (y:=x) hX hC (hL.dom 61 rfl rfl) Tryd.func61 (by kernel_rfl) hv (aL.de x)
def T1:Go.Vm.Spec:=Go.Vm.Spec.on T0 61 (sp1 aL fun x=>if okL x then some (aL.enc x) else none)
theorem T1_ok (hX:ExtOk Tryd.prog X) (hL:XL X):SpecOk Tryd.prog T1:=by
  refine SpecOk.on1 (T0_ok hX hL) fun x r h => ?_
  split at h
  · rename_i hx
    simp only [Option.some.injEq] at h
    subst h
    exact copied61 hX hL hx
  · cases h
end
end Go.Proofs.Lex
end
/- Lexicon: the library's functions, as functions that are not walked. -/
section
open Go Go.Vm Go.Proofs
open Go.RowKit (Below)
namespace Go.Proofs.Lex
def lim:Nat:=4294967281
def validFn:List AV→Option AV
  | [.str s]=>if s.size ≤ 9223372036854775807 then some (.bool (Lib.validD s.data.toList)) else none
  | _=>none
def cutFn:List AV→Option AV
  | [.str s,.str sep]=>if s.size < lim then some (.tup [.str ⟨(Lib.cut s.data.toList sep.data.toList).1.toArray⟩,.str ⟨(Lib.cut s.data.toList sep.data.toList).2.1.toArray⟩,.bool (Lib.cut s.data.toList sep.data.toList).2.2]) else none
  | _=>none
def asciiB (s:ByteArray):Bool:=s.data.toList.all fun b=>decide (b.toNat < 128)
def anyFn:List AV→Option AV
  | [.str s,.str cs]=>if s.size < lim∧cs=⟨#[32,10]⟩ then some (.bool (Lib.containsAny s.data.toList cs.data.toList)) else none
  | _=>none
def joinB (l:List ByteArray) (sep:ByteArray):List UInt8:=Lib.join (l.map (·.data.toList)) sep.data.toList
section
variable [Fixed]
theorem two_str {C:Ctx} {w:World} {s t:ByteArray} {us:List Value} (h:RepAll C w [.str s,.str t] us):us=[.string s,.string t]:=by
  match us,h with
  | [],h=>simp only [RepAll] at h
  | [_],h=>simp only [RepAll,and_false] at h
  | [u,v],h=>simp only [RepAll,Rep,and_true] at h; rw [h.1,h.2]
  | _::_::_::_,h=>simp only [RepAll,and_false] at h
/-- What a function that is not walked answers. -/
def PureAt (f:FuncId) (g:List AV→Option AV):Prop:=∀ vs r,AV.ltAll 0 vs=true→g vs=some r→∀ (C:Ctx) (w:World) (us:List Value),SOk C w→RepAll C w vs us →
    Calls Tryd.prog f us.toArray w fun e w' => ∃ u,e = .returned u∧w'.os=w.os∧w'.tape=w.tape∧w'.output=w.output∧w.heap.size ≤ w'.heap.size∧(∀ x,x < w.heap.size→w'.heap[x]? = w.heap[x]?)∧Rep C w' r u
theorem pure93 (hT:∀ (C:Ctx) (w:World),SOk C w→Lib.Utf8Tabs 0 1 w):PureAt 93 validFn:=by
  intro vs r hlt hr C w us hs hrep
  clear hlt
  unfold validFn at hr
  split at hr
  · rename_i s
    split at hr
    · rename_i hsz
      simp only [Option.some.injEq] at hr
      subst hr
      have e : us = [.string s] := by
        match us,hrep with
        | [],h=>simp only [RepAll] at h
        | [u],h=>simp only [RepAll,Rep,and_true] at h; rw [h]
        | _::_::_,h=>simp only [RepAll,and_false] at h
      subst e
      refine Calls.mono (Any.utf8_ValidString Tryd.laysValid s w hsz (hT C w hs)) ?_
      rintro e w' ⟨rfl,hb⟩
      exact ⟨_,rfl,hb.os,hb.tape,hb.output,hb.size,hb.block,rfl⟩
    · cases hr
  · cases hr
theorem pure84 (hM:∀ (C:Ctx) (w:World),SOk C w→∃ m,w.cell? ⟨2,0,none⟩=some (.int .i64 m)):PureAt 84 cutFn:=by
  intro vs r hlt hr C w us hs hrep
  clear hlt
  unfold cutFn at hr
  split at hr
  · rename_i s sep
    split at hr
    · rename_i hsz
      simp only [Option.some.injEq] at hr
      subst hr
      have e:=two_str hrep
      subst e
      obtain ⟨m,hm⟩:=hM C w hs
      refine Calls.mono (Any.strings_Cut Tryd.laysCut s sep m w hsz hm) ?_
      rintro e w' ⟨rfl,n,rfl⟩
      refine ⟨_,rfl,rfl,rfl,rfl,Nat.le_refl _,fun _ _=>rfl,?_⟩
      simp only [Rep]
      refine ⟨_,rfl,?_⟩
      simp only [RepAll,Rep,and_self]
    · cases hr
  · cases hr
theorem pure44:PureAt 44 anyFn:=by
  intro vs r hlt hr C w us hs hrep
  clear hlt
  unfold anyFn at hr
  split at hr
  · rename_i s cs
    split at hr
    · rename_i hc
      simp only [Option.some.injEq] at hr
      subst hr
      have e:=two_str hrep
      subst e
      obtain ⟨hc1,rfl⟩:=hc
      refine Calls.mono (containsAny_bn s w hc1) ?_
      rintro e w' ⟨rfl,hb⟩
      exact ⟨_,rfl,hb.os,hb.tape,hb.output,hb.size,hb.block,by simp only [Rep]⟩
    · cases hr
  · cases hr
theorem plainA:Plain Value.string AV.str:=⟨fun C w x=>by simp only [Rep],fun C w x u h=>by simpa only [Rep] using h,fun _=>rfl⟩
theorem rep_row {C:Ctx} {w:World} {l:List ByteArray} {u:Value} (hr:Rep C w (Go.Vm.strs l) u) :
    ∃ p c,u = .slice p l.length c∧l.length ≤ c∧(0 < l.length→∃ bk o,p=some ⟨bk,o,none⟩∧bk < w.heap.size∧∀ (j:Nat) x,l[j]? = some x→w.cell? ⟨bk,o + j,none⟩=some (.string x)):=by
  unfold Go.Vm.strs at hr
  simp only [Rep] at hr
  obtain ⟨_,_,a,cap,rfl,h3,_,_,_,h7⟩:=hr
  refine ⟨a,cap,rfl,h3,fun h0 => ?_⟩
  obtain ⟨b,o,us,rfl,hb,_,hh,hrep⟩:=h7 h0
  refine ⟨b,o,rfl,hb,fun j x hx => ?_⟩
  have hu:us=l.map Value.string:=plainA.allBack l us hrep
  subst hu
  exact hh j _ (by rw [List.getElem?_map,hx]; rfl)
def joinFn:List AV→Option AV
  | [a, .str sep] => match aSs.dec a with
    | some l=>if l.length ≤ 140737488355328∧(joinB l sep).length ≤ 140737488355328 then some (.str ⟨(joinB l sep).toArray⟩) else none
    | none=>none
  | _=>none
theorem row_str {C:Ctx} {w:World} {a:AV} {t:ByteArray} {us:List Value} (h:RepAll C w [a,.str t] us):∃ u,us=[u,.string t]∧Rep C w a u:=by
  match us,h with
  | [],h=>simp only [RepAll] at h
  | [_],h=>simp only [RepAll,and_false] at h
  | [u,v],h=>simp only [RepAll,Rep,and_true] at h; exact ⟨u,by rw [h.2],h.1⟩
  | _::_::_::_,h=>simp only [RepAll,and_false] at h
theorem pure55:PureAt 55 joinFn:=by
  intro vs r hlt hr C w us hs hrep
  clear hlt
  unfold joinFn at hr
  split at hr
  · rename_i a sep
    split at hr
    · rename_i l hl
      split at hr
      · rename_i hc
        simp only [Option.some.injEq] at hr
        subst hr
        obtain ⟨u,rfl,hu⟩:=row_str hrep
        have hu:=aSs.rep C w a u l hl hu
        rw [aSs_enc] at hu
        obtain ⟨p,c,rfl,h3,h4⟩:=rep_row hu
        by_cases h0:0 < l.length
        · obtain ⟨bk, o, rfl, hb, hcells⟩ := h4 h0
          refine Calls.mono (Any.strings_Join Tryd.laysJoin Tryd.joinExtra bk o c l sep w hcells hb hc.1 h3 hc.2) ?_
          rintro e w' ⟨rfl,hb⟩
          exact ⟨_,rfl,hb.os,hb.tape,hb.output,hb.size,fun x hx=>hb.block x hx,by simp only [Rep]; rfl⟩
        · have : l = [] := List.eq_nil_of_length_eq_zero (by omega)
          subst this
          refine Calls.mono (Any.strings_Join_none Tryd.laysJoin Tryd.joinExtra p c sep w) ?_
          rintro e w' ⟨rfl,rfl⟩
          exact ⟨_,rfl,rfl,rfl,rfl,Nat.le_refl _,fun _ _=>rfl,by simp only [Rep]; rfl⟩
      · cases hr
    · cases hr
  · cases hr
def splitL (s sep:ByteArray):List ByteArray:=Lib.splitB sep 0 (Lib.countB s sep) s
def splitFn:List AV→Option AV
  | [.str s,.str sep]=>if s.size < lim∧1 ≤ sep.size then some (Go.Vm.strs (splitL s sep)) else none
  | _=>none
theorem info9s:(Tryd.prog.info? 9).map (fun i=>(i.zero,i.size,i.bytes))=some (some (.string ByteArray.empty),1,16):=by kernel_rfl
theorem mut_fresh {C:Ctx} {w:World} (hs:SOk C w) : ¬ Mut C w.heap.size:=by
  rintro (h | ⟨id,o,h,hl,e⟩)
  · exact absurd (hs.fb _ h) (by omega)
  · have := hs.blk id o h hl
    omega
theorem pure53 (hM:∀ (C:Ctx) (w:World),SOk C w→∃ m,w.cell? ⟨2,0,none⟩=some (.int .i64 m)):PureAt 53 splitFn:=by
  intro vs r hlt hr C w us hs hrep
  clear hlt
  unfold splitFn at hr
  split at hr
  · rename_i s sep
    split at hr
    · rename_i hc
      simp only [Option.some.injEq] at hr
      subst hr
      have e:=two_str hrep
      subst e
      obtain ⟨m,hm⟩:=hM C w hs
      have hlen:(splitL s sep).length=Lib.countB s sep + 1:=Lib.splitB_all sep hc.2 0 _ s rfl
      refine Calls.mono (Any.strings_Split Tryd.laysSplit info9s s sep m w hc.1 hm hc.2) ?_
      rintro e w' ⟨rfl,rfl⟩
      have hsz:(w.alloc (.cells ((splitL s sep).map Value.string).toArray 9)).heap.size=w.heap.size + 1:=Array.size_push _
      have hnew:(w.alloc (.cells ((splitL s sep).map Value.string).toArray 9)).heap[w.heap.size]? = some (.cells ((splitL s sep).map Value.string).toArray 9):=Array.getElem?_push_size
      have hle:=Lib.countB_le sep hc.2 s.size s (Nat.le_refl _)
      have hlim:s.size < 4294967281:=hc.1
      refine ⟨_,rfl,rfl,rfl,rfl,Nat.le_trans (Nat.le_succ _) (Nat.le_of_eq hsz.symm),fun x hx=>Array.getElem?_push_lt hx |>.trans (Array.getElem?_eq_getElem hx).symm,?_⟩
      rw [← hlen]
      unfold Go.Vm.strs
      simp only [Rep]
      refine ⟨by simp,one_strs _,some ⟨w.heap.size,0,none⟩,_,rfl,Nat.le_refl _,?_,by simp,by simp,fun _ => ?_⟩
      · show _ ≤ maxLen
        rw [hlen]
        unfold maxLen
        omega
      · refine ⟨w.heap.size, 0, (splitL s sep).map Value.string, rfl, Nat.lt_of_lt_of_le (Nat.lt_succ_self _) (Nat.le_of_eq hsz.symm), mut_fresh hs, ?_, ?_⟩
        · intro i x hi
          show World.cell? _ _=_
          unfold World.cell?
          simp only
          rw [show (w.alloc (.cells ((Lib.splitB sep 0 (Lib.countB s sep) s).map Value.string).toArray (Tryd.laysSplit_ren.t 9))).heap[w.heap.size]? = some (.cells ((splitL s sep).map Value.string).toArray 9) from hnew]
          simpa using hi
        · exact plainA.all C _ (splitL s sep)
    · cases hr
  · cases hr
end
end Go.Proofs.Lex
end
/- Lexicon: Category, Stem, With (printed) -/
section
open Go Go.Vm Go.Proofs
namespace Go.Proofs.Lex
theorem f17_p (L0:List Lexm)(s0:ByteArray)(v7:AV)(X:Ext)(call:Caller)(lf:Nat)(rE:AV)(sE:List Ob)
 (h0:callv X call false 40 [lro L0.length 5 (List.flatMap lexC L0),AV.clo 41 [AV.ref 0 0]] [Ob.cells [st s0]] 0=some (v7,[Ob.cells [st s0]]))
 (h1:vend1 [] 0 [Ob.cells [st s0]] [v7]=some (rE,sE)):vbody Tryd.prog X call lf noFg Tryd.f17 (codeOf Tryd.f17) [lexsV L0,st s0] [] 0=some (rE,sE) :=
  along_sound (ans:=[(6,Ans.v v7),(8,Ans.c rE sE)]) (by kernel_rfl) (ai h0 (ai h1 trivial))
theorem f33_p (L0:List Lexm)(s0:ByteArray)(v7:AV)(X:Ext)(call:Caller)(lf:Nat)(rE:AV)(sE:List Ob)
 (h0:callv X call false 40 [lro L0.length 5 (List.flatMap lexC L0),AV.clo 66 [AV.ref 0 0]] [Ob.cells [st s0]] 0=some (v7,[Ob.cells [st s0]]))
 (h1:vend1 [] 0 [Ob.cells [st s0]] [v7]=some (rE,sE)):vbody Tryd.prog X call lf noFg Tryd.f33 (codeOf Tryd.f33) [lexsV L0,st s0] [] 0=some (rE,sE) :=
  along_sound (ans:=[(6,Ans.v v7),(8,Ans.c rE sE)]) (by kernel_rfl) (ai h0 (ai h1 trivial))
end Go.Proofs.Lex
end
/- Lexicon: what selects lexemes. -/
section
open Go Go.Vm Go.Proofs
namespace Go.Proofs.Lex
section
variable [Fixed] {X:Ext} {lf k:Nat}
theorem thaw_ref {σ:List Ob} {v:AV} (h:AV.owns v=[]):AV.thawAll σ [v,.ref 0 0]=some [v,.ref 0 0]:=thawAll_id _ (by simp only [AV.ownsAll,AV.owns,h,List.append_nil])
theorem take_more {o:Ob} {τ σ:List Ob}:((o::τ) ++ σ).take (o::τ).length=o::τ:=by simp
/-- A closure over lexemes, called. -/
theorem clo_call (hL:XL X) {T:Go.Vm.Spec} {G:Nat} {fn:Func} {c:List AV} {x:Lexm} {τ:List Ob} {b:Bool} (hw:lexW G=true) (h1:Nat.blt 2 G=true) (h2:Nat.blt G 115=true) (hf:Tryd.prog.funcs[G]? = some fn) (hb:fn.body=some (codeOf fn))
    (hs:ltObs (τ.length + 1) (Ob.cells c::τ)=true)
    (h:∃ σ,vbody Tryd.prog X (vcallL Tryd.prog X T lf k) lf (fgX G) fn (codeOf fn) [.agg (lexC x),.ref 0 0] (Ob.cells c::τ) 0=some (bo b,(Ob.cells c::τ) ++ σ)) :
    callv X (vcallL Tryd.prog X T lf (k + 1)) false G [.agg (lexC x),.ref 0 0] (Ob.cells c::τ) 0=some (bo b,Ob.cells c::τ):=by
  obtain ⟨σ,h⟩:=h
  obtain ⟨a1,a2,-⟩:=hL.ok G hw
  have hw:=vcallL_walk (T:=T) (hL.dom G h1 h2) hf hb (by rw [hL.fg]; exact h)
  have:=callv_ref (X:=X) a1 a2 (by simp [AV.ltAll,AV.lt,show Nat.blt 0 0=false from rfl]) (thaw_ref (by simp only [AV.owns]; exact owns_lex x)) hw (by rfl) (by rw [take_more]; exact hs)
  rw [take_more] at this
  exact this
theorem T1_61 (x:Lexm) (h:okL x):T1 61 [aL.enc x]=some (aL.enc x):=by
  show sp1 aL (fun x=>if okL x then some (aL.enc x) else none) [aL.enc x]=_
  rw [sp1_at (aL.de _),if_pos h]
/-- lexicon.filter, called with a closure. -/
theorem sel40 (hL:XL X) {T:Go.Vm.Spec} (hT:∀ x,okL x→T 61 [aL.enc x]=some (aL.enc x)) {L:List Lexm} {G:Nat} {fn:Func} {c:List AV} {p:Lexm→Bool} (hok:okLs L) (hlf:L.length < lf) (hc:AV.ltAll 0 c=true) (hw:lexW G=true) (h1:Nat.blt 2 G=true) (h2:Nat.blt G 115=true) (hf:Tryd.prog.funcs[G]? = some fn) (hb:fn.body=some (codeOf fn))
    (h:∀ x τ,x ∈ L→(τ=[] ∨ ∃ o,τ=[o])→∃ σ,vbody Tryd.prog X (vcallL Tryd.prog X T lf k) lf (fgX G) fn (codeOf fn) [.agg (lexC x),.ref 0 0] (Ob.cells c::τ) 0=some (bo (p x),(Ob.cells c::τ) ++ σ)) :
    ∃ v,callv X (vcallL Tryd.prog X T lf (k + 2)) false 40 [lexsV L,.clo G [.ref 0 0]] [Ob.cells c] 0=some (v,[Ob.cells c])∧aLs.dec v=some (L.filter p)∧AV.owns v=[]:=by
  have hmem:∀ i,i < L.length→nL L i ∈ L:=fun i hi=>by rw [nL,getD_lt hi]; exact List.getElem_mem hi
  obtain ⟨r, σ', h3, h4, h5⟩ := filter40 (X := X) (call := vcallL Tryd.prog X T lf (k + 1)) (L := L) (G := G) (c := c) (p := p) hok.1 hlf hc
    (fun i τ hi ht hs=>clo_call hL hw h1 h2 hf hb hs (h _ τ (hmem i hi) ht))
    (fun i σ hi => by
      obtain ⟨a1,a2,a3⟩:=hL.ok 61 rfl
      refine call_onL (B:=aL) (y:=nL L i) a1 a2 a3 (by simp only [AV.ltAll,AV.lt,Bool.and_true]; exact cL.lt _) ?_
      exact hT _ (hok.2 _ (hmem i hi)))
  obtain ⟨a1,a2,-⟩:=hL.ok 40 rfl
  have hw:=vcallL_walk (T:=T) (hL.dom 40 rfl rfl) Tryd.func40 (show Tryd.f40.body=some (codeOf Tryd.f40) by kernel_rfl) (by rw [hL.fg]; exact h3)
  have hlt:AV.lt 0 r=true:=aLs.declt _ _ h4
  have hs:ltObs 1 [Ob.cells c]=true:=by simp only [ltObs,ltAll_up (Nat.zero_le _) c hc,Bool.and_self]
  have:=callv_ref (X:=X) a1 a2 (by simp [AV.ltAll,AV.lt,show Nat.blt 0 0=false from rfl]) (thawAll_id _ (by simp only [AV.ownsAll,AV.owns,List.append_nil]; exact owns_lexs L)) hw (lt_up (Nat.zero_le _) r hlt) (by rw [take_more]; exact hs)
  rw [take_more] at this
  refine ⟨unfr r,this,?_,?_⟩
  · cases r <;> first | exact h4 | skip
    · rename_i kk _ _ _
      cases kk <;> exact h4
    · cases h4
  · cases r <;> first | exact h5 | skip
    · rename_i kk _ _ _
      cases kk <;> exact h5
    · cases h4
end
end Go.Proofs.Lex
end
/- Lexicon: Category, Stem, Index. -/
section
open Go Go.Vm Go.Proofs
namespace Go.Proofs.Lex
section
variable {X:Ext} {call:Caller} {lf:Nat}
theorem cat41 (x:Lexm) (s:ByteArray) (τ:List Ob) (ht:τ=[] ∨ ∃ o,τ=[o]):∃ σ,vbody Tryd.prog X call lf noFg Tryd.f41 (codeOf Tryd.f41) [.agg (lexC x),.ref 0 0] (Ob.cells [st s]::τ) 0=some (bo (decide (x.cat=s)),(Ob.cells [st s]::τ) ++ σ):=by
  by_cases e:x.cat=s
  · rw [decide_eq_true e]
    rcases ht with rfl | ⟨o,rfl⟩
    · exact ⟨[_],(f41_P0 x s X call lf).1 (by unfold f41_q0; rw [eqB_iff.2 e])⟩
    · exact ⟨[_],(f41b_P0 x s o X call lf).1 (by unfold f41b_q0; rw [eqB_iff.2 e])⟩
  · rw [decide_eq_false e]
    rcases ht with rfl | ⟨o,rfl⟩
    · exact ⟨[_],(f41_P0 x s X call lf).2 (by unfold f41_q0; rw [eqB_ne.2 e])⟩
    · exact ⟨[_],(f41b_P0 x s o X call lf).2 (by unfold f41b_q0; rw [eqB_ne.2 e])⟩
theorem stem66 (x:Lexm) (s:ByteArray) (τ:List Ob) (ht:τ=[] ∨ ∃ o,τ=[o]):∃ σ,vbody Tryd.prog X call lf noFg Tryd.f66 (codeOf Tryd.f66) [.agg (lexC x),.ref 0 0] (Ob.cells [st s]::τ) 0=some (bo (decide (x.stem=s)),(Ob.cells [st s]::τ) ++ σ):=by
  by_cases e:x.stem=s
  · rw [decide_eq_true e]
    rcases ht with rfl | ⟨o,rfl⟩
    · exact ⟨[_],(f66_P0 x s X call lf).1 (by unfold f66_q0; rw [eqB_iff.2 e])⟩
    · exact ⟨[_],(f66b_P0 x s o X call lf).1 (by unfold f66b_q0; rw [eqB_iff.2 e])⟩
  · rw [decide_eq_false e]
    rcases ht with rfl | ⟨o,rfl⟩
    · exact ⟨[_],(f66_P0 x s X call lf).2 (by unfold f66_q0; rw [eqB_ne.2 e])⟩
    · exact ⟨[_],(f66b_P0 x s o X call lf).2 (by unfold f66b_q0; rw [eqB_ne.2 e])⟩
theorem id63 (x:Lexm) (s:ByteArray):∃ σ,vbody Tryd.prog X call lf noFg Tryd.f63 (codeOf Tryd.f63) [.agg (lexC x),.ref 0 0] [Ob.cells [st s]] 0=some (bo (decide (x.id=s)),[Ob.cells [st s]] ++ σ):=by
  by_cases e:x.id=s
  · rw [decide_eq_true e]
    exact ⟨[_],(f63_P0 x s X call lf).1 (by unfold f63_q0; rw [eqB_iff.2 e])⟩
  · rw [decide_eq_false e]
    exact ⟨[_],(f63_P0 x s X call lf).2 (by unfold f63_q0; rw [eqB_ne.2 e])⟩
end
section
variable [Fixed] {X:Ext}
theorem endV {σ:List Ob} {v:AV} {L:List Lexm} (hd:aLs.dec v=some L) (ho:AV.owns v=[]):∃ r,vend1 [] 0 σ [v]=some (r,σ)∧aLs.dec r=some L:=by
  refine ⟨unfr v,vend1_plain (by simp only [AV.ownsAll,ho,List.append_nil]),?_⟩
  cases v <;> first | exact hd | skip
  · rename_i kk _ _ _
    cases kk <;> exact hd
  · cases hd
theorem call17 (hX:ExtOk Tryd.prog X) (hL:XL X) {L:List Lexm} {s:ByteArray} (hok:okLs L):CallAt Tryd.prog 17 [aLs.enc L,aS.enc s] [] 0 (aLs.enc (L.filter fun x=>decide (x.cat=s))) []:=by
  have hC:=vcallL_ok hX (T1_ok hX hL) (L.length + 1) 2
  obtain ⟨v,h1,h2,h3⟩:=sel40 (k:=0) (lf:=L.length + 1) (X:=X) (c:=[st s]) (p:=fun x=>decide (x.cat=s)) hL T1_61 hok (by omega) rfl (G:=41) rfl rfl rfl Tryd.func41 (by kernel_rfl) (fun x τ _ ht=>cat41 x s τ ht)
  obtain ⟨r,h4,h5⟩:=endV (σ:=[Ob.cells [st s]]) h2 h3
  exact run_res (B:=aLs) hX hC (hL.dom 17 rfl rfl) Tryd.func17 (by kernel_rfl) (f17_p L s v X _ 0 _ _ h1 h4) h5
theorem call33 (hX:ExtOk Tryd.prog X) (hL:XL X) {L:List Lexm} {s:ByteArray} (hok:okLs L):CallAt Tryd.prog 33 [aLs.enc L,aS.enc s] [] 0 (aLs.enc (L.filter fun x=>decide (x.stem=s))) []:=by
  have hC:=vcallL_ok hX (T1_ok hX hL) (L.length + 1) 2
  obtain ⟨v,h1,h2,h3⟩:=sel40 (k:=0) (lf:=L.length + 1) (X:=X) (c:=[st s]) (p:=fun x=>decide (x.stem=s)) hL T1_61 hok (by omega) rfl (G:=66) rfl rfl rfl Tryd.func66 (by kernel_rfl) (fun x τ _ ht=>stem66 x s τ ht)
  obtain ⟨r,h4,h5⟩:=endV (σ:=[Ob.cells [st s]]) h2 h3
  exact run_res (B:=aLs) hX hC (hL.dom 33 rfl rfl) Tryd.func33 (by kernel_rfl) (f33_p L s v X _ 0 _ _ h1 h4) h5
/-- lexicon.Index. -/
theorem call28 (hX:ExtOk Tryd.prog X) (hL:XL X) {L:List Lexm} {s:ByteArray} (hl:L.length ≤ big):CallAt Tryd.prog 28 [aLs.enc L,aS.enc s] [] 0 (aI.enc (idxP (fun x=>decide (x.id=s)) L)) []:=by
  have hC:=vcallL_ok hX (T1_ok hX hL) (L.length + 1) 2
  have h62 := index62 (X := X) (call := vcallL Tryd.prog X T1 (L.length + 1) 1) (lf := L.length + 1) (L := L) (g := 63) (c := st s) (p := fun x => decide (x.id = s)) hl (by omega)
    (fun i _=>clo_call hL rfl rfl rfl Tryd.func63 (by kernel_rfl) rfl (id63 (nL L i) s))
  obtain ⟨a1,a2,-⟩:=hL.ok 62 rfl
  have hw:=vcallL_walk (T:=T1) (hL.dom 62 rfl rfl) Tryd.func62 (show Tryd.f62.body=some (codeOf Tryd.f62) by kernel_rfl) (by rw [hL.fg]; exact h62)
  have:=callv_ref (X:=X) a1 a2 (by simp [AV.ltAll,AV.lt,show Nat.blt 0 0=false from rfl]) (thawAll_id _ (by simp only [AV.ownsAll,AV.owns,List.append_nil]; exact owns_lexs L)) hw rfl rfl
  exact run_res (B:=aI) hX hC (hL.dom 28 rfl rfl) Tryd.func28 (by kernel_rfl) (f28_p L s X _ 0 _ this) (aI.de _)
end
end Go.Proofs.Lex
end
/- Lexicon: a feature among features. -/
section
open Go Go.Vm Go.Proofs
namespace Go.Proofs.Lex
/-- The place of the first that fits, or -1. -/
def idxG {α:Type} (p:α→Bool) (l:List α):Int:=match l.findIdx? p with
  | some i=>i
  | none => -1
theorem idxG_cases {α:Type} (d:α) (p:α→Bool) (l:List α):(idxG p l = -1∧∀ i,i < l.length → ¬ p (l.getD i d)=true) ∨ ∃ k,k < l.length∧idxG p l=(k:Int)∧p (l.getD k d)=true∧∀ i,i < k → ¬ p (l.getD i d)=true:=by
  unfold idxG
  cases h:l.findIdx? p with
  | none =>
    refine .inl ⟨rfl,fun i hi => ?_⟩
    have:=List.findIdx?_eq_none_iff.1 h _ (List.getElem_mem hi)
    rw [getD_lt hi,this]
    exact Bool.false_ne_true
  | some k =>
    obtain ⟨hk,h1,h2⟩:=List.findIdx?_eq_some_iff_getElem.1 h
    refine .inr ⟨k,hk,rfl,by rw [getD_lt hk]; exact h1,fun i hi => ?_⟩
    rw [getD_lt (by omega)]
    exact h2 i hi
theorem idxG_any {α:Type} (p:α→Bool) (l:List α):decide (idxG p l ≥ 0)=l.any p:=by
  unfold idxG
  cases h:l.findIdx? p with
  | none =>
    rw [decide_eq_false (by simp)]
    symm
    rw [List.any_eq_false]
    intro x hx
    rw [List.findIdx?_eq_none_iff.1 h x hx]
    exact Bool.false_ne_true
  | some k =>
    obtain ⟨hk,h1,h2⟩:=List.findIdx?_eq_some_iff_getElem.1 h
    rw [decide_eq_true (by simp)]
    symm
    rw [List.any_eq_true]
    exact ⟨_,List.getElem_mem hk,h1⟩
theorem feat_eq {f g:Feat}:(f.name.toList == g.name.toList && (f.value.toList == g.value.toList && true))=decide (f=g):=by
  rw [Bool.and_true]
  by_cases h:f=g
  · subst h
    rw [eqB_iff.2 rfl,eqB_iff.2 rfl,decide_eq_true rfl]; rfl
  · rw [decide_eq_false h, Bool.and_eq_false_iff]
    by_cases h1:f.name=g.name
    · right
      refine eqB_ne.2 fun h2=>h ?_
      cases f; cases g
      simp only at h1 h2
      rw [h1,h2]
    · exact .inl (eqB_ne.2 h1)
section
variable {X:Ext} {call:Caller} {lf:Nat}
/-- slices.Index over features. -/
theorem index89 {F:List Feat} {f:Feat} (hl:F.length ≤ big) (hlf:F.length < lf):∃ σ',vbody Tryd.prog X call lf noFg Tryd.f89 (codeOf Tryd.f89) [featsV F,.agg (featC f)] [] 0=some (i6 (idxG (fun g=>decide (f=g)) F),σ'):=by
  have ho : ∀ i, (i < F.length → ¬ decide (f = nF F i) = true → f89_o0 F f i (nF F i).name (nF F i).value = 0) ∧ (i < F.length → decide (f = nF F i) = true → f89_o0 F f i (nF F i).name (nF F i).value = 1) ∧ (¬ i < F.length → f89_o0 F f i (nF F i).name (nF F i).value = 2) := by
    intro i
    unfold f89_o0
    rw [feat_eq]
    refine ⟨fun h1 h2 => ?_,fun h1 h2 => ?_,fun h1 => ?_⟩
    · rw [decide_eq_true (by omega),Bool.eq_false_iff.2 h2]
    · rw [decide_eq_true (by omega),h2]
    · rw [decide_eq_false (by omega)]
  rcases idxG_cases d0F (fun g=>decide (f=g)) F with ⟨e,hall⟩ | ⟨k,hk,e,hp,hbef⟩
  · have M := f89_M F f X call lf F.length _ _ _ hlf (fun i _ h => at_feat (by simpa using h)) (fun i h _ => up h hl) (fun j hj => (ho j).1 hj (hall j hj))
    rw [e]
    exact ⟨_,M.2 ((ho _).2.2 (by omega))⟩
  · have M := f89_M F f X call lf k _ _ _ (by omega) (fun i _ h => at_feat (by simpa using h)) (fun i h _ => up (n := F.length) (by omega) hl) (fun j hj => (ho j).1 (by omega) (hbef j hj))
    rw [e]
    exact ⟨_,M.1 ((ho k).2.1 hk hp)⟩
end
section
variable [Fixed] {X:Ext}
theorem call89 (hX:ExtOk Tryd.prog X) (hL:XL X) {F:List Feat} {f:Feat} (hl:F.length ≤ big):CallAt Tryd.prog 89 [aFs.enc F,aF.enc f] [] 0 (aI.enc (idxG (fun g=>decide (f=g)) F)) []:=by
  have hC:=callerOf_ok (T1_ok hX hL)
  obtain ⟨σ',h⟩:=index89 (X:=X) (call:=callerOf T1) (lf:=F.length + 1) (f:=f) hl (by omega)
  exact run_res (B:=aI) hX hC (hL.dom 89 rfl rfl) Tryd.func89 (by kernel_rfl) h (aI.de _)
end
end Go.Proofs.Lex
end
/- Lexicon: the other side of Category, Stem, With (printed) -/
section
open Go Go.Vm Go.Proofs
namespace Go.Proofs.Lex
end Go.Proofs.Lex
end
/- Lexicon: the other side's Category and Stem; Contains, With. -/
section
open Go Go.Vm Go.Proofs
namespace Go.Proofs.Lex
section
variable [Fixed]
variable {X:Ext}
end
end Go.Proofs.Lex
end
/- Lexicon: Contains, With. -/
section
open Go Go.Vm Go.Proofs
namespace Go.Proofs.Lex
theorem any_mem {F:List Feat} {f:Feat}:(F.any fun g=>decide (f=g))=decide (f ∈ F):=by
  by_cases h:f ∈ F
  · rw [decide_eq_true h, List.any_eq_true]
    exact ⟨f,h,decide_eq_true rfl⟩
  · rw [decide_eq_false h, List.any_eq_false]
    intro g hg e
    have:=of_decide_eq_true e
    subst this
    exact h hg
section
variable [Fixed] {X:Ext}
def T2:Go.Vm.Spec:=Go.Vm.Spec.on T1 89 (sp2 aFs aF fun F f=>if F.length ≤ big then some (aI.enc (idxG (fun g=>decide (f=g)) F)) else none)
theorem T2_ok (hX:ExtOk Tryd.prog X) (hL:XL X):SpecOk Tryd.prog T2:=by
  refine SpecOk.on2 (T1_ok hX hL) fun F f r h => ?_
  split at h
  · rename_i hF
    simp only [Option.some.injEq] at h
    subst h
    exact call89 hX hL hF
  · cases h
/-- slices.Contains of features. -/
theorem call65 (hX:ExtOk Tryd.prog X) (hL:XL X) {F:List Feat} {f:Feat} (hl:F.length ≤ big):CallAt Tryd.prog 65 [aFs.enc F,aF.enc f] [] 0 (aB.enc (decide (f ∈ F))) []:=by
  have hC:=callerOf_ok (T2_ok hX hL)
  obtain ⟨a1,a2,a3⟩:=hL.ok 89 rfl
  have h9 : T2 89 [aFs.enc F, aF.enc f] = some (aI.enc (idxG (fun g => decide (f = g)) F)) := by
    show sp2 aFs aF (fun F f=>if F.length ≤ big then some (aI.enc (idxG (fun g=>decide (f=g)) F)) else none) [aFs.enc F,aF.enc f]=_
    rw [sp2_at (aFs.de _) (aF.de _),if_pos hl]
  have hc:=call_on (X:=X) (B:=aI) (σ:=[Ob.cells [st f.name,st f.value]]) (ro:=0) (dr:=false) a1 a2 a3 (by simp only [AV.ltAll,aFs.lt,aF.lt,Bool.and_self]) h9
  have key : ∃ σ', vbody Tryd.prog X (callerOf T2) 0 noFg Tryd.f65 (codeOf Tryd.f65) [featsV F, .agg (featC f)] [] 0 = some (bo (decide (f ∈ F)), σ') := by
    have hi:=idxG_any (fun g=>decide (f=g)) F
    rw [any_mem] at hi
    cases hd:decide (f ∈ F) with
    | true=>rw [hd] at hi; exact ⟨_,f65_pt F f X _ 0 _ hc hi⟩
    | false=>rw [hd] at hi; exact ⟨_,f65_pf F f X _ 0 _ hc hi⟩
  obtain ⟨σ',h⟩:=key
  exact run_res (B:=aB) hX hC (hL.dom 65 rfl rfl) Tryd.func65 (by kernel_rfl) h (aB.de _)
def T3:Go.Vm.Spec:=Go.Vm.Spec.on T2 65 (sp2 aFs aF fun F f=>if F.length ≤ big then some (aB.enc (decide (f ∈ F))) else none)
theorem T3_ok (hX:ExtOk Tryd.prog X) (hL:XL X):SpecOk Tryd.prog T3:=by
  refine SpecOk.on2 (T2_ok hX hL) fun F f r h => ?_
  split at h
  · rename_i hF
    simp only [Option.some.injEq] at h
    subst h
    exact call65 hX hL hF
  · cases h
theorem okL_len {x:Lexm} (h:okL x):x.feats.length ≤ big:=by
  have:x.feats.length * 33 ≤ 140737488355328:=h
  show _ ≤ 140737488355328
  omega
end
end Go.Proofs.Lex
end
/- Lexicon: the other side's Contains and With; Find. -/
section
open Go Go.Vm Go.Proofs
namespace Go.Proofs.Lex
section
variable {X:Ext} {call:Caller} {lf:Nat}
theorem take_any {F:List Feat} {f:Feat} {i:Nat} (h:i < F.length):(F.take (i + 1)).any (fun g=>decide (f=g))=((F.take i).any (fun g=>decide (f=g)) || decide (f=nF F i)):=by
  rw [List.take_succ_eq_append_getElem h,List.any_append,nF,getD_lt h]
  simp
/-- Is this feature among them: the inner loop. -/
theorem inner67 {F W:List Feat} {i:Nat} (hi:i < W.length) (hF:F.length ≤ big) (hlf:F.length < lf) :
    vexec Tryd.prog X call lf 0 fg67 (Code.loop (loopN Tryd.f67 1)) (f67_S1 F W i (nF W i).name (nF W i).value (tF W i))=some (Ex.exit 2,f67_S2 F W i (nF W i).name (nF W i).value (tF W i) (fun j=>(F.take j).any fun g=>decide (nF W i=g)) F.length):=by
  refine f67_L1 F W i (nF W i).name (nF W i).value (tF W i) (fun j=>(F.take j).any fun g=>decide (nF W i=g)) X call lf F.length _ _ rfl hlf (fun j hj => ?_) ?_ (by simp)
  · have hd : decide ((↑j : Int) < (↑(List.length F) : Int)) = true := decide_eq_true (by omega)
    have hs:=take_any (f:=nF W i) hj
    cases h1:(F.take j).any (fun g=>decide (nF W i=g)) with
    | true =>
      rw [h1,Bool.true_or] at hs
      exact f67_s1_tt F W X call lf i _ _ _ _ j _ _ _ hd (at_feat hj) h1 hs (up hj hF)
    | false =>
      rw [h1,Bool.false_or] at hs
      cases h2:decide (nF W i=nF F j) with
      | true=>exact f67_s1_tft F W X call lf i _ _ _ _ j _ _ _ hd (at_feat hj) h1 (by rw [feat_eq]; exact h2) (by rw [hs]; exact h2) (up hj hF)
      | false=>exact f67_s1_tff F W X call lf i _ _ _ _ j _ _ _ hd (at_feat hj) h1 (by rw [feat_eq]; exact h2) (by rw [hs]; exact h2) (up hj hF)
  · exact f67_r1_f F W X call lf i _ _ _ _ F.length (decide_eq_false (by omega))
/-- ref09.Contains. -/
theorem cont67 {F W:List Feat} (hF:F.length ≤ big) (hW:W.length ≤ big) (hlf:F.length < lf) (hlw:W.length < lf) :
    vbody Tryd.prog X call lf fg67 Tryd.f67 (codeOf Tryd.f67) [featsV F,featsV W] [] 0=some (bo (W.all fun f=>decide (f ∈ F)),[]):=by
  have hany:∀ i,((F.take F.length).any fun g=>decide (nF W i=g))=decide (nF W i ∈ F):=fun i=>by rw [List.take_length,any_mem]
  have hin:∀ i,i < W.length→_:=fun i hi=>inner67 (X:=X) (call:=call) (lf:=lf) (F:=F) hi hF hlf
  rcases first_fail (p:=fun i=>nF W i ∈ F) W.length with hall | ⟨j,hj,hbad,hbef⟩
  · have hv : (W.all fun f => decide (f ∈ F)) = true := by
      rw [List.all_eq_true]
      intro f hf
      obtain ⟨i,hi,rfl⟩:=List.getElem_of_mem hf
      have:=hall i hi
      rw [nF,getD_lt hi] at this
      exact decide_eq_true this
    rw [hv]
    refine f67_plf F W X call lf W.length (f67_L0 F W X call lf W.length _ _ hlw (fun j hj => ?_) (f67_r0_f F W X call lf W.length (decide_eq_false (by omega))) (by simp))
    exact f67_s0_tlft F W X call lf j _ _ _ _ F.length (decide_eq_true (by omega)) (at_feat hj) (hin j hj) (by rw [hany,decide_eq_true (hall j hj)]) (up hj hW)
  · have hv : (W.all fun f => decide (f ∈ F)) = false := by
      rw [List.all_eq_false]
      refine ⟨nF W j,?_,by simpa using hbad⟩
      rw [nF,getD_lt hj]
      exact List.getElem_mem hj
    rw [hv]
    refine f67_pltlff F W X call lf j (nF W j).name (nF W j).value (tF W j) _ F.length (f67_L0 F W X call lf j _ _ (by omega) (fun i hi => ?_) (f67_r0_tlff F W X call lf j _ _ _ _ F.length (decide_eq_true (by omega)) (at_feat hj) (hin j hj) (by rw [hany,decide_eq_false hbad])) (by simp))
    have hi' : i < W.length:=by omega
    exact f67_s0_tlft F W X call lf i _ _ _ _ F.length (decide_eq_true (by omega)) (at_feat hi') (hin i hi') (by rw [hany,decide_eq_true (hbef i hi)]) (up hi' hW)
end
section
variable [Fixed] {X:Ext}
theorem call67 (hX:ExtOk Tryd.prog X) (hL:XL X) {F W:List Feat} (hF:F.length ≤ big) (hW:W.length ≤ big):CallAt Tryd.prog 67 [aFs.enc F,aFs.enc W] [] 0 (aB.enc (W.all fun f=>decide (f ∈ F))) []:=by
  have hC:=callerOf_ok (T3_ok hX hL)
  exact run_res (B:=aB) hX hC (hL.dom 67 rfl rfl) Tryd.func67 (by kernel_rfl) (cont67 (X:=X) (call:=callerOf T3) (lf:=F.length + W.length + 1) hF hW (by omega) (by omega)) (aB.de _)
def T4:Go.Vm.Spec:=Go.Vm.Spec.on T3 67 (sp2 aFs aFs fun F W=>if F.length ≤ big∧W.length ≤ big then some (aB.enc (W.all fun f=>decide (f ∈ F))) else none)
theorem T4_ok (hX:ExtOk Tryd.prog X) (hL:XL X):SpecOk Tryd.prog T4:=by
  refine SpecOk.on2 (T3_ok hX hL) fun F f r h => ?_
  split at h
  · rename_i hF
    simp only [Option.some.injEq] at h
    subst h
    exact call67 hX hL hF.1 hF.2
  · cases h
end
end Go.Proofs.Lex
end
/- Lexicon: few; Find. -/
section
open Go Go.Vm Go.Proofs
namespace Go.Proofs.Lex
/-- A lexeme with short parts. -/
def shortL (x:Lexm):Bool := !(decide ((x.id.size:Int) > 60)) && !(decide ((x.cat.size:Int) > 60)) && !(decide ((x.stem.size:Int) > 200)) && !(decide ((x.par.size:Int) > 60)) && !(decide ((x.feats.length:Int) > 20))
def fewL (L:List Lexm):Bool:=L.all shortL && decide ((L.length:Int) ≤ 300)
section
variable {X:Ext} {call:Caller} {lf:Nat}
theorem few15 {L:List Lexm} (hl:L.length ≤ big) (hlf:L.length < lf):vbody Tryd.prog X call lf fg15 Tryd.f15 (codeOf Tryd.f15) [lexsV L] [] 0=some (bo (fewL L),[]):=by
  have ho : ∀ i, i < L.length → shortL (nL L i) = true → f15_o0 L i (nL L i).id (nL L i).cat (nL L i).stem (nL L i).par (nL L i).feats.length = 0 := by
    intro i hi h
    unfold shortL at h
    simp only [Bool.and_eq_true,Bool.not_eq_true'] at h
    obtain ⟨⟨⟨⟨h1,h2⟩,h3⟩,h4⟩,h5⟩:=h
    unfold f15_o0
    rw [decide_eq_true (by omega),h1,h2,h3,h4,h5]
  rcases first_fail (p:=fun i=>shortL (nL L i)=true) L.length with hall | ⟨j,hj,hbad,hbef⟩
  · have hv : L.all shortL = true := by
      rw [List.all_eq_true]
      intro x hx
      obtain ⟨i,hi,rfl⟩:=List.getElem_of_mem hx
      have:=hall i hi
      rwa [nL,getD_lt hi] at this
    have M:=f15_M L X call lf L.length _ _ _ _ _ _ _ hlf (fun i _ h=>at_lex (by simpa using h)) (fun i h _=>up h hl) (fun j hj=>ho j hj (hall j hj))
    have h6 : f15_o0 L L.length (nL L L.length).id (nL L L.length).cat (nL L L.length).stem (nL L L.length).par (nL L L.length).feats.length = 6 := by
      unfold f15_o0; rw [decide_eq_false (by omega)]
    unfold fewL
    rw [hv,Bool.true_and]
    cases hd:decide ((L.length:Int) ≤ 300) with
    | true=>exact M.2.2.2.2.2.1 h6 hd
    | false=>exact M.2.2.2.2.2.2 h6 hd
  · have hv : L.all shortL = false := by
      rw [List.all_eq_false]
      refine ⟨nL L j,?_,hbad⟩
      rw [nL,getD_lt hj]
      exact List.getElem_mem hj
    have M:=f15_M L X call lf j _ _ _ _ _ _ _ (by omega) (fun i _ h=>at_lex (by simpa using h)) (fun i h _=>up (n:=L.length) (by omega) hl) (fun i hi=>ho i (by omega) (hbef i hi))
    unfold fewL
    rw [hv,Bool.false_and]
    have hjd:decide ((↑j:Int) < (↑(List.length L):Int))=true:=decide_eq_true (by omega)
    cases h1:decide (((nL L j).id.size:Int) > 60) with
    | true=>exact M.1 (by unfold f15_o0; rw [hjd,h1])
    | false =>
    cases h2:decide (((nL L j).cat.size:Int) > 60) with
    | true=>exact M.2.1 (by unfold f15_o0; rw [hjd,h1,h2])
    | false =>
    cases h3:decide (((nL L j).stem.size:Int) > 200) with
    | true=>exact M.2.2.1 (by unfold f15_o0; rw [hjd,h1,h2,h3])
    | false =>
    cases h4:decide (((nL L j).par.size:Int) > 60) with
    | true=>exact M.2.2.2.1 (by unfold f15_o0; rw [hjd,h1,h2,h3,h4])
    | false =>
    cases h5:decide (((nL L j).feats.length:Int) > 20) with
    | true=>exact M.2.2.2.2.1 (by unfold f15_o0; rw [hjd,h1,h2,h3,h4,h5])
    | false=>exact absurd (by unfold shortL; rw [h1,h2,h3,h4,h5]; rfl) hbad
end
section
variable [Fixed] {X:Ext}
theorem call15 (hX:ExtOk Tryd.prog X) (hL:XL X) {L:List Lexm} (hl:L.length ≤ big):CallAt Tryd.prog 15 [aLs.enc L] [] 0 (aB.enc (fewL L)) []:=by
  have hC:=callerOf_ok (SpecOk.none' (P:=Tryd.prog))
  exact run_res (B:=aB) hX hC (hL.dom 15 rfl rfl) Tryd.func15 (by kernel_rfl) (few15 (X:=X) (call:=callerOf fun _ _=>none) (lf:=L.length + 1) hl (by omega)) (aB.de _)
theorem call29 (hX:ExtOk Tryd.prog X) (hL:XL X) {L:List Lexm} {s:ByteArray} (hl:L.length ≤ big):CallAt Tryd.prog 29 [aLs.enc L,aS.enc s] [] 0 (aI.enc (idxP (fun x=>decide (x.id=s)) L)) []:=by
  have hC:=callerOf_ok (SpecOk.none' (P:=Tryd.prog))
  obtain ⟨σ',h⟩:=index29 (X:=X) (call:=callerOf fun _ _=>none) (lf:=L.length + 1) (s:=s) hl (by omega)
  exact run_res (B:=aI) hX hC (hL.dom 29 rfl rfl) Tryd.func29 (by kernel_rfl) h (aI.de _)
def T5:Go.Vm.Spec:=Go.Vm.Spec.on (Go.Vm.Spec.on T4 28 (sp2 aLs aS fun L s=>if L.length ≤ big then some (aI.enc (idxP (fun x=>decide (x.id=s)) L)) else none)) 29 (sp2 aLs aS fun L s=>if L.length ≤ big then some (aI.enc (idxP (fun x=>decide (x.id=s)) L)) else none)
theorem T5_ok (hX:ExtOk Tryd.prog X) (hL:XL X):SpecOk Tryd.prog T5:=by
  refine SpecOk.on2 (SpecOk.on2 (T4_ok hX hL) fun L s r h => ?_) fun L s r h => ?_
  · split at h
    · rename_i hF
      simp only [Option.some.injEq] at h
      subst h
      exact call28 hX hL hF
    · cases h
  · split at h
    · rename_i hF
      simp only [Option.some.injEq] at h
      subst h
      exact call29 hX hL hF
    · cases h
theorem T5_28 {L:List Lexm} {s:ByteArray} (hl:L.length ≤ big):T5 28 [aLs.enc L,aS.enc s]=some (aI.enc (idxP (fun x=>decide (x.id=s)) L)):=by
  show sp2 aLs aS (fun L s=>if L.length ≤ big then some (aI.enc (idxP (fun x=>decide (x.id=s)) L)) else none) [aLs.enc L,aS.enc s]=_
  rw [sp2_at (aLs.de _) (aS.de _),if_pos hl]
end
end Go.Proofs.Lex
end
/- Lexicon: Find. -/
section
open Go Go.Vm Go.Proofs
namespace Go.Proofs.Lex
/-- The first lexeme with an ID. -/
def findL (L:List Lexm) (s:ByteArray):Lexm × Bool:=match L.find? (fun x=>decide (x.id=s)) with
  | some x=>(x,true)
  | none=>(d0L,false)
theorem findL_cases (L:List Lexm) (s:ByteArray):(idxP (fun x=>decide (x.id=s)) L = -1∧findL L s=(d0L,false)) ∨ ∃ k,k < L.length∧idxP (fun x=>decide (x.id=s)) L=(k:Int)∧findL L s=(nL L k,true):=by
  rcases idxP_cases (fun x=>decide (x.id=s)) L with ⟨e,hall⟩ | ⟨k,hk,e,hp,hbef⟩
  · refine .inl ⟨e, ?_⟩
    unfold findL
    rw [List.find?_eq_none.2 fun x hx => by
      obtain ⟨i,hi,rfl⟩:=List.getElem_of_mem hx
      have:=hall i hi
      rwa [nL,getD_lt hi] at this]
  · refine .inr ⟨k, hk, e, ?_⟩
    unfold findL
    have : L.find? (fun x => decide (x.id = s)) = some (nL L k) := by
      rw [List.find?_eq_some_iff_getElem]
      refine ⟨hp,k,hk,by rw [nL,getD_lt hk],fun j hj => ?_⟩
      have:=hbef j hj
      rw [nL,getD_lt (by omega)] at this
      simpa using this
    rw [this]
section
variable [Fixed] {X:Ext}
abbrev aLB:Arg (Lexm × Bool):=Arg.tup2 aL aB
theorem d0L_dec:aLB.dec (.tup [.agg [st emp,st emp,st emp,st emp,.list .nil 0 0 []],bo false])=some (d0L,false):=by rfl
theorem owns_agg (x:Lexm):AV.owns (.agg (lexC x))=[]:=by simp only [AV.owns]; exact owns_lex x
theorem end2 {σ:List Ob} {x:Lexm} {b:Bool}:vend1 [] 0 σ [.agg (lexC x),bo b]=some (.tup [.agg (lexC x),bo b],σ) :=
  vend1_plain (by simp only [AV.ownsAll,owns_agg]; rfl)
theorem call26 (hX:ExtOk Tryd.prog X) (hL:XL X) {L:List Lexm} {s:ByteArray} (hok:okLs L):CallAt Tryd.prog 26 [aLs.enc L,aS.enc s] [] 0 (aLB.enc (findL L s)) []:=by
  have hC:=callerOf_ok (T5_ok hX hL)
  have hl : L.length ≤ big := by
    have:L.length * 89 ≤ 140737488355328:=hok.1
    show _ ≤ 140737488355328
    omega
  obtain ⟨a1,a2,a3⟩:=hL.ok 28 rfl
  obtain ⟨b1,b2,b3⟩:=hL.ok 61 rfl
  have hc:=fun σ=>call_on (X:=X) (B:=aI) (σ:=σ) (ro:=0) (dr:=false) a1 a2 a3 (by simp only [AV.ltAll,aLs.lt,aS.lt,Bool.and_self]) (T5_28 (s:=s) hl)
  rcases findL_cases L s with ⟨e,h⟩ | ⟨k,hk,e,h⟩
  · rw [h]
    rw [e] at hc
    exact run_res (B:=aLB) hX hC (hL.dom 26 rfl rfl) Tryd.func26 (by kernel_rfl) (f26_pf L s X (callerOf T5) 0 _ (hc _) rfl) d0L_dec
  · rw [h]
    rw [e] at hc
    have hmem:nL L k ∈ L:=by rw [nL,getD_lt hk]; exact List.getElem_mem hk
    have h6:=fun σ=>call_on (X:=X) (T:=T5) (f:=61) (B:=aL) (y:=nL L k) (vs:=[aL.enc (nL L k)]) (σ:=σ) (ro:=0) (dr:=false) b1 b2 b3 (by simp only [AV.ltAll,aL.lt,Bool.and_self]) (T1_61 _ (hok.2 _ hmem))
    exact run_res (B:=aLB) hX hC (hL.dom 26 rfl rfl) Tryd.func26 (by kernel_rfl) (f26_pt L s X (callerOf T5) 0 _ _ _ _ _ _ _ _ _ _ _ _ _ _ (hc _) (decide_eq_true (by omega)) (at_lex hk) (h6 _) end2) (aLB.de (nL L k,true))
end
end Go.Proofs.Lex
end
/- Lexicon: what is the same. -/
section
open Go Go.Vm Go.Proofs
namespace Go.Proofs.Lex
section
variable [Fixed] {X:Ext}
theorem call60 (hX:ExtOk Tryd.prog X) (hL:XL X) {l m:List Feat} (hl:l.length ≤ big):CallAt Tryd.prog 60 [aFs.enc l,aFs.enc m] [] 0 (aB.enc (decide (l=m))) []:=by
  have hC:=callerOf_ok (SpecOk.none' (P:=Tryd.prog))
  obtain ⟨σ',h⟩:=same60 (X:=X) (call:=callerOf fun _ _=>none) (lf:=l.length + 1) (m:=m) hl (by omega)
  exact run_res (B:=aB) hX hC (hL.dom 60 rfl rfl) Tryd.func60 (by kernel_rfl) h (aB.de _)
def V60:Go.Vm.Spec:=Go.Vm.Spec.on (fun _ _=>none) 60 (sp2 aFs aFs fun l m=>if l.length ≤ big then some (aB.enc (decide (l=m))) else none)
theorem V60_ok (hX:ExtOk Tryd.prog X) (hL:XL X):SpecOk Tryd.prog V60:=by
  refine SpecOk.on2 SpecOk.none' fun L s r h => ?_
  split at h
  · rename_i hF
    simp only [Option.some.injEq] at h
    subst h
    exact call60 hX hL hF
  · cases h
theorem V60_at {l m:List Feat} (hl:l.length ≤ big):V60 60 [aFs.enc l,aFs.enc m]=some (aB.enc (decide (l=m))):=by
  show sp2 aFs aFs (fun l m=>if l.length ≤ big then some (aB.enc (decide (l=m))) else none) [aFs.enc l,aFs.enc m]=_
  rw [sp2_at (aFs.de _) (aFs.de _),if_pos hl]
theorem call25 (hX:ExtOk Tryd.prog X) (hL:XL X) {x y:Lexm} (hl:x.feats.length ≤ big):CallAt Tryd.prog 25 [aL.enc x,aL.enc y] [] 0 (aB.enc (decide (x=y))) []:=by
  have hC:=callerOf_ok (V60_ok hX hL)
  obtain ⟨a1,a2,a3⟩:=hL.ok 60 rfl
  obtain ⟨σ',h⟩:=same25 (X:=X) (call:=callerOf V60) (lf:=0) (x:=x) (y:=y) (fun σ=>call_on (B:=aB) a1 a2 a3 (by simp only [AV.ltAll,← aFs_enc,aFs.lt,Bool.and_self]) (V60_at hl))
  exact run_res (B:=aB) hX hC (hL.dom 25 rfl rfl) Tryd.func25 (by kernel_rfl) h (aB.de _)
theorem okLs_len {L:List Lexm} (h:okLs L):L.length ≤ big:=by
  have:L.length * 89 ≤ 140737488355328:=h.1
  show _ ≤ 140737488355328
  omega
/-! ### all together -/
def okLsB (L:List Lexm):Bool:=decide (L.length * 89 ≤ big) && L.all fun x=>decide (x.feats.length * 33 ≤ big)
theorem okLsB_iff {L:List Lexm}:okLsB L=true ↔ okLs L:=by
  unfold okLsB okLs
  rw [Bool.and_eq_true,List.all_eq_true]
  constructor
  · rintro ⟨h1, h2⟩
    exact ⟨of_decide_eq_true h1,fun x hx=>of_decide_eq_true (h2 x hx)⟩
  · rintro ⟨h1, h2⟩
    exact ⟨decide_eq_true h1,fun x hx=>decide_eq_true (h2 x hx)⟩
end
end Go.Proofs.Lex
end
/- Lexicon: the specifications together (printed by a program). -/
section
open Go Go.Vm Go.Proofs
namespace Go.Proofs.Lex
section
variable [Fixed] {X:Ext}
end
end Go.Proofs.Lex
end
/- Lexicon: the builder: what its writing does to its store. -/
section
open Go Go.Vm Go.Proofs
namespace Go.Proofs.Lex
abbrev byA (b:UInt8):AV := .int .u8 b.toNat
abbrev nilB:AV := .list .nil 0 0 []
/-- A builder in a store of its own. -/
def bS (u:Bool):List UInt8→List Ob
  | []=>[.cells [cond u (.ref 0 0) (.ptag 91),nilB]]
  | c::l=>[.cells [.ref 0 0,.own 1 (l.length + 1)],.brow 5 (c::l)]
theorem ofNat_u8 (b:UInt8):UInt8.ofNat (Int.toNat (↑b.toNat:Int))=b:=by simp
theorem decB_bytes : ∀ (l : List UInt8), decB (l.map byA) = some l
  | []=>rfl
  | b :: l => by
    have h : (0 : Int) ≤ ↑b.toNat ∧ (↑b.toNat : Int) < 256 := by
      have:=b.toNat_lt
      omega
    simp only [List.map_cons,decB]
    rw [if_pos h,decB_bytes l,ofNat_u8]
theorem und89:Tryd.prog.underlying 89=some (.slice 5):=Tryd.underlying89
theorem cells5:Tryd.prog.cellsOf 5=1:=by kernel_rfl
theorem bytes5:Tryd.prog.bytesOf 5=1:=by kernel_rfl
theorem zero5:zerov Tryd.prog 5=some (.int .u8 0):=by kernel_rfl
theorem isB5:isByte Tryd.prog 5=true:=by kernel_rfl
theorem owns_bytes : ∀ (l : List UInt8), AV.ownsAll (l.map byA) = []
  | []=>rfl
  | _::l=>by simp only [List.map_cons,AV.ownsAll,AV.owns,owns_bytes l,List.append_nil]
theorem newOb_bytes (n:Nat) (l:List UInt8):newOb Tryd.prog 5 n (Tryd.prog.cellsOf 5) (l.map byA) = .brow 5 l:=by
  unfold newOb
  rw [isB5,if_pos rfl,decB_bytes]
theorem appended_str {σ:List Ob} (s:ByteArray):appended σ 1 (.str s)=some (s.data.toList.length,s.data.toList.map byA):=by
  simp only [appended,if_true]
  rfl
theorem app_row {cs : List AV} {l l' : List UInt8} {x : AV} (hx : appended [Ob.cells cs, .brow 5 l] 1 x = some (l'.length, l'.map byA)) (hb : (l.length + l'.length) * 2 ≤ big) :
    appendv Tryd.prog 89 [Ob.cells cs,.brow 5 l] 0 (.own 1 l.length) x=some (.own 1 (l ++ l').length,[Ob.cells cs,.brow 5 (l ++ l')]):=by
  unfold appendv
  rw [und89]
  simp only [cells5,hx,zero5,bytes5]
  rw [if_pos ⟨owns_bytes _,rfl⟩]
  show (if l.length=l.length∧0 ≤ 1∧5=5∧True∧(l.length + l'.length) * (1 + 1) ≤ 140737488355328 then _ else none)=_
  rw [if_pos ⟨rfl,Nat.zero_le _,rfl,trivial,hb⟩]
  by_cases h:l'.length=0
  · have : l' = [] := List.eq_nil_of_length_eq_zero h
    subst this
    rw [if_pos h,List.append_nil]
  · rw [if_neg h, decB_bytes, List.length_append]
    rfl
theorem app_nil {cs : List AV} {c : UInt8} {l' : List UInt8} {x : AV} (hx : appended [Ob.cells cs] 1 x = some ((c :: l').length, (c :: l').map byA)) (hb : (c :: l').length * 2 ≤ big) :
    appendv Tryd.prog 89 [Ob.cells cs] 0 nilB x=some (.own 1 (c::l').length,[Ob.cells cs,.brow 5 (c::l')]):=by
  unfold appendv
  rw [und89]
  simp only [hx,zero5,bytes5,cells5]
  rw [if_pos ⟨owns_bytes _,rfl⟩,if_pos ⟨.inl trivial,.inl trivial,rfl,by simpa using hb⟩,if_neg (by simp)]
  have:=newOb_bytes (0 + (c::l').length) (c::l')
  rw [cells5] at this
  rw [List.nil_append,this,Nat.zero_add]
  rfl
theorem app_nil0 {cs:List AV} {x:AV} (hx:appended [Ob.cells cs] 1 x=some (0,[])):appendv Tryd.prog 89 [Ob.cells cs] 0 nilB x=some (nilB,[Ob.cells cs]):=by
  unfold appendv
  rw [und89]
  simp only [hx,zero5,bytes5,cells5]
  rw [if_pos ⟨rfl,rfl⟩,if_pos ⟨.inl trivial,.inl trivial,rfl,by decide⟩,if_pos trivial]
section
variable {X:Ext} {call:Caller}
theorem chk110 (hL:XL X) (u:Bool) (l:List UInt8):callv X call false 110 [.ref 0 0] (bS u l) 0=some (.tup [],bS true l):=by
  unfold callv
  rw [hL.chk.1,hL.chk.2]
  cases l with
  | nil=>cases u <;> rfl
  | cons c l=>rfl
theorem ref_lt (vs:List AV):AV.ltAll 0 (.ref 0 0::vs)=false:=by simp [AV.ltAll,AV.lt,show Nat.blt 0 0=false from rfl]
/-- WriteByte. -/
theorem walk78 (hL:XL X) {lf:Nat} (u:Bool) (l:List UInt8) (b:UInt8) (hb:(l.length + 1) * 2 ≤ big) :
    vbody Tryd.prog X call lf noFg Tryd.f78 (codeOf Tryd.f78) [.ref 0 0,byA b] (bS u l) 0=some (.inil,bS true (l ++ [b])):=by
  cases l with
  | nil =>
    have h:=f78n_p b.toNat (cond u (.ref 0 0) (.ptag 91)) X call lf (chk110 hL u [])
    have e:=newOb_bytes (0 + 1) [b]
    simp only [List.map_cons,List.map_nil] at e
    rw [List.nil_append,e] at h
    exact h
  | cons c l =>
    have h:=f78_p b.toNat (.ref 0 0) (l.length + 1) ((c::l) ++ [b]).length [.brow 5 (c::l)] [.brow 5 ((c::l) ++ [b])] X call lf (chk110 hL u (c::l)) (app_row (l:=c::l) (l' := [b]) rfl (by simpa using hb))
    refine h.trans ?_
    simp [bS]
theorem walk79 (hL:XL X) {lf:Nat} (u:Bool) (l:List UInt8) (s:ByteArray) (hb:(l.length + s.data.toList.length) * 2 ≤ big) :
    vbody Tryd.prog X call lf noFg Tryd.f79 (codeOf Tryd.f79) [.ref 0 0,.str s] (bS u l) 0=some (.tup [i6 s.size,.inil],bS true (l ++ s.data.toList)):=by
  cases l with
  | nil =>
    cases hs:s.data.toList with
    | nil =>
      have ha:appended [Ob.cells [.ref 0 0,nilB]] 1 (.str s)=some (0,[]):=by rw [appended_str,hs]; rfl
      exact f79e_p s (cond u (.ref 0 0) (.ptag 91)) [] [] X call lf (chk110 hL u []) (app_nil0 ha)
    | cons c r =>
      have ha:appended [Ob.cells [.ref 0 0,nilB]] 1 (.str s)=some ((c::r).length,(c::r).map byA):=by rw [appended_str,hs]
      exact f79n_p s (cond u (.ref 0 0) (.ptag 91)) (c::r).length [] [.brow 5 (c::r)] X call lf (chk110 hL u []) (app_nil ha (by rw [hs] at hb; simpa using hb))
  | cons c l =>
    have h:=f79_p s (.ref 0 0) (l.length + 1) ((c::l) ++ s.data.toList).length [.brow 5 (c::l)] [.brow 5 ((c::l) ++ s.data.toList)] X call lf (chk110 hL u (c::l)) (app_row (l:=c::l) (appended_str s) hb)
    refine h.trans ?_
    simp [bS]
end
section
variable [Fixed] {X:Ext}
theorem grown (hL:XL X) {T:Go.Vm.Spec} {lf k:Nat} {f:FuncId} {fn:Func} {vs:List AV} {r:AV} {u:Bool} {l l' : List UInt8} (hd:X.dom f=true) (hw:X.pureFn f=none∧X.stFn f=none∧X.adopt f=false) (hf:Tryd.prog.funcs[f]? = some fn) (hbd:fn.body=some (codeOf fn)) (hfg:X.fg f=noFg)
    (ht:AV.thawAll (bS u l) (.ref 0 0::vs)=some (.ref 0 0::vs)) (hr:∀ n,r.lt n=true) (hu:unfr r=r)
    (h:vbody Tryd.prog X (vcallL Tryd.prog X T lf k) lf noFg fn (codeOf fn) (.ref 0 0::vs) (bS u l) 0=some (r,bS true (l ++ l'))) :
    callv X (vcallL Tryd.prog X T lf (k + 1)) false f (.ref 0 0::vs) (bS u l) 0=some (r,bS true (l ++ l')):=by
  have hw' : vcallL Tryd.prog X T lf (k + 1) f (.ref 0 0 :: vs) (bS u l) 0 = some (r, bS true (l ++ l')) := by
    cases l with
    | nil=>exact vcallL_walk hd hf hbd (by rw [hfg]; exact h)
    | cons c l=>exact vcallL_walk hd hf hbd (by rw [hfg]; exact h)
  cases l with
  | nil =>
    cases l' with
    | nil =>
      have:=callv_ref (X:=X) hw.1 hw.2.1 (ref_lt vs) ht hw' (hr _) rfl
      rw [hu] at this
      exact this
    | cons c l' =>
      have:=callv_refG (X:=X) hw.1 hw.2.1 (ref_lt vs) ht hw' rfl
      rw [hu] at this
      exact this
  | cons c l =>
    have:=callv_ref (X:=X) hw.1 hw.2.1 (ref_lt vs) ht hw' (hr _) rfl
    rw [hu] at this
    exact this
theorem write78 (hL:XL X) {T:Go.Vm.Spec} {lf k:Nat} (u:Bool) (l:List UInt8) (b:UInt8) (hb:(l.length + 1) * 2 ≤ big) :
    callv X (vcallL Tryd.prog X T lf (k + 1)) false 78 [.ref 0 0,byA b] (bS u l) 0=some (.inil,bS true (l ++ [b])) :=
  grown hL (hL.dom 78 rfl rfl) (hL.ok 78 rfl) Tryd.func78 (by kernel_rfl) (hL.fg 78) rfl (fun _=>rfl) rfl (walk78 hL u l b hb)
theorem write79 (hL:XL X) {T:Go.Vm.Spec} {lf k:Nat} (u:Bool) (l:List UInt8) (s:ByteArray) (hb:(l.length + s.data.toList.length) * 2 ≤ big) :
    callv X (vcallL Tryd.prog X T lf (k + 1)) false 79 [.ref 0 0,.str s] (bS u l) 0=some (.tup [i6 s.size,.inil],bS true (l ++ s.data.toList)) :=
  grown hL (hL.dom 79 rfl rfl) (hL.ok 79 rfl) Tryd.func79 (by kernel_rfl) (hL.fg 79) rfl (fun _=>rfl) rfl (walk79 hL u l s hb)
theorem string80 (hL:XL X) {call:Caller} (u:Bool) (l:List UInt8):∃ σ,callv X call false 80 [.ref 0 0] (bS u l) 0=some (.str ⟨l.toArray⟩,σ):=by
  unfold callv
  rw [hL.str.1,hL.str.2]
  cases l with
  | nil=>exact ⟨_,rfl⟩
  | cons c l =>
    refine ⟨[Ob.cells [.ref 0 0,.own 1 (l.length + 1)],.gone],?_⟩
    show (if 5=5∧(c::l).length=l.length + 1∧0 ≤ 1∧l.length + 1 ≠ 0 then _ else none)=_
    rw [if_pos ⟨rfl,rfl,Nat.zero_le _,by omega⟩]
    rfl
end
end Go.Proofs.Lex
end
/- Lexicon: feature.Text. -/
section
open Go Go.Vm Go.Proofs
namespace Go.Proofs.Lex
/-- The text of the first features. -/
def textN (F:List Feat):Nat→List UInt8
  | 0=>[]
  | i + 1=>((cond (decide (0 < i)) (textN F i ++ [32]) [] ++ (nF F i).name.data.toList) ++ [61]) ++ (nF F i).value.data.toList
def textF (F:List Feat):List UInt8:=textN F F.length
theorem textN_le (F:List Feat) (i:Nat):(textN F i).length ≤ (textN F (i + 1)).length:=by
  cases i with
  | zero=>exact Nat.zero_le _
  | succ i =>
    have:textN F (i + 1 + 1)=((textN F (i + 1) ++ [32] ++ (nF F (i + 1)).name.data.toList) ++ [61]) ++ (nF F (i + 1)).value.data.toList:=rfl
    rw [this]
    simp only [List.length_append]
    omega
theorem textN_mono (F:List Feat) {i j:Nat} (h:i ≤ j):(textN F i).length ≤ (textN F j).length:=by
  induction h with
  | refl=>exact Nat.le_refl _
  | step _ ih=>exact Nat.le_trans ih (textN_le F _)
section
variable [Fixed] {X:Ext}
theorem call48 (hX:ExtOk Tryd.prog X) (hL:XL X) {F:List Feat} (hl:F.length ≤ big) (hb:(textF F).length * 2 ≤ big):CallAt Tryd.prog 48 [aFs.enc F] [] 0 (aS.enc ⟨(textF F).toArray⟩) []:=by
  have hC:=vcallL_ok hX (SpecOk.none' (P:=Tryd.prog)) (F.length + 1) 1
  have hbi:∀ i,i < F.length→(textN F (i + 1)).length * 2 ≤ big:=fun i hi=>Nat.le_trans (Nat.mul_le_mul_right 2 (textN_mono F hi)) hb
  have hlen : ∀ i, (textN F (i + 1)).length = (cond (decide (0 < i)) (textN F i ++ [32]) []).length + ((nF F i).name.data.toList).length + 1 + ((nF F i).value.data.toList).length := by
    intro i
    simp only [textN,List.length_append,List.length_cons,List.length_nil]
  have lt_of : ∀ {i0 : Nat}, decide ((↑i0 : Int) < (↑(List.length F) : Int)) = true → i0 < F.length := fun h => by
    have:=of_decide_eq_true h
    omega
  obtain ⟨σ,h80⟩:=string80 (X:=X) hL (call:=vcallL Tryd.prog X (fun _ _=>none) (F.length + 1) 1) (decide (0 < F.length)) (textN F F.length)
  have M := f48_M F (fun i => bS (decide (0 < i)) (textN F i)) X (vcallL Tryd.prog X (fun _ _ => none) (F.length + 1) 1) (F.length + 1) F.length (fun i => (nF F i).name) (fun i => (nF F i).value) (tF F)
    (fun i=>bS true (textN F i ++ [32])) (fun _ => .inil)
    (fun i=>bS true (textN F i ++ [32] ++ (nF F i).name.data.toList)) (fun i=>(nF F i).name.size) (fun _ => .inil)
    (fun i=>bS true ((textN F i ++ [32] ++ (nF F i).name.data.toList) ++ [61])) (fun _ => .inil)
    (fun i=>bS true (textN F (i + 1))) (fun i=>(nF F i).value.size) (fun _ => .inil)
    (fun i=>bS true ([] ++ (nF F i).name.data.toList)) (fun i=>(nF F i).name.size) (fun _ => .inil)
    (fun i=>bS true (([] ++ (nF F i).name.data.toList) ++ [61])) (fun _ => .inil)
    (fun i=>bS true (textN F (i + 1))) (fun i=>(nF F i).value.size) (fun _ => .inil)
    rfl (by omega)
    (fun i _ h=>at_feat (lt_of h))
    (fun i _ h h2 => by
      have h0:0 < i:=by have:=of_decide_eq_true h2; omega
      have hle:=hlen i
      have:=hbi i (lt_of h)
      rw [decide_eq_true h0] at hle
      simp only [cond_true,List.length_append,List.length_cons,List.length_nil] at hle
      exact write78 hL (decide (0 < i)) (textN F i) 32 (by show _ ≤ 140737488355328; have h' : (textN F (i + 1)).length * 2 ≤ 140737488355328:=this; omega))
    (fun i _ h h2 => by
      have h0:0 < i:=by have:=of_decide_eq_true h2; omega
      have hle:=hlen i
      have:=hbi i (lt_of h)
      rw [decide_eq_true h0] at hle
      simp only [cond_true,List.length_append,List.length_cons,List.length_nil] at hle
      exact write79 hL true (textN F i ++ [32]) (nF F i).name (by show _ ≤ 140737488355328; have h' : (textN F (i + 1)).length * 2 ≤ 140737488355328:=this; simp only [List.length_append,List.length_cons,List.length_nil]; omega))
    (fun i _ h h2 => by
      have h0:0 < i:=by have:=of_decide_eq_true h2; omega
      have hle:=hlen i
      have:=hbi i (lt_of h)
      rw [decide_eq_true h0] at hle
      simp only [cond_true,List.length_append,List.length_cons,List.length_nil] at hle
      exact write78 hL true (textN F i ++ [32] ++ (nF F i).name.data.toList) 61 (by show _ ≤ 140737488355328; have h' : (textN F (i + 1)).length * 2 ≤ 140737488355328:=this; simp only [List.length_append,List.length_cons,List.length_nil]; omega))
    (fun i _ h h2 => by
      have h0:0 < i:=by have:=of_decide_eq_true h2; omega
      have hle:=hlen i
      have:=hbi i (lt_of h)
      rw [decide_eq_true h0] at hle
      simp only [cond_true,List.length_append,List.length_cons,List.length_nil] at hle
      have e : textN F (i + 1) = (textN F i ++ [32] ++ (nF F i).name.data.toList) ++ [61] ++ (nF F i).value.data.toList := by
        show ((cond (decide (0 < i)) (textN F i ++ [32]) [] ++ (nF F i).name.data.toList) ++ [61]) ++ (nF F i).value.data.toList=_
        rw [decide_eq_true h0]
        rfl
      have k:=write79 (T:=fun _ _=>none) (lf:=F.length + 1) (k:=0) hL true ((textN F i ++ [32] ++ (nF F i).name.data.toList) ++ [61]) (nF F i).value (by show _ ≤ 140737488355328; have h' : (textN F (i + 1)).length * 2 ≤ 140737488355328:=this; simp only [List.length_append,List.length_cons,List.length_nil]; omega)
      rw [← e] at k
      exact k)
    (fun i _ h h2 => by
      have h0:i=0:=by have:=of_decide_eq_false h2; omega
      subst h0
      have hle:=hlen 0
      have:=hbi 0 (lt_of h)
      rw [show decide (0 < 0)=false from rfl] at hle
      simp only [cond_false,List.length_append,List.length_cons,List.length_nil] at hle
      exact write79 hL false [] (nF F 0).name (by show _ ≤ 140737488355328; have h' : (textN F (0 + 1)).length * 2 ≤ 140737488355328:=this; simp only [List.length_append,List.length_cons,List.length_nil]; omega))
    (fun i _ h h2 => by
      have h0:i=0:=by have:=of_decide_eq_false h2; omega
      subst h0
      have hle:=hlen 0
      have:=hbi 0 (lt_of h)
      rw [show decide (0 < 0)=false from rfl] at hle
      simp only [cond_false,List.length_append,List.length_cons,List.length_nil] at hle
      exact write78 hL true ([] ++ (nF F 0).name.data.toList) 61 (by show _ ≤ 140737488355328; have h' : (textN F (0 + 1)).length * 2 ≤ 140737488355328:=this; simp only [List.length_append,List.length_cons,List.length_nil]; omega))
    (fun i _ h h2 => by
      have h0:i=0:=by have:=of_decide_eq_false h2; omega
      subst h0
      have hle:=hlen 0
      have:=hbi 0 (lt_of h)
      rw [show decide (0 < 0)=false from rfl] at hle
      simp only [cond_false,List.length_append,List.length_cons,List.length_nil] at hle
      exact write79 hL true (([] ++ (nF F 0).name.data.toList) ++ [61]) (nF F 0).value (by show _ ≤ 140737488355328; have h' : (textN F (0 + 1)).length * 2 ≤ 140737488355328:=this; simp only [List.length_append,List.length_cons,List.length_nil]; omega))
    (fun i h _=>up h hl) (fun i _ _=>rfl) (fun i _ _=>rfl)
    (fun j hj => by
      unfold f48_o0
      rw [show decide ((↑j:Int) < (↑(List.length F):Int))=true from decide_eq_true (by omega)]
      cases decide ((↑j:Int) > 0) <;> rfl)
  have hv:=M (by unfold f48_o0; rw [show decide ((↑F.length:Int) < (↑(List.length F):Int))=false from decide_eq_false (by omega)]) σ _ h80
  exact run_res (B:=aS) hX hC (hL.dom 48 rfl rfl) Tryd.func48 (by kernel_rfl) hv (aS.de _)
end
end Go.Proofs.Lex
end
/- Lexicon: IndexFunc over strings (printed) -/
section
open Go Go.Vm Go.Proofs
namespace Go.Proofs.Lex
def f109_F0 (L0:List ByteArray)(G1 i0:Nat):St :=
  stOf 19 [4,5,9,10,11,12,13,14,15,16,17,18] [(0,lro L0.length 1 (List.map st L0)),(1,AV.clo G1 []),(6,lro L0.length 1 (List.map st L0)),(7,i6 (↑L0.length:Int)),(8,i6 (↑i0:Int))] []
def f109_S0 (L0:List ByteArray)(G1:Nat):St :=
  stOf 19 [] [(0,lro L0.length 1 (List.map st L0)),(1,AV.clo G1 []),(4,i6 0),(6,lro L0.length 1 (List.map st L0)),(7,i6 (↑L0.length:Int)),(8,i6 0)] []
abbrev f109_D0:List Nat:=[18,4,17,16,15,14,13,12,11,5,10,9]
theorem f109_L0 (L0:List ByteArray)(G1:Nat)(X:Ext)(call:Caller)(lf n:Nat)(x:Ex) (S' : St)
 (hn:n<lf)
 (hs:∀ j,j<n→∃ S1,vexec Tryd.prog X call lf 0 noFg (loopN Tryd.f109 0) (f109_F0 L0 G1 j)=some (Ex.normal,S1)∧forget f109_D0 S1=(f109_F0 L0 G1 (j + 1)))
 (he:vexec Tryd.prog X call lf 0 noFg (loopN Tryd.f109 0) (f109_F0 L0 G1 n)=some (x,S'))
 (hx:x ≠ Ex.normal):vexec Tryd.prog X call lf 0 noFg (Go.Code.loop (loopN Tryd.f109 0)) (f109_S0 L0 G1)=some (x,S') :=
  loop_runK (by kernel_rfl) (fun j=>(f109_F0 L0 G1 j)) n hn (by show forget f109_D0 (f109_S0 L0 G1)=(f109_F0 L0 G1 0); unfold f109_F0; show _=_; kernel_rfl) hs he hx
def f109_S1 (L0:List ByteArray)(G1 i0:Nat)(a:ByteArray)(r14:List AV):St :=
  stOf 19 [18] [(0,lro L0.length 1 (List.map st L0)),(1,AV.clo G1 []),(4,i6 (↑i0:Int)),(5,i6 (↑i0:Int)),(6,lro L0.length 1 (List.map st L0)),(7,i6 (↑L0.length:Int)),(8,i6 (↑i0:Int)),(9,bo true),(10,i6 (↑i0:Int)),(11,AV.clo G1 []),(12,lro L0.length 1 (List.map st L0)),(13,i6 (↑i0:Int)),(14,AV.eaddr (st a::r14)),(15,st a),(16,bo true),(17,i6 (↑i0:Int))] []
theorem f109_r0_tt (L0:List ByteArray)(G1:Nat)(X:Ext)(call:Caller)(lf i0:Nat)(a:ByteArray)(r14:List AV)
 (h0:decide ((↑i0:Int)<(↑L0.length:Int))=true)
 (h1:keep [] (indexAddrv Tryd.prog 25 [] (lro L0.length 1 (List.map st L0)) (i6 (↑i0:Int)))=some (AV.eaddr (st a::r14),[]))
 (h2:callv X call false G1 [st a] [] 0=some (bo true,[])):vexec Tryd.prog X call lf 0 noFg (loopN Tryd.f109 0) (f109_F0 L0 G1 i0)=some (Ex.ret,(f109_S1 L0 G1 i0 a r14)) :=
  around_sound (ans:=[(1,Ans.b true),(10,Ans.v (AV.eaddr (st a::r14))),(12,Ans.v (bo true))]) (by kernel_rfl) (ai h0 (ai h1 (ai h2 trivial)))
theorem f109_pltt (L0:List ByteArray)(G1:Nat)(X:Ext)(call:Caller)(lf i0:Nat)(a:ByteArray)(r14:List AV)
 (h0:vexec Tryd.prog X call lf 0 noFg (Code.loop (loopN Tryd.f109 0)) (f109_S0 L0 G1)=some (Ex.ret,(f109_S1 L0 G1 i0 a r14))):vbody Tryd.prog X call lf noFg Tryd.f109 (codeOf Tryd.f109) [strs L0,AV.clo G1 []] [] 0=some (i6 (↑i0:Int),[]) :=
  along_sound (ans:=[(6,Ans.l Ex.ret (f109_S1 L0 G1 i0 a r14))]) (by kernel_rfl) (ai h0 trivial)
theorem f109_s0_tf (L0:List ByteArray)(G1:Nat)(X:Ext)(call:Caller)(lf i0:Nat)(a:ByteArray)(r14:List AV)
 (h0:decide ((↑i0:Int)<(↑L0.length:Int))=true)
 (h1:keep [] (indexAddrv Tryd.prog 25 [] (lro L0.length 1 (List.map st L0)) (i6 (↑i0:Int)))=some (AV.eaddr (st a::r14),[]))
 (h2:callv X call false G1 [st a] [] 0=some (bo false,[]))
 (e0:(↑(i0 + 1):Int)=w6 ((↑i0:Int) + 1)):∃ S1,vexec Tryd.prog X call lf 0 noFg (loopN Tryd.f109 0) (f109_F0 L0 G1 i0)=some (Ex.normal,S1)∧forget f109_D0 S1=(f109_F0 L0 G1 (i0 + 1)) :=
  ⟨stOf 19 [4,17] [(0,lro L0.length 1 (List.map st L0)),(1,AV.clo G1 []),(5,i6 (↑i0:Int)),(6,lro L0.length 1 (List.map st L0)),(7,i6 (↑L0.length:Int)),(8,i6 (w6 ((↑i0:Int) + 1))),(9,bo true),(10,i6 (↑i0:Int)),(11,AV.clo G1 []),(12,lro L0.length 1 (List.map st L0)),(13,i6 (↑i0:Int)),(14,AV.eaddr (st a::r14)),(15,st a),(16,bo false),(18,i6 (w6 ((↑i0:Int) + 1)))] [],around_sound (ans:=[(1,Ans.b true),(10,Ans.v (AV.eaddr (st a::r14))),(12,Ans.v (bo false))]) (by kernel_rfl) (ai h0 (ai h1 (ai h2 trivial))),by unfold f109_F0; rw [e0]; show _=_; kernel_rfl⟩
def f109_S2 (L0:List ByteArray)(G1 i0:Nat):St :=
  stOf 19 [4,5,10,11,12,13,14,15,16,17,18] [(0,lro L0.length 1 (List.map st L0)),(1,AV.clo G1 []),(6,lro L0.length 1 (List.map st L0)),(7,i6 (↑L0.length:Int)),(8,i6 (↑i0:Int)),(9,bo false)] []
theorem f109_r0_f (L0:List ByteArray)(G1:Nat)(X:Ext)(call:Caller)(lf i0:Nat)
 (h0:decide ((↑i0:Int)<(↑L0.length:Int))=false):vexec Tryd.prog X call lf 0 noFg (loopN Tryd.f109 0) (f109_F0 L0 G1 i0)=some (Ex.exit 0,(f109_S2 L0 G1 i0)) :=
  around_sound (ans:=[(1,Ans.b false)]) (by kernel_rfl) (ai h0 trivial)
theorem f109_plf (L0:List ByteArray)(G1:Nat)(X:Ext)(call:Caller)(lf i0:Nat)
 (h0:vexec Tryd.prog X call lf 0 noFg (Code.loop (loopN Tryd.f109 0)) (f109_S0 L0 G1)=some (Ex.exit 0,(f109_S2 L0 G1 i0))):vbody Tryd.prog X call lf noFg Tryd.f109 (codeOf Tryd.f109) [strs L0,AV.clo G1 []] [] 0=some (i6 (-1),[]) :=
  along_sound (ans:=[(6,Ans.l (Ex.exit 0) (f109_S2 L0 G1 i0))]) (by kernel_rfl) (ai h0 trivial)
def f109_o0 (L0:List ByteArray)(i0:Nat)(b0:Bool):Nat :=
  (match decide ((↑i0:Int)<(↑L0.length:Int)) with
  | true=>(match b0 with
    | true=>1
    | false=>0)
  | false=>2)
theorem f109_B0 (L0:List ByteArray)(G1:Nat)(X:Ext)(call:Caller)(lf i0:Nat)(a:ByteArray)(r14:List AV)(b0:Bool)
 (g0:decide ((↑i0:Int)<(↑L0.length:Int))=true→keep [] (indexAddrv Tryd.prog 25 [] (lro L0.length 1 (List.map st L0)) (i6 (↑i0:Int)))=some (AV.eaddr (st a::r14),[]))
 (g1:decide ((↑i0:Int)<(↑L0.length:Int))=true→callv X call false G1 [st a] [] 0=some (bo b0,[]))
 (e0:decide ((↑i0:Int)<(↑L0.length:Int))=true→(↑(i0 + 1):Int)=w6 ((↑i0:Int) + 1)) :
    (f109_o0 L0 i0 b0=0→∃ S1,vexec Tryd.prog X call lf 0 noFg (loopN Tryd.f109 0) (f109_F0 L0 G1 i0)=some (Ex.normal,S1)∧forget f109_D0 S1=(f109_F0 L0 G1 (i0 + 1)))∧(f109_o0 L0 i0 b0=1→vexec Tryd.prog X call lf 0 noFg (loopN Tryd.f109 0) (f109_F0 L0 G1 i0)=some (Ex.ret,(f109_S1 L0 G1 i0 a r14)))∧(f109_o0 L0 i0 b0=2→vexec Tryd.prog X call lf 0 noFg (loopN Tryd.f109 0) (f109_F0 L0 G1 i0)=some (Ex.exit 0,(f109_S2 L0 G1 i0))):=by
  unfold f109_o0
  cases c0:decide ((↑i0:Int)<(↑L0.length:Int)) with
  | true =>
    cases c1:b0 with
    | true =>
      exact ⟨fun h=>absurd (show (1:Nat)=0 from h) (by decide),fun _=>f109_r0_tt L0 G1 X call lf i0 a r14 c0 (g0 c0) (by have:=(g1 c0); rw [c1] at this; exact this),fun h=>absurd (show (1:Nat)=2 from h) (by decide)⟩
    | false =>
      exact ⟨fun _=>f109_s0_tf L0 G1 X call lf i0 a r14 c0 (g0 c0) (by have:=(g1 c0); rw [c1] at this; exact this) (e0 c0),fun h=>absurd (show (0:Nat)=1 from h) (by decide),fun h=>absurd (show (0:Nat)=2 from h) (by decide)⟩
  | false =>
    exact ⟨fun h=>absurd (show (2:Nat)=0 from h) (by decide),fun h=>absurd (show (2:Nat)=1 from h) (by decide),fun _=>f109_r0_f L0 G1 X call lf i0 c0⟩
theorem f109_X0 (L0:List ByteArray)(G1:Nat)(X:Ext)(call:Caller)(lf i0:Nat)(a:ByteArray)(r14:List AV)(b0:Bool)
 (g0:decide ((↑i0:Int)<(↑L0.length:Int))=true→keep [] (indexAddrv Tryd.prog 25 [] (lro L0.length 1 (List.map st L0)) (i6 (↑i0:Int)))=some (AV.eaddr (st a::r14),[]))
 (g1:decide ((↑i0:Int)<(↑L0.length:Int))=true→callv X call false G1 [st a] [] 0=some (bo b0,[])) :
    (f109_o0 L0 i0 b0=1→vexec Tryd.prog X call lf 0 noFg (loopN Tryd.f109 0) (f109_F0 L0 G1 i0)=some (Ex.ret,(f109_S1 L0 G1 i0 a r14)))∧(f109_o0 L0 i0 b0=2→vexec Tryd.prog X call lf 0 noFg (loopN Tryd.f109 0) (f109_F0 L0 G1 i0)=some (Ex.exit 0,(f109_S2 L0 G1 i0))):=by
  unfold f109_o0
  cases c0:decide ((↑i0:Int)<(↑L0.length:Int)) with
  | true =>
    cases c1:b0 with
    | true =>
      exact ⟨fun _=>f109_r0_tt L0 G1 X call lf i0 a r14 c0 (g0 c0) (by have:=(g1 c0); rw [c1] at this; exact this),fun h=>absurd (show (1:Nat)=2 from h) (by decide)⟩
    | false =>
      exact ⟨fun h=>absurd (show (0:Nat)=1 from h) (by decide),fun h=>absurd (show (0:Nat)=2 from h) (by decide)⟩
  | false =>
    exact ⟨fun h=>absurd (show (2:Nat)=1 from h) (by decide),fun _=>f109_r0_f L0 G1 X call lf i0 c0⟩
theorem f109_M (L0:List ByteArray)(G1:Nat)(X:Ext)(call:Caller)(lf n:Nat)(a:Nat→ByteArray)(r14:Nat→List AV)(b0:Nat→Bool)
 (hn:n<lf)
 (g0:∀ i0,i0 ≤ n→decide ((↑i0:Int)<(↑L0.length:Int))=true→keep [] (indexAddrv Tryd.prog 25 [] (lro L0.length 1 (List.map st L0)) (i6 (↑i0:Int)))=some (AV.eaddr (st (a i0)::(r14 i0)),[]))
 (g1:∀ i0,i0 ≤ n→decide ((↑i0:Int)<(↑L0.length:Int))=true→callv X call false G1 [st (a i0)] [] 0=some (bo (b0 i0),[]))
 (e0:∀ i0,i0<n→decide ((↑i0:Int)<(↑L0.length:Int))=true→(↑(i0 + 1):Int)=w6 ((↑i0:Int) + 1))
 (hz:∀ j,j<n→f109_o0 L0 j (b0 j)=0) :
    (f109_o0 L0 n (b0 n)=1→vbody Tryd.prog X call lf noFg Tryd.f109 (codeOf Tryd.f109) [strs L0,AV.clo G1 []] [] 0=some (i6 (↑n:Int),[]))∧(f109_o0 L0 n (b0 n)=2→vbody Tryd.prog X call lf noFg Tryd.f109 (codeOf Tryd.f109) [strs L0,AV.clo G1 []] [] 0=some (i6 (-1),[])):=by
  have key:∀ j,j<n→_:=fun j hj=>(f109_B0 L0 G1 X call lf j (a j) (r14 j) (b0 j) (g0 j (Nat.le_of_lt hj)) (g1 j (Nat.le_of_lt hj)) (e0 j hj)).1 (hz j hj)
  have kn:=f109_X0 L0 G1 X call lf n (a n) (r14 n) (b0 n) (g0 n (Nat.le_refl n)) (g1 n (Nat.le_refl n))
  exact ⟨fun hk=>f109_pltt L0 G1 X call lf n (a n) (r14 n) (f109_L0 L0 G1 X call lf n _ _ hn key (kn.1 hk) (by simp)),
    fun hk=>f109_plf L0 G1 X call lf n (f109_L0 L0 G1 X call lf n _ _ hn key (kn.2 hk) (by simp))⟩
end Go.Proofs.Lex
end
/- Lexicon: dashed, undashed; the first empty string of a list. -/
section
open Go Go.Vm Go.Proofs
namespace Go.Proofs.Lex
/-- The place of the first empty string. -/
def idxE (l:List ByteArray):Int:=match l.findIdx? (fun s=>decide (s=emp)) with
  | some i=>i
  | none => -1
theorem idxE_none {l:List ByteArray} (h:∀ s ∈ l,s ≠ emp):idxE l = -1:=by
  unfold idxE
  rw [List.findIdx?_eq_none_iff.2 fun x hx=>by simpa using h x hx]
theorem idxE_some {l:List ByteArray} {k:Nat} (hk:k < l.length) (hp:nS l k=emp) (hb:∀ i,i < k→nS l i ≠ emp):idxE l=k:=by
  unfold idxE
  have : l.findIdx? (fun s => decide (s = emp)) = some k := by
    rw [List.findIdx?_eq_some_iff_getElem]
    refine ⟨hk,?_,fun j hj => ?_⟩
    · have := hp
      rw [nS,getD_lt hk] at this
      simpa using this
    · have := hb j hj
      rw [nS,getD_lt (by omega)] at this
      simpa using this
  rw [this]
section
variable {X:Ext} {call:Caller} {lf:Nat}
theorem walk77 (s:ByteArray):vbody Tryd.prog X call lf noFg Tryd.f77 (codeOf Tryd.f77) [st s] [] 0=some (bo (decide (s=emp)),[]):=by
  by_cases e:s=emp
  · rw [decide_eq_true e]
    exact (f77_P0 s X call lf).1 (by unfold f77_q0; rw [show (s.toList == (ByteArray.mk #[]).toList)=true from eqB_iff.2 e])
  · rw [decide_eq_false e]
    exact (f77_P0 s X call lf).2 (by unfold f77_q0; rw [show (s.toList == (ByteArray.mk #[]).toList)=false from eqB_ne.2 e])
theorem walk109 {l:List ByteArray} (hl:l.length ≤ big) (hlf:l.length < lf) (hg:∀ s,callv X call false 77 [st s] [] 0=some (bo (decide (s=emp)),[])) :
    vbody Tryd.prog X call lf noFg Tryd.f109 (codeOf Tryd.f109) [Go.Vm.strs l,.clo 77 []] [] 0=some (i6 (idxE l),[]):=by
  have ho : ∀ i, (i < l.length → nS l i ≠ emp → f109_o0 l i (decide (nS l i = emp)) = 0) ∧ (i < l.length → nS l i = emp → f109_o0 l i (decide (nS l i = emp)) = 1) ∧ (¬ i < l.length → f109_o0 l i (decide (nS l i = emp)) = 2) := by
    intro i
    unfold f109_o0
    refine ⟨fun h1 h2 => ?_,fun h1 h2 => ?_,fun h1 => ?_⟩
    · rw [decide_eq_true (by omega),decide_eq_false h2]
    · rw [decide_eq_true (by omega),decide_eq_true h2]
    · rw [decide_eq_false (by omega)]
  rcases first_fail (p:=fun i=>nS l i ≠ emp) l.length with hall | ⟨k,hk,hbad,hbef⟩
  · have M := f109_M l 77 X call lf l.length (fun i => nS l i) (fun i => tS l i) (fun i => decide (nS l i = emp)) hlf (fun i _ h => at_strs (by simpa using h)) (fun i _ h => hg _) (fun i h _ => up h hl) (fun j hj => (ho j).1 hj (hall j hj))
    rw [idxE_none fun s hs => by
      obtain ⟨i,hi,rfl⟩:=List.getElem_of_mem hs
      have:=hall i hi
      rwa [nS,getD_lt hi] at this]
    exact M.2 ((ho _).2.2 (by omega))
  · have hp : nS l k = emp := by simpa using hbad
    have M:=f109_M l 77 X call lf k (fun i=>nS l i) (fun i=>tS l i) (fun i=>decide (nS l i=emp)) (by omega) (fun i _ h=>at_strs (by simpa using h)) (fun i _ h=>hg _) (fun i h _=>up (n:=l.length) (by omega) hl) (fun j hj=>(ho j).1 (by omega) (hbef j hj))
    rw [idxE_some hk hp hbef]
    exact M.1 ((ho k).2.1 hk hp)
end
section
variable [Fixed] {X:Ext}
theorem call77 (hX:ExtOk Tryd.prog X) (hL:XL X) (s:ByteArray):CallAt Tryd.prog 77 [aS.enc s] [] 0 (aB.enc (decide (s=emp))) [] :=
  run_res (B:=aB) hX (callerOf_ok (SpecOk.none' (P:=Tryd.prog))) (hL.dom 77 rfl rfl) Tryd.func77 (by kernel_rfl) (walk77 (lf:=0) s) (aB.de _)
theorem call109 (hX:ExtOk Tryd.prog X) (hL:XL X) {l:List ByteArray} (hl:l.length ≤ big):CallAt Tryd.prog 109 [Go.Vm.strs l,.clo 77 []] [] 0 (aI.enc (idxE l)) []:=by
  have hT : SpecOk Tryd.prog (Go.Vm.Spec.on (fun _ _ => none) 77 (sp1 aS fun s => some (aB.enc (decide (s = emp))))) := SpecOk.on1 SpecOk.none' fun s r h => by
    simp only [Option.some.injEq] at h
    subst h
    exact call77 hX hL s
  obtain ⟨a1,a2,a3⟩:=hL.ok 77 rfl
  exact run_res (B := aI) hX (callerOf_ok hT) (hL.dom 109 rfl rfl) Tryd.func109 (by kernel_rfl) (walk109 (lf := l.length + 1) hl (by omega) fun s => call_on (B := aB) (y := decide (s = emp)) a1 a2 a3 rfl (by
    show sp1 aS (fun s=>some (aB.enc (decide (s=emp)))) [aS.enc s]=_
    rw [sp1_at (aS.de _)])) (aI.de _)
def dashS (s:ByteArray):ByteArray:=if s=emp then ⟨#[45]⟩ else s
def undashS (s:ByteArray):ByteArray:=if s=⟨#[45]⟩ then emp else s
theorem call47 (hX:ExtOk Tryd.prog X) (hL:XL X) (s:ByteArray):CallAt Tryd.prog 47 [aS.enc s] [] 0 (aS.enc (dashS s)) []:=by
  refine run_res (B:=aS) (lf:=0) (fg:=noFg) (σ' := []) (r:=st (dashS s)) hX (callerOf_ok (SpecOk.none' (P:=Tryd.prog))) (hL.dom 47 rfl rfl) Tryd.func47 (by kernel_rfl) ?_ (aS.de _)
  unfold dashS
  by_cases e:s=emp
  · rw [if_pos e]
    exact (f47_P0 s X _ 0).1 (by unfold f47_q0; rw [show (s.toList == (ByteArray.mk #[]).toList)=true from eqB_iff.2 e])
  · rw [if_neg e]
    exact (f47_P0 s X _ 0).2 (by unfold f47_q0; rw [show (s.toList == (ByteArray.mk #[]).toList)=false from eqB_ne.2 e])
theorem call56 (hX:ExtOk Tryd.prog X) (hL:XL X) (s:ByteArray):CallAt Tryd.prog 56 [aS.enc s] [] 0 (aS.enc (undashS s)) []:=by
  refine run_res (B:=aS) (lf:=0) (fg:=noFg) (σ' := []) (r:=st (undashS s)) hX (callerOf_ok (SpecOk.none' (P:=Tryd.prog))) (hL.dom 56 rfl rfl) Tryd.func56 (by kernel_rfl) ?_ (aS.de _)
  unfold undashS
  by_cases e:s=⟨#[45]⟩
  · rw [if_pos e]
    exact (f56_P0 s X _ 0).1 (by unfold f56_q0; rw [show (s.toList == (ByteArray.mk #[45]).toList)=true from eqB_iff.2 e])
  · rw [if_neg e]
    exact (f56_P0 s X _ 0).2 (by unfold f56_q0; rw [show (s.toList == (ByteArray.mk #[45]).toList)=false from eqB_ne.2 e])
end
end Go.Proofs.Lex
end
/- Lexicon: join: the parts that are not empty, where the last alone may be. -/
section
set_option linter.unusedVariables false
open Go Go.Vm Go.Proofs
open Go.RowKit
namespace Go.Proofs.Lex
section
variable [Fixed] {X:Ext}
def C00:Ctx:=⟨[],fun _=>0,fun _=>0,fun _=>False⟩
theorem C00_ok {C:Ctx} {w:World} (hs:SOk C w):SOk C00 w :=
  ⟨fun id o h=>by simp [C00] at h,fun i j oi oj h=>by simp [C00] at h,fun id o h=>by simp [C00] at h,fun id o h=>by simp [C00] at h,fun b h=>h.elim,fun b X hX=>⟨(hs.fx b X hX).1,fun id o h=>by simp [C00] at h⟩⟩
/-- The world behind a call that makes memory alone. -/
structure More (w w' : World):Prop where
  os:w'.os=w.os
  tape:w'.tape=w.tape
  output:w'.output=w.output
  size:w.heap.size ≤ w'.heap.size
  blk:∀ x,x < w.heap.size→w'.heap[x]? = w.heap[x]?
theorem more_of {w w' : World} {C' : Ctx} (hg:Grow 0 C00 w C' w'):More w w' :=
  ⟨hg.os,hg.tape,hg.output,hg.size,fun x hx=>hg.blk x hx fun id o _ h=>by simp [C00] at h⟩
theorem strs_at {w:World} {b:Nat} {l:List ByteArray} (hb:w.heap[b]? = some (.cells (l.map Value.string).toArray 9 (0,0))) (hl:l.length ≤ big):Rep C00 w (Go.Vm.strs l) (.slice (some ⟨b,0,none⟩) l.length l.length):=by
  unfold Go.Vm.strs
  simp only [Rep]
  refine ⟨by simp,one_strs _,some ⟨b,0,none⟩,l.length,rfl,Nat.le_refl _,?_,by simp,by simp,fun _ => ?_⟩
  · have : l.length ≤ 140737488355328 := hl
    show _ ≤ maxLen
    unfold maxLen
    omega
  · refine ⟨b, 0, l.map Value.string, rfl, (Array.getElem?_eq_some_iff.1 hb).1, ?_, ?_, plainA.all C00 _ l⟩
    · rintro (h | ⟨id, o, h, _⟩)
      · exact h
      · simp [C00] at h
    · intro i x hi
      rw [Lib.cell_of_heap hb]
      simpa using hi
theorem idx_calls (hX:ExtOk Tryd.prog X) (hL:XL X) {C:Ctx} {w:World} (hs:SOk C w) {b:Nat} {l:List ByteArray} (hb:w.heap[b]? = some (.cells (l.map Value.string).toArray 9 (0,0))) (hl:l.length ≤ big) :
    Calls Tryd.prog 109 #[.slice (some ⟨b,0,none⟩) l.length l.length,.func (.func 77) #[] #[]] w fun e w' => e = .returned (.int .i64 (idxE l))∧More w w' := by
  have h := (call109 hX hL hl).2 C00 w [.slice (some ⟨b, 0, none⟩) l.length l.length, .func (.func 77) #[] #[]] rfl (C00_ok hs) (Nat.le_refl _) (by
    simp only [RepAll,and_true]
    refine ⟨strs_at hb hl,?_⟩
    simp only [Rep]
    exact ⟨[],rfl,by simp only [RepAll]⟩)
  refine Calls.mono h ?_
  rintro e w' ⟨u,C',rfl,_,_,hg,hr,_⟩
  have hr:Rep C' w' (.int .i64 (idxE l)) u:=hr
  simp only [Rep] at hr
  subst hr
  exact ⟨rfl,more_of hg⟩
theorem idx5_none {a c d e t:ByteArray} (ha:a ≠ emp) (hc:c ≠ emp) (hd:d ≠ emp) (he:e ≠ emp) (ht:t ≠ emp):idxE [a,c,d,e,t] = -1 :=
  idxE_none (by simp [ha,hc,hd,he,ht])
theorem idx5_four {a c d e:ByteArray} (ha:a ≠ emp) (hc:c ≠ emp) (hd:d ≠ emp) (he:e ≠ emp):idxE [a,c,d,e,emp]=4 :=
  idxE_some (k := 4) (by simp) rfl (fun i hi => by
    match i,hi with
    | 0,_=>exact ha
    | 1,_=>exact hc
    | 2,_=>exact hd
    | 3,_=>exact he)
theorem del76_full (hX:ExtOk Tryd.prog X) (hL:XL X) {C:Ctx} {w:World} (hs:SOk C w) {b:Nat} {a c d e t:ByteArray} (hb:w.heap[b]? = some (.cells ([a,c,d,e,t].map Value.string).toArray 9 (0,0)))
    (ha:a ≠ emp) (hc:c ≠ emp) (hd:d ≠ emp) (he:e ≠ emp) (ht:t ≠ emp) :
    Calls Tryd.prog 76 #[.slice (some ⟨b,0,none⟩) 5 5,.func (.func 77) #[] #[]] w fun x w' => x = .returned (.slice (some ⟨b,0,none⟩) 5 5)∧More w w' := by
  have hi:=idx_calls hX hL hs hb (show 5 ≤ big by decide)
  rw [idx5_none ha hc hd he ht] at hi
  have hi' : Calls Tryd.prog 109 #[.slice (some ⟨b,0,none⟩) 5 5,.func (.func 77) #[] #[]] w fun e w' => e = .returned (.int .i64 (-1))∧More w w' := hi
  clear hi hX hL hs ha hc hd he ht hb
  go_enter Tryd.func76,Tryd.ntmps76
  go_wp2_with (go_at_call 109; refine hi'.mono ?_; rintro e w1 ⟨rfl,h1⟩)
  go_ret
  exact ⟨rfl,h1⟩
theorem More.trans {w1 w2 w3:World} (h:More w1 w2) (k:More w2 w3):More w1 w3 :=
  ⟨k.os.trans h.os,k.tape.trans h.tape,k.output.trans h.output,Nat.le_trans h.size k.size,fun x hx=>(k.blk x (Nat.lt_of_lt_of_le hx h.size)).trans (h.blk x hx)⟩
theorem More.drew {w1 w2:World} (h:More w1 w2):More w1 w2.drew:=⟨h.os,h.tape,h.output,h.size,h.blk⟩
/-- What lies there, laid there again. -/
theorem put_same {w:World} {b:Nat} {us:Array Value} {e:TypeId} {k:Nat} {v:Value} (hb:w.heap[b]? = some (.cells us e (0,0))) (hk:us[k]? = some v):More w (w.setCell ⟨b,k,none⟩ v):=by
  refine ⟨rfl,rfl,rfl,by simp [World.setCell],fun x hx => ?_⟩
  by_cases h:x=b
  · subst h
    simp only [World.setCell,Array.getElem?_modify,if_true,hb,Option.map_some]
    obtain ⟨hlt,rfl⟩:=Array.getElem?_eq_some_iff.1 hk
    congr 2
    show us.setIfInBounds k us[k]=us
    apply Array.ext (by simp)
    intro i h1 h2
    rw [Array.getElem_setIfInBounds h2]
    split
    · rename_i h
      subst h
      rfl
    · rfl
  · exact Below.heap_setCell _ _ _ _ h
theorem del76_last (hX:ExtOk Tryd.prog X) (hL:XL X) {C:Ctx} {w:World} (hs:SOk C w) {b:Nat} {a c d e:ByteArray} (hb:w.heap[b]? = some (.cells ([a,c,d,e,emp].map Value.string).toArray 9 (0,0)))
    (ha:a ≠ emp) (hc:c ≠ emp) (hd:d ≠ emp) (he:e ≠ emp) :
    Calls Tryd.prog 76 #[.slice (some ⟨b,0,none⟩) 5 5,.func (.func 77) #[] #[]] w fun x w' => x = .returned (.slice (some ⟨b,0,none⟩) 4 5)∧More w w' := by
  have hi:=idx_calls hX hL hs hb (show 5 ≤ big by decide)
  rw [idx5_four ha hc hd he] at hi
  have hi' : Calls Tryd.prog 109 #[.slice (some ⟨b,0,none⟩) 5 5,.func (.func 77) #[] #[]] w fun e w' => e = .returned (.int .i64 4)∧More w w' := hi
  have hlt:=(Array.getElem?_eq_some_iff.1 hb).1
  have hcl : ∀ (w1 : World), More w w1 → ∀ ty, (Builtin.clear_ #[25] ty #[.slice (some ⟨b, 4, none⟩) 1 1]).run Tryd.prog w1 = .ok (.tuple #[]) (w1.setCell ⟨b, 4, none⟩ (.string emp)) ∧ More w (w1.setCell ⟨b, 4, none⟩ (.string emp)) := by
    intro w1 h1 ty
    have hb1:=(h1.blk b hlt).trans hb
    refine ⟨?_,h1.trans (put_same hb1 rfl)⟩
    have := Lib.run_clear_slice (P := Tryd.prog) w1 25 9 ty (.string emp) Tryd.underlying25 (fun w => by kernel_rfl) rfl rfl b 4 1 1 (by omega) (fun j hj => by
      have:j=0:=by omega
      subst this
      rw [Lib.cell_of_heap hb1]
      rfl) (fun j hj=>Lib.frozen_of_heap hb1 _)
    rw [this]
    rfl
  clear hi hX hL hs ha hc hd he hb
  go_enter Tryd.func76,Tryd.ntmps76
  go_wp2_with (go_at_call 109; refine hi'.mono ?_; rintro e w1 ⟨rfl,h1⟩)
  go_loop [5,6] (fun x y=>x = .int .i64 4∧y = .int .i64 5) (fun _ _=>0)
  case atStart=>exact ⟨rfl,rfl⟩
  case round =>
    obtain ⟨rfl,rfl⟩:=hrel
    obtain ⟨e1,h2⟩:=hcl w1 h1 0
    go_wp2
    go_ret
    exact ⟨rfl,h2⟩
abbrev blank:ByteArray:=⟨#[32]⟩
/-- The parts of a line that are there. -/
def partsL (a c d e t:ByteArray):List ByteArray:=if t=emp then [a,c,d,e] else [a,c,d,e,t]
theorem join_calls {w w1:World} (h:More w w1) {b n:Nat} {us:List Value} {e:TypeId} {l:List ByteArray} (hb:w.heap[b]? = some (.cells us.toArray e (0,0))) (hn:0 < l.length) (hl:l.length ≤ 5) (hu:∀ (j:Nat) x,l[j]? = some x→us[j]? = some (.string x)) (hj:(joinB l blank).length ≤ 140737488355328) :
    Calls Tryd.prog 55 #[.slice (some ⟨b,0,none⟩) l.length 5,.string blank] w1 fun e w' => e = .returned (.string ⟨(joinB l blank).toArray⟩)∧More w w' := by
  have hlt:=(Array.getElem?_eq_some_iff.1 hb).1
  have hb1:=(h.blk b hlt).trans hb
  refine Calls.mono (Any.strings_Join Tryd.laysJoin Tryd.joinExtra b 0 5 l blank w1 (fun j x hx => ?_) (Nat.lt_of_lt_of_le hlt h.size) (by omega) hl hj) ?_
  · rw [Lib.cell_of_heap hb1, Nat.zero_add]
    simpa using hu j x hx
  · rintro e w' ⟨rfl, hb⟩
    exact ⟨rfl,h.trans ⟨hb.os,hb.tape,hb.output,hb.size,fun x hx=>hb.block x hx⟩⟩
theorem join46 (hX:ExtOk Tryd.prog X) (hL:XL X) {C:Ctx} {w:World} (hs:SOk C w) {b:Nat} {a c d e t:ByteArray} (hb:w.heap[b]? = some (.cells ([a,c,d,e,t].map Value.string).toArray 9 (0,0)))
    (ha:a ≠ emp) (hc:c ≠ emp) (hd:d ≠ emp) (he:e ≠ emp) (hj:(joinB (partsL a c d e t) blank).length ≤ 140737488355328) :
    Calls Tryd.prog 46 #[.slice (some ⟨b,0,none⟩) 5 5] w fun x w' => x = .returned (.string ⟨(joinB (partsL a c d e t) blank).toArray⟩)∧More w w' := by
  by_cases ht:t=emp
  · subst ht
    have hp:partsL a c d e emp=[a,c,d,e]:=if_pos rfl
    rw [hp] at hj ⊢
    have h1:=del76_last hX hL hs hb ha hc hd he
    have h2 : ∀ w1, More w w1 → Calls Tryd.prog 55 #[.slice (some ⟨b, 0, none⟩) 4 5, .string blank] w1 fun e' w' => e' = .returned (.string ⟨(joinB [a, c, d, e] blank).toArray⟩) ∧ More w w' := fun w1 hm =>
      join_calls (n := 0) (l := [a, c, d, e]) hm hb (by simp) (by simp) (fun j x hx => by
        match j,hx with
        | 0,hx=>simpa using hx
        | 1,hx=>simpa using hx
        | 2,hx=>simpa using hx
        | 3,hx=>simpa using hx
        | n + 4,hx=>simp at hx) hj
    clear hX hL hs ha hc hd he hj hb hp
    generalize hJ:(joinB [a,c,d,e] blank).toArray=J at h2 ⊢
    clear hJ
    go_enter Tryd.func46,Tryd.ntmps46
    go_wp2_with (first | (go_at_call 76; refine h1.mono ?_; rintro e w1 ⟨rfl,hm1⟩) | (go_at_call 55; refine (h2 _ hm1).mono ?_; rintro e w2 ⟨rfl,hm2⟩))
    go_ret
    exact ⟨rfl,hm2⟩
  · have hp : partsL a c d e t = [a, c, d, e, t] := if_neg ht
    rw [hp] at hj ⊢
    have h1:=del76_full hX hL hs hb ha hc hd he ht
    have h2 : ∀ w1, More w w1 → Calls Tryd.prog 55 #[.slice (some ⟨b, 0, none⟩) 5 5, .string blank] w1 fun e' w' => e' = .returned (.string ⟨(joinB [a, c, d, e, t] blank).toArray⟩) ∧ More w w' := fun w1 hm =>
      join_calls (n := 0) (l := [a, c, d, e, t]) hm hb (by simp) (by simp) (fun j x hx => by
        rw [List.getElem?_map,hx]; rfl) hj
    clear hX hL hs ha hc hd he ht hj hb hp
    generalize hJ:(joinB [a,c,d,e,t] blank).toArray=J at h2 ⊢
    clear hJ
    go_enter Tryd.func46,Tryd.ntmps46
    go_wp2_with (first | (go_at_call 76; refine h1.mono ?_; rintro e w1 ⟨rfl,hm1⟩) | (go_at_call 55; refine (h2 _ hm1).mono ?_; rintro e w2 ⟨rfl,hm2⟩))
    go_ret
    exact ⟨rfl,hm2⟩
end
end Go.Proofs.Lex
end
/- Lexicon: names and records, as specifications. -/
section
open Go Go.Vm Go.Proofs
namespace Go.Proofs.Lex
/-- A function of one argument, where it is told. -/
def s1 [Fixed] {α β:Type} (A:Arg α) (B:Arg β) (g:α→β) (ok:α→Prop) [DecidablePred ok]:List AV→Option AV:=sp1 A fun x=>if ok x then some (B.enc (g x)) else none
section
variable [Fixed] {α β:Type} {A:Arg α} {B:Arg β} {g:α→β} {ok:α→Prop} [DecidablePred ok]
theorem s1_at {x:α} (h:ok x):s1 A B g ok [A.enc x]=some (B.enc (g x)):=by
  unfold s1
  rw [sp1_at (A.de _),if_pos h]
theorem SpecOk.s1 {T:Go.Vm.Spec} (hT:SpecOk Tryd.prog T) {f:FuncId} (h:∀ x,ok x→CallAt Tryd.prog f [A.enc x] [] 0 (B.enc (g x)) []):SpecOk Tryd.prog (T.on f (s1 A B g ok)):=by
  refine SpecOk.on1 hT fun x r hr => ?_
  split at hr
  · rename_i hx
    simp only [Option.some.injEq] at hr
    subst hr
    exact h x hx
  · cases hr
end
/-- Features that a machine can bear. -/
abbrev okF (F:List Feat):Prop:=F.length ≤ big∧∀ f ∈ F,f.name.size ≤ big∧f.value.size ≤ big
section
variable [Fixed] {X:Ext}
abbrev okS (s:ByteArray):Prop:=s.size ≤ big
theorem call43 (hX:ExtOk Tryd.prog X) (hL:XL X) {s:ByteArray} (h:okS s):CallAt Tryd.prog 43 [aS.enc s] [] 0 (aB.enc (nameL s)) [] :=
  run_res (B:=aB) hX (callerOf_ok (SpecOk.none' (P:=Tryd.prog))) (hL.dom 43 rfl rfl) Tryd.func43 (by kernel_rfl) (name43 (lf:=s.size + 1) h (by omega)) (aB.de _)
theorem call49 (hX:ExtOk Tryd.prog X) (hL:XL X) {s:ByteArray} (h:okS s):CallAt Tryd.prog 49 [aS.enc s] [] 0 (aB.enc (nameL s)) [] :=
  run_res (B:=aB) hX (callerOf_ok (SpecOk.none' (P:=Tryd.prog))) (hL.dom 49 rfl rfl) Tryd.func49 (by kernel_rfl) (name49 (lf:=s.size + 1) h (by omega)) (aB.de _)
theorem call75 (hX:ExtOk Tryd.prog X) (hL:XL X) {s:ByteArray} (h:okS s):CallAt Tryd.prog 75 [aS.enc s] [] 0 (aB.enc (nameF s)) [] :=
  run_res (B:=aB) hX (callerOf_ok (SpecOk.none' (P:=Tryd.prog))) (hL.dom 75 rfl rfl) Tryd.func75 (by kernel_rfl) (name75 (lf:=s.size + 1) h (by omega)) (aB.de _)
theorem call81 (hX:ExtOk Tryd.prog X) (hL:XL X) {s:ByteArray} (h:okS s):CallAt Tryd.prog 81 [aS.enc s] [] 0 (aB.enc (nameF s)) [] :=
  run_res (B:=aB) hX (callerOf_ok (SpecOk.none' (P:=Tryd.prog))) (hL.dom 81 rfl rfl) Tryd.func81 (by kernel_rfl) (name81 (lf:=s.size + 1) h (by omega)) (aB.de _)
theorem call82 (hX:ExtOk Tryd.prog X) (hL:XL X) {F:List Feat} (h:F.length ≤ big):CallAt Tryd.prog 82 [aFs.enc F] [] 0 (aB.enc (ascF F)) []:=by
  obtain ⟨σ,hv⟩:=rec82 (X:=X) (call:=callerOf fun _ _=>none) (lf:=F.length + 1) h (by omega)
  exact run_res (B:=aB) hX (callerOf_ok (SpecOk.none' (P:=Tryd.prog))) (hL.dom 82 rfl rfl) Tryd.func82 (by kernel_rfl) hv (aB.de _)
def U0:Go.Vm.Spec:=((((Go.Vm.Spec.on (fun _ _=>none) 43 (s1 aS aB nameL okS)).on 49 (s1 aS aB nameL okS)).on 75 (s1 aS aB nameF okS)).on 81 (s1 aS aB nameF okS)).on 82 (s1 aFs aB ascF fun F=>F.length ≤ big)
theorem U0_ok (hX:ExtOk Tryd.prog X) (hL:XL X):SpecOk Tryd.prog U0 :=
  SpecOk.s1 (SpecOk.s1 (SpecOk.s1 (SpecOk.s1 (SpecOk.s1 SpecOk.none' fun _ h=>call43 hX hL h) fun _ h=>call49 hX hL h) fun _ h=>call75 hX hL h) fun _ h=>call81 hX hL h) fun _ h=>call82 hX hL h
theorem okF_nth {F:List Feat} (h:okF F) {i:Nat} (hi:i < F.length):okS (nF F i).name∧okS (nF F i).value:=by
  have:=h.2 (nF F i) (by rw [nF,getD_lt hi]; exact List.getElem_mem hi)
  exact this
theorem call45 (hX:ExtOk Tryd.prog X) (hL:XL X) {F:List Feat} (h:okF F):CallAt Tryd.prog 45 [aFs.enc F] [] 0 (aB.enc (validF F)) []:=by
  have hC:=callerOf_ok (U0_ok hX hL)
  obtain ⟨a1,a2,a3⟩:=hL.ok 75 rfl
  have hc : ∀ s, okS s → ∀ σ, callv X (callerOf U0) true 75 [st s] σ 0 = some (bo (nameF s), σ) := fun s hs σ =>
    call_on (B:=aB) (T:=U0) (y:=nameF s) (vs:=[aS.enc s]) a1 a2 a3 rfl (s1_at (A:=aS) (B:=aB) (g:=nameF) (ok:=okS) hs)
  obtain ⟨σ,hv⟩:=valid45 (X:=X) (call:=callerOf U0) (lf:=F.length + 1) h.1 (by omega) fun i hi σ=>⟨hc _ (okF_nth h hi).1 σ,hc _ (okF_nth h hi).2 σ⟩
  exact run_res (B:=aB) hX hC (hL.dom 45 rfl rfl) Tryd.func45 (by kernel_rfl) hv (aB.de _)
theorem call50 (hX:ExtOk Tryd.prog X) (hL:XL X) {F:List Feat} (h:okF F):CallAt Tryd.prog 50 [aFs.enc F] [] 0 (aB.enc (validF F)) []:=by
  have hC:=callerOf_ok (U0_ok hX hL)
  obtain ⟨a1,a2,a3⟩:=hL.ok 81 rfl
  obtain ⟨b1,b2,b3⟩:=hL.ok 82 rfl
  have hc : ∀ s, okS s → ∀ σ, callv X (callerOf U0) false 81 [st s] σ 0 = some (bo (nameF s), σ) := fun s hs σ =>
    call_on (B:=aB) (T:=U0) (y:=nameF s) (vs:=[aS.enc s]) a1 a2 a3 rfl (s1_at (A:=aS) (B:=aB) (g:=nameF) (ok:=okS) hs)
  have hd : ∀ σ, callv X (callerOf U0) false 82 [featsV F] σ 0 = some (bo (ascF F), σ) := fun σ =>
    call_on (B:=aB) (T:=U0) (y:=ascF F) (vs:=[aFs.enc F]) b1 b2 b3 (by simp only [AV.ltAll,aFs.lt,Bool.and_self]) (s1_at (A:=aFs) (B:=aB) (g:=ascF) (ok:=fun F=>F.length ≤ big) h.1)
  obtain ⟨σ,hv⟩:=valid50 (X:=X) (call:=callerOf U0) (lf:=F.length + 1) h.1 (by omega) (fun i hi σ=>⟨hc _ (okF_nth h hi).1 σ,hc _ (okF_nth h hi).2 σ⟩) hd
  exact run_res (B:=aB) hX hC (hL.dom 50 rfl rfl) Tryd.func50 (by kernel_rfl) hv (aB.de _)
/-- Texts that a machine can bear. -/
abbrev okT (F:List Feat):Prop:=F.length ≤ big∧(textF F).length * 2 ≤ big
def textS (F:List Feat):ByteArray:=⟨(textF F).toArray⟩
def U1:Go.Vm.Spec:=((((U0.on 45 (s1 aFs aB validF okF)).on 50 (s1 aFs aB validF okF)).on 47 (s1 aS aS dashS fun _=>True)).on 56 (s1 aS aS undashS fun _=>True)).on 48 (s1 aFs aS textS okT)
theorem U1_ok (hX:ExtOk Tryd.prog X) (hL:XL X):SpecOk Tryd.prog U1 :=
  SpecOk.s1 (SpecOk.s1 (SpecOk.s1 (SpecOk.s1 (SpecOk.s1 (U0_ok hX hL) fun _ h=>call45 hX hL h) fun _ h=>call50 hX hL h) fun s _=>call47 hX hL s) fun s _=>call56 hX hL s) fun _ h=>call48 hX hL h.1 h.2
end
end Go.Proofs.Lex
end
/- Lexicon: Line (printed) -/
section
open Go Go.Vm Go.Proofs
namespace Go.Proofs.Lex
/-- Line, cut: its last region without the call of join. -/
def cutF (fn:Func):Func := { fn with body:=some (.seq (regN fn 0) (.seq (regN fn 1) (.seq (.region 3 ((opsF fn 3).extract 0 13) true) .ret))) }
def f21c_S0 (x1:Lexm):St :=
  stOf 60 [] [(0,AV.agg [st (Lexm.id x1),st (Lexm.cat x1),st (Lexm.stem x1),st (Lexm.par x1),lro (List.length (Lexm.feats x1)) 2 (List.flatMap featC (Lexm.feats x1))]),(1,AV.ref 0 0),(2,st (ByteArray.mk #[]))] [Ob.cells [st (Lexm.id x1),st (Lexm.cat x1),st (Lexm.stem x1),st (Lexm.par x1),lro (List.length (Lexm.feats x1)) 2 (List.flatMap featC (Lexm.feats x1))]]
theorem f21c_g1_fft (x1:Lexm)(X:Ext)(call:Caller)(lf:Nat)
 (h0:callv X call false 43 [st (Lexm.id x1)] [Ob.cells [st (Lexm.id x1),st (Lexm.cat x1),st (Lexm.stem x1),st (Lexm.par x1),lro (List.length (Lexm.feats x1)) 2 (List.flatMap featC (Lexm.feats x1))]] 0=some (bo true,[Ob.cells [st (Lexm.id x1),st (Lexm.cat x1),st (Lexm.stem x1),st (Lexm.par x1),lro (List.length (Lexm.feats x1)) 2 (List.flatMap featC (Lexm.feats x1))]]))
 (h1:callv X call false 43 [st (Lexm.cat x1)] [Ob.cells [st (Lexm.id x1),st (Lexm.cat x1),st (Lexm.stem x1),st (Lexm.par x1),lro (List.length (Lexm.feats x1)) 2 (List.flatMap featC (Lexm.feats x1))]] 0=some (bo true,[Ob.cells [st (Lexm.id x1),st (Lexm.cat x1),st (Lexm.stem x1),st (Lexm.par x1),lro (List.length (Lexm.feats x1)) 2 (List.flatMap featC (Lexm.feats x1))]]))
 (h2:(ByteArray.toList (Lexm.stem x1) == ByteArray.toList (ByteArray.mk #[45]))=false)
 (h3:callv X call false 44 [st (Lexm.stem x1),st (ByteArray.mk #[32,10])] [Ob.cells [st (Lexm.id x1),st (Lexm.cat x1),st (Lexm.stem x1),st (Lexm.par x1),lro (List.length (Lexm.feats x1)) 2 (List.flatMap featC (Lexm.feats x1))]] 0=some (bo false,[Ob.cells [st (Lexm.id x1),st (Lexm.cat x1),st (Lexm.stem x1),st (Lexm.par x1),lro (List.length (Lexm.feats x1)) 2 (List.flatMap featC (Lexm.feats x1))]]))
 (h4:(ByteArray.toList (Lexm.par x1) == ByteArray.toList (ByteArray.mk #[45]))=false)
 (h5:(!ByteArray.toList (Lexm.par x1) == ByteArray.toList (ByteArray.mk #[]))=true)
 (h6:callv X call false 43 [st (Lexm.par x1)] [Ob.cells [st (Lexm.id x1),st (Lexm.cat x1),st (Lexm.stem x1),st (Lexm.par x1),lro (List.length (Lexm.feats x1)) 2 (List.flatMap featC (Lexm.feats x1))]] 0=some (bo true,[Ob.cells [st (Lexm.id x1),st (Lexm.cat x1),st (Lexm.stem x1),st (Lexm.par x1),lro (List.length (Lexm.feats x1)) 2 (List.flatMap featC (Lexm.feats x1))]]))
 (h7:callv X call false 45 [lro (List.length (Lexm.feats x1)) 2 (List.flatMap featC (Lexm.feats x1))] [Ob.cells [st (Lexm.id x1),st (Lexm.cat x1),st (Lexm.stem x1),st (Lexm.par x1),lro (List.length (Lexm.feats x1)) 2 (List.flatMap featC (Lexm.feats x1))]] 0=some (bo true,[Ob.cells [st (Lexm.id x1),st (Lexm.cat x1),st (Lexm.stem x1),st (Lexm.par x1),lro (List.length (Lexm.feats x1)) 2 (List.flatMap featC (Lexm.feats x1))]])):vexec Tryd.prog X call lf 0 noFg (regN (cutF Tryd.f21) 1) (f21c_S0 x1)=some (Ex.normal,stOf 60 [] [(0,AV.agg [st (Lexm.id x1),st (Lexm.cat x1),st (Lexm.stem x1),st (Lexm.par x1),lro (List.length (Lexm.feats x1)) 2 (List.flatMap featC (Lexm.feats x1))]),(1,AV.ref 0 0),(2,st (ByteArray.mk #[])),(3,AV.ref 0 0),(4,st (Lexm.id x1)),(5,bo true),(6,bo false),(7,bo false),(8,AV.ref 0 1),(9,st (Lexm.cat x1)),(10,bo true),(11,bo false),(12,bo false),(13,bo false),(14,AV.ref 0 2),(15,st (Lexm.stem x1)),(16,bo false),(17,bo false),(18,bo false),(19,AV.ref 0 2),(20,st (Lexm.stem x1)),(21,bo false),(22,bo false),(23,bo false),(24,AV.ref 0 3),(25,st (Lexm.par x1)),(26,bo false),(27,bo false),(28,bo false),(29,AV.ref 0 3),(30,st (Lexm.par x1)),(31,bo true),(32,bo true),(33,AV.ref 0 3),(34,st (Lexm.par x1)),(35,bo true),(36,bo false),(37,bo false),(38,bo false),(39,bo false),(40,AV.ref 0 4),(41,lro (List.length (Lexm.feats x1)) 2 (List.flatMap featC (Lexm.feats x1))),(42,bo true),(43,bo false),(44,bo false)] [Ob.cells [st (Lexm.id x1),st (Lexm.cat x1),st (Lexm.stem x1),st (Lexm.par x1),lro (List.length (Lexm.feats x1)) 2 (List.flatMap featC (Lexm.feats x1))]]) :=
  around_sound (ans:=[(3,Ans.v (bo true)),(11,Ans.v (bo true)),(21,Ans.b false),(29,Ans.v (bo false)),(37,Ans.b false),(45,Ans.b true),(53,Ans.v (bo true)),(65,Ans.v (bo true))]) (by kernel_rfl) (ai h0 (ai h1 (ai h2 (ai h3 (ai h4 (ai h5 (ai h6 (ai h7 trivial))))))))
theorem f21c_g1_fff (x1:Lexm)(X:Ext)(call:Caller)(lf:Nat)
 (h0:callv X call false 43 [st (Lexm.id x1)] [Ob.cells [st (Lexm.id x1),st (Lexm.cat x1),st (Lexm.stem x1),st (Lexm.par x1),lro (List.length (Lexm.feats x1)) 2 (List.flatMap featC (Lexm.feats x1))]] 0=some (bo true,[Ob.cells [st (Lexm.id x1),st (Lexm.cat x1),st (Lexm.stem x1),st (Lexm.par x1),lro (List.length (Lexm.feats x1)) 2 (List.flatMap featC (Lexm.feats x1))]]))
 (h1:callv X call false 43 [st (Lexm.cat x1)] [Ob.cells [st (Lexm.id x1),st (Lexm.cat x1),st (Lexm.stem x1),st (Lexm.par x1),lro (List.length (Lexm.feats x1)) 2 (List.flatMap featC (Lexm.feats x1))]] 0=some (bo true,[Ob.cells [st (Lexm.id x1),st (Lexm.cat x1),st (Lexm.stem x1),st (Lexm.par x1),lro (List.length (Lexm.feats x1)) 2 (List.flatMap featC (Lexm.feats x1))]]))
 (h2:(ByteArray.toList (Lexm.stem x1) == ByteArray.toList (ByteArray.mk #[45]))=false)
 (h3:callv X call false 44 [st (Lexm.stem x1),st (ByteArray.mk #[32,10])] [Ob.cells [st (Lexm.id x1),st (Lexm.cat x1),st (Lexm.stem x1),st (Lexm.par x1),lro (List.length (Lexm.feats x1)) 2 (List.flatMap featC (Lexm.feats x1))]] 0=some (bo false,[Ob.cells [st (Lexm.id x1),st (Lexm.cat x1),st (Lexm.stem x1),st (Lexm.par x1),lro (List.length (Lexm.feats x1)) 2 (List.flatMap featC (Lexm.feats x1))]]))
 (h4:(ByteArray.toList (Lexm.par x1) == ByteArray.toList (ByteArray.mk #[45]))=false)
 (h5:(!ByteArray.toList (Lexm.par x1) == ByteArray.toList (ByteArray.mk #[]))=false)
 (h6:callv X call false 45 [lro (List.length (Lexm.feats x1)) 2 (List.flatMap featC (Lexm.feats x1))] [Ob.cells [st (Lexm.id x1),st (Lexm.cat x1),st (Lexm.stem x1),st (Lexm.par x1),lro (List.length (Lexm.feats x1)) 2 (List.flatMap featC (Lexm.feats x1))]] 0=some (bo true,[Ob.cells [st (Lexm.id x1),st (Lexm.cat x1),st (Lexm.stem x1),st (Lexm.par x1),lro (List.length (Lexm.feats x1)) 2 (List.flatMap featC (Lexm.feats x1))]])):vexec Tryd.prog X call lf 0 noFg (regN (cutF Tryd.f21) 1) (f21c_S0 x1)=some (Ex.normal,stOf 60 [] [(0,AV.agg [st (Lexm.id x1),st (Lexm.cat x1),st (Lexm.stem x1),st (Lexm.par x1),lro (List.length (Lexm.feats x1)) 2 (List.flatMap featC (Lexm.feats x1))]),(1,AV.ref 0 0),(2,st (ByteArray.mk #[])),(3,AV.ref 0 0),(4,st (Lexm.id x1)),(5,bo true),(6,bo false),(7,bo false),(8,AV.ref 0 1),(9,st (Lexm.cat x1)),(10,bo true),(11,bo false),(12,bo false),(13,bo false),(14,AV.ref 0 2),(15,st (Lexm.stem x1)),(16,bo false),(17,bo false),(18,bo false),(19,AV.ref 0 2),(20,st (Lexm.stem x1)),(21,bo false),(22,bo false),(23,bo false),(24,AV.ref 0 3),(25,st (Lexm.par x1)),(26,bo false),(27,bo false),(28,bo false),(29,AV.ref 0 3),(30,st (Lexm.par x1)),(31,bo false),(32,bo false),(37,bo false),(38,bo false),(39,bo false),(40,AV.ref 0 4),(41,lro (List.length (Lexm.feats x1)) 2 (List.flatMap featC (Lexm.feats x1))),(42,bo true),(43,bo false),(44,bo false)] [Ob.cells [st (Lexm.id x1),st (Lexm.cat x1),st (Lexm.stem x1),st (Lexm.par x1),lro (List.length (Lexm.feats x1)) 2 (List.flatMap featC (Lexm.feats x1))]]) :=
  around_sound (ans:=[(3,Ans.v (bo true)),(11,Ans.v (bo true)),(21,Ans.b false),(29,Ans.v (bo false)),(37,Ans.b false),(45,Ans.b false),(61,Ans.v (bo true))]) (by kernel_rfl) (ai h0 (ai h1 (ai h2 (ai h3 (ai h4 (ai h5 (ai h6 trivial)))))))
def f21c_S1 (x1:Lexm):St :=
  stOf 60 [3,4,5,6,7,8,9,10,11,12,13,14,15,16,17,18,19,20,21,22,23,24,25,26,27,28,29,30,31,32,33,34,35,36,37,38,39,40,41,42,43] [(0,AV.agg [st (Lexm.id x1),st (Lexm.cat x1),st (Lexm.stem x1),st (Lexm.par x1),lro (List.length (Lexm.feats x1)) 2 (List.flatMap featC (Lexm.feats x1))]),(1,AV.ref 0 0),(2,st (ByteArray.mk #[])),(44,bo false)] [Ob.cells [st (Lexm.id x1),st (Lexm.cat x1),st (Lexm.stem x1),st (Lexm.par x1),lro (List.length (Lexm.feats x1)) 2 (List.flatMap featC (Lexm.feats x1))]]
theorem f21c_g3_ (x1:Lexm)(X:Ext)(call:Caller)(lf:Nat)(x51 x54 x57:ByteArray)
 (h0:callv X call true 47 [st (Lexm.stem x1)] [Ob.cells [st (Lexm.id x1),st (Lexm.cat x1),st (Lexm.stem x1),st (Lexm.par x1),lro (List.length (Lexm.feats x1)) 2 (List.flatMap featC (Lexm.feats x1))]] 0=some (st x51,[Ob.cells [st (Lexm.id x1),st (Lexm.cat x1),st (Lexm.stem x1),st (Lexm.par x1),lro (List.length (Lexm.feats x1)) 2 (List.flatMap featC (Lexm.feats x1))]]))
 (h1:callv X call true 47 [st (Lexm.par x1)] [Ob.cells [st (Lexm.id x1),st (Lexm.cat x1),st (Lexm.stem x1),st (Lexm.par x1),lro (List.length (Lexm.feats x1)) 2 (List.flatMap featC (Lexm.feats x1))]] 0=some (st x54,[Ob.cells [st (Lexm.id x1),st (Lexm.cat x1),st (Lexm.stem x1),st (Lexm.par x1),lro (List.length (Lexm.feats x1)) 2 (List.flatMap featC (Lexm.feats x1))]]))
 (h2:callv X call true 48 [lro (List.length (Lexm.feats x1)) 2 (List.flatMap featC (Lexm.feats x1))] [Ob.cells [st (Lexm.id x1),st (Lexm.cat x1),st (Lexm.stem x1),st (Lexm.par x1),lro (List.length (Lexm.feats x1)) 2 (List.flatMap featC (Lexm.feats x1))]] 0=some (st x57,[Ob.cells [st (Lexm.id x1),st (Lexm.cat x1),st (Lexm.stem x1),st (Lexm.par x1),lro (List.length (Lexm.feats x1)) 2 (List.flatMap featC (Lexm.feats x1))]])):vexec Tryd.prog X call lf 0 noFg (regN (cutF Tryd.f21) 3) (f21c_S1 x1)=some (Ex.normal,stOf 60 [3,4,5,6,7,8,9,10,11,12,13,14,15,16,17,18,19,20,21,22,23,24,25,26,27,28,29,30,31,32,33,34,35,36,37,38,39,40,41,42,43] [(0,AV.agg [st (Lexm.id x1),st (Lexm.cat x1),st (Lexm.stem x1),st (Lexm.par x1),lro (List.length (Lexm.feats x1)) 2 (List.flatMap featC (Lexm.feats x1))]),(1,AV.ref 0 0),(2,st (ByteArray.mk #[])),(44,bo false),(45,AV.ref 0 0),(46,st (Lexm.id x1)),(47,AV.ref 0 1),(48,st (Lexm.cat x1)),(49,AV.ref 0 2),(50,st (Lexm.stem x1)),(51,st x51),(52,AV.ref 0 3),(53,st (Lexm.par x1)),(54,st x54),(55,AV.ref 0 4),(56,lro (List.length (Lexm.feats x1)) 2 (List.flatMap featC (Lexm.feats x1))),(57,st x57)] [Ob.cells [st (Lexm.id x1),st (Lexm.cat x1),st (Lexm.stem x1),st (Lexm.par x1),lro (List.length (Lexm.feats x1)) 2 (List.flatMap featC (Lexm.feats x1))]]) :=
  around_sound (ans:=[(7,Ans.v (st x51)),(10,Ans.v (st x54)),(13,Ans.v (st x57))]) (by kernel_rfl) (ai h0 (ai h1 (ai h2 trivial)))
theorem f21_pttt (x1:Lexm)(X:Ext)(call:Caller)(lf:Nat)
 (h0:callv X call false 43 [st (Lexm.id x1)] [Ob.cells [st (Lexm.id x1),st (Lexm.cat x1),st (Lexm.stem x1),st (Lexm.par x1),lro (List.length (Lexm.feats x1)) 2 (List.flatMap featC (Lexm.feats x1))]] 0=some (bo true,[Ob.cells [st (Lexm.id x1),st (Lexm.cat x1),st (Lexm.stem x1),st (Lexm.par x1),lro (List.length (Lexm.feats x1)) 2 (List.flatMap featC (Lexm.feats x1))]]))
 (h1:callv X call false 43 [st (Lexm.cat x1)] [Ob.cells [st (Lexm.id x1),st (Lexm.cat x1),st (Lexm.stem x1),st (Lexm.par x1),lro (List.length (Lexm.feats x1)) 2 (List.flatMap featC (Lexm.feats x1))]] 0=some (bo true,[Ob.cells [st (Lexm.id x1),st (Lexm.cat x1),st (Lexm.stem x1),st (Lexm.par x1),lro (List.length (Lexm.feats x1)) 2 (List.flatMap featC (Lexm.feats x1))]]))
 (h2:(ByteArray.toList (Lexm.stem x1) == ByteArray.toList (ByteArray.mk #[45]))=true):vbody Tryd.prog X call lf noFg Tryd.f21 (codeOf Tryd.f21) [AV.agg (lexC x1)] [] 0=some (st (ByteArray.mk #[]),[Ob.cells [st (Lexm.id x1),st (Lexm.cat x1),st (Lexm.stem x1),st (Lexm.par x1),lro (List.length (Lexm.feats x1)) 2 (List.flatMap featC (Lexm.feats x1))]]) :=
  along_sound (ans:=[(6,Ans.v (bo true)),(14,Ans.v (bo true)),(24,Ans.b true)]) (by kernel_rfl) (ai h0 (ai h1 (ai h2 trivial)))
theorem f21_pttft (x1:Lexm)(X:Ext)(call:Caller)(lf:Nat)
 (h0:callv X call false 43 [st (Lexm.id x1)] [Ob.cells [st (Lexm.id x1),st (Lexm.cat x1),st (Lexm.stem x1),st (Lexm.par x1),lro (List.length (Lexm.feats x1)) 2 (List.flatMap featC (Lexm.feats x1))]] 0=some (bo true,[Ob.cells [st (Lexm.id x1),st (Lexm.cat x1),st (Lexm.stem x1),st (Lexm.par x1),lro (List.length (Lexm.feats x1)) 2 (List.flatMap featC (Lexm.feats x1))]]))
 (h1:callv X call false 43 [st (Lexm.cat x1)] [Ob.cells [st (Lexm.id x1),st (Lexm.cat x1),st (Lexm.stem x1),st (Lexm.par x1),lro (List.length (Lexm.feats x1)) 2 (List.flatMap featC (Lexm.feats x1))]] 0=some (bo true,[Ob.cells [st (Lexm.id x1),st (Lexm.cat x1),st (Lexm.stem x1),st (Lexm.par x1),lro (List.length (Lexm.feats x1)) 2 (List.flatMap featC (Lexm.feats x1))]]))
 (h2:(ByteArray.toList (Lexm.stem x1) == ByteArray.toList (ByteArray.mk #[45]))=false)
 (h3:callv X call false 44 [st (Lexm.stem x1),st (ByteArray.mk #[32,10])] [Ob.cells [st (Lexm.id x1),st (Lexm.cat x1),st (Lexm.stem x1),st (Lexm.par x1),lro (List.length (Lexm.feats x1)) 2 (List.flatMap featC (Lexm.feats x1))]] 0=some (bo true,[Ob.cells [st (Lexm.id x1),st (Lexm.cat x1),st (Lexm.stem x1),st (Lexm.par x1),lro (List.length (Lexm.feats x1)) 2 (List.flatMap featC (Lexm.feats x1))]])):vbody Tryd.prog X call lf noFg Tryd.f21 (codeOf Tryd.f21) [AV.agg (lexC x1)] [] 0=some (st (ByteArray.mk #[]),[Ob.cells [st (Lexm.id x1),st (Lexm.cat x1),st (Lexm.stem x1),st (Lexm.par x1),lro (List.length (Lexm.feats x1)) 2 (List.flatMap featC (Lexm.feats x1))]]) :=
  along_sound (ans:=[(6,Ans.v (bo true)),(14,Ans.v (bo true)),(24,Ans.b false),(32,Ans.v (bo true))]) (by kernel_rfl) (ai h0 (ai h1 (ai h2 (ai h3 trivial))))
theorem f21_pttfft (x1:Lexm)(X:Ext)(call:Caller)(lf:Nat)
 (h0:callv X call false 43 [st (Lexm.id x1)] [Ob.cells [st (Lexm.id x1),st (Lexm.cat x1),st (Lexm.stem x1),st (Lexm.par x1),lro (List.length (Lexm.feats x1)) 2 (List.flatMap featC (Lexm.feats x1))]] 0=some (bo true,[Ob.cells [st (Lexm.id x1),st (Lexm.cat x1),st (Lexm.stem x1),st (Lexm.par x1),lro (List.length (Lexm.feats x1)) 2 (List.flatMap featC (Lexm.feats x1))]]))
 (h1:callv X call false 43 [st (Lexm.cat x1)] [Ob.cells [st (Lexm.id x1),st (Lexm.cat x1),st (Lexm.stem x1),st (Lexm.par x1),lro (List.length (Lexm.feats x1)) 2 (List.flatMap featC (Lexm.feats x1))]] 0=some (bo true,[Ob.cells [st (Lexm.id x1),st (Lexm.cat x1),st (Lexm.stem x1),st (Lexm.par x1),lro (List.length (Lexm.feats x1)) 2 (List.flatMap featC (Lexm.feats x1))]]))
 (h2:(ByteArray.toList (Lexm.stem x1) == ByteArray.toList (ByteArray.mk #[45]))=false)
 (h3:callv X call false 44 [st (Lexm.stem x1),st (ByteArray.mk #[32,10])] [Ob.cells [st (Lexm.id x1),st (Lexm.cat x1),st (Lexm.stem x1),st (Lexm.par x1),lro (List.length (Lexm.feats x1)) 2 (List.flatMap featC (Lexm.feats x1))]] 0=some (bo false,[Ob.cells [st (Lexm.id x1),st (Lexm.cat x1),st (Lexm.stem x1),st (Lexm.par x1),lro (List.length (Lexm.feats x1)) 2 (List.flatMap featC (Lexm.feats x1))]]))
 (h4:(ByteArray.toList (Lexm.par x1) == ByteArray.toList (ByteArray.mk #[45]))=true):vbody Tryd.prog X call lf noFg Tryd.f21 (codeOf Tryd.f21) [AV.agg (lexC x1)] [] 0=some (st (ByteArray.mk #[]),[Ob.cells [st (Lexm.id x1),st (Lexm.cat x1),st (Lexm.stem x1),st (Lexm.par x1),lro (List.length (Lexm.feats x1)) 2 (List.flatMap featC (Lexm.feats x1))]]) :=
  along_sound (ans:=[(6,Ans.v (bo true)),(14,Ans.v (bo true)),(24,Ans.b false),(32,Ans.v (bo false)),(40,Ans.b true)]) (by kernel_rfl) (ai h0 (ai h1 (ai h2 (ai h3 (ai h4 trivial)))))
theorem f21_pttfffttt (x1:Lexm)(X:Ext)(call:Caller)(lf:Nat)(x51 x54 x57 x59:ByteArray)
 (h0:callv X call false 43 [st (Lexm.id x1)] [Ob.cells [st (Lexm.id x1),st (Lexm.cat x1),st (Lexm.stem x1),st (Lexm.par x1),lro (List.length (Lexm.feats x1)) 2 (List.flatMap featC (Lexm.feats x1))]] 0=some (bo true,[Ob.cells [st (Lexm.id x1),st (Lexm.cat x1),st (Lexm.stem x1),st (Lexm.par x1),lro (List.length (Lexm.feats x1)) 2 (List.flatMap featC (Lexm.feats x1))]]))
 (h1:callv X call false 43 [st (Lexm.cat x1)] [Ob.cells [st (Lexm.id x1),st (Lexm.cat x1),st (Lexm.stem x1),st (Lexm.par x1),lro (List.length (Lexm.feats x1)) 2 (List.flatMap featC (Lexm.feats x1))]] 0=some (bo true,[Ob.cells [st (Lexm.id x1),st (Lexm.cat x1),st (Lexm.stem x1),st (Lexm.par x1),lro (List.length (Lexm.feats x1)) 2 (List.flatMap featC (Lexm.feats x1))]]))
 (h2:(ByteArray.toList (Lexm.stem x1) == ByteArray.toList (ByteArray.mk #[45]))=false)
 (h3:callv X call false 44 [st (Lexm.stem x1),st (ByteArray.mk #[32,10])] [Ob.cells [st (Lexm.id x1),st (Lexm.cat x1),st (Lexm.stem x1),st (Lexm.par x1),lro (List.length (Lexm.feats x1)) 2 (List.flatMap featC (Lexm.feats x1))]] 0=some (bo false,[Ob.cells [st (Lexm.id x1),st (Lexm.cat x1),st (Lexm.stem x1),st (Lexm.par x1),lro (List.length (Lexm.feats x1)) 2 (List.flatMap featC (Lexm.feats x1))]]))
 (h4:(ByteArray.toList (Lexm.par x1) == ByteArray.toList (ByteArray.mk #[45]))=false)
 (h5:(!ByteArray.toList (Lexm.par x1) == ByteArray.toList (ByteArray.mk #[]))=true)
 (h6:callv X call false 43 [st (Lexm.par x1)] [Ob.cells [st (Lexm.id x1),st (Lexm.cat x1),st (Lexm.stem x1),st (Lexm.par x1),lro (List.length (Lexm.feats x1)) 2 (List.flatMap featC (Lexm.feats x1))]] 0=some (bo true,[Ob.cells [st (Lexm.id x1),st (Lexm.cat x1),st (Lexm.stem x1),st (Lexm.par x1),lro (List.length (Lexm.feats x1)) 2 (List.flatMap featC (Lexm.feats x1))]]))
 (h7:callv X call false 45 [lro (List.length (Lexm.feats x1)) 2 (List.flatMap featC (Lexm.feats x1))] [Ob.cells [st (Lexm.id x1),st (Lexm.cat x1),st (Lexm.stem x1),st (Lexm.par x1),lro (List.length (Lexm.feats x1)) 2 (List.flatMap featC (Lexm.feats x1))]] 0=some (bo true,[Ob.cells [st (Lexm.id x1),st (Lexm.cat x1),st (Lexm.stem x1),st (Lexm.par x1),lro (List.length (Lexm.feats x1)) 2 (List.flatMap featC (Lexm.feats x1))]]))
 (h8:callv X call true 47 [st (Lexm.stem x1)] [Ob.cells [st (Lexm.id x1),st (Lexm.cat x1),st (Lexm.stem x1),st (Lexm.par x1),lro (List.length (Lexm.feats x1)) 2 (List.flatMap featC (Lexm.feats x1))]] 0=some (st x51,[Ob.cells [st (Lexm.id x1),st (Lexm.cat x1),st (Lexm.stem x1),st (Lexm.par x1),lro (List.length (Lexm.feats x1)) 2 (List.flatMap featC (Lexm.feats x1))]]))
 (h9:callv X call true 47 [st (Lexm.par x1)] [Ob.cells [st (Lexm.id x1),st (Lexm.cat x1),st (Lexm.stem x1),st (Lexm.par x1),lro (List.length (Lexm.feats x1)) 2 (List.flatMap featC (Lexm.feats x1))]] 0=some (st x54,[Ob.cells [st (Lexm.id x1),st (Lexm.cat x1),st (Lexm.stem x1),st (Lexm.par x1),lro (List.length (Lexm.feats x1)) 2 (List.flatMap featC (Lexm.feats x1))]]))
 (h10:callv X call true 48 [lro (List.length (Lexm.feats x1)) 2 (List.flatMap featC (Lexm.feats x1))] [Ob.cells [st (Lexm.id x1),st (Lexm.cat x1),st (Lexm.stem x1),st (Lexm.par x1),lro (List.length (Lexm.feats x1)) 2 (List.flatMap featC (Lexm.feats x1))]] 0=some (st x57,[Ob.cells [st (Lexm.id x1),st (Lexm.cat x1),st (Lexm.stem x1),st (Lexm.par x1),lro (List.length (Lexm.feats x1)) 2 (List.flatMap featC (Lexm.feats x1))]]))
 (h11:callv X call true 46 [AV.list LK.clip 5 1 [st (Lexm.id x1),st (Lexm.cat x1),st x51,st x54,st x57]] [Ob.cells [st (Lexm.id x1),st (Lexm.cat x1),st (Lexm.stem x1),st (Lexm.par x1),lro (List.length (Lexm.feats x1)) 2 (List.flatMap featC (Lexm.feats x1))]] 0=some (st x59,[Ob.cells [st (Lexm.id x1),st (Lexm.cat x1),st (Lexm.stem x1),st (Lexm.par x1),lro (List.length (Lexm.feats x1)) 2 (List.flatMap featC (Lexm.feats x1))]])):vbody Tryd.prog X call lf noFg Tryd.f21 (codeOf Tryd.f21) [AV.agg (lexC x1)] [] 0=some (st x59,[Ob.cells [st (Lexm.id x1),st (Lexm.cat x1),st (Lexm.stem x1),st (Lexm.par x1),lro (List.length (Lexm.feats x1)) 2 (List.flatMap featC (Lexm.feats x1))]]) :=
  along_sound (ans:=[(6,Ans.v (bo true)),(14,Ans.v (bo true)),(24,Ans.b false),(32,Ans.v (bo false)),(40,Ans.b false),(48,Ans.b true),(56,Ans.v (bo true)),(68,Ans.v (bo true)),(80,Ans.v (st x51)),(83,Ans.v (st x54)),(86,Ans.v (st x57)),(88,Ans.v (st x59))]) (by kernel_rfl) (ai h0 (ai h1 (ai h2 (ai h3 (ai h4 (ai h5 (ai h6 (ai h7 (ai h8 (ai h9 (ai h10 (ai h11 trivial))))))))))))
theorem f21_pttfffttf (x1:Lexm)(X:Ext)(call:Caller)(lf:Nat)
 (h0:callv X call false 43 [st (Lexm.id x1)] [Ob.cells [st (Lexm.id x1),st (Lexm.cat x1),st (Lexm.stem x1),st (Lexm.par x1),lro (List.length (Lexm.feats x1)) 2 (List.flatMap featC (Lexm.feats x1))]] 0=some (bo true,[Ob.cells [st (Lexm.id x1),st (Lexm.cat x1),st (Lexm.stem x1),st (Lexm.par x1),lro (List.length (Lexm.feats x1)) 2 (List.flatMap featC (Lexm.feats x1))]]))
 (h1:callv X call false 43 [st (Lexm.cat x1)] [Ob.cells [st (Lexm.id x1),st (Lexm.cat x1),st (Lexm.stem x1),st (Lexm.par x1),lro (List.length (Lexm.feats x1)) 2 (List.flatMap featC (Lexm.feats x1))]] 0=some (bo true,[Ob.cells [st (Lexm.id x1),st (Lexm.cat x1),st (Lexm.stem x1),st (Lexm.par x1),lro (List.length (Lexm.feats x1)) 2 (List.flatMap featC (Lexm.feats x1))]]))
 (h2:(ByteArray.toList (Lexm.stem x1) == ByteArray.toList (ByteArray.mk #[45]))=false)
 (h3:callv X call false 44 [st (Lexm.stem x1),st (ByteArray.mk #[32,10])] [Ob.cells [st (Lexm.id x1),st (Lexm.cat x1),st (Lexm.stem x1),st (Lexm.par x1),lro (List.length (Lexm.feats x1)) 2 (List.flatMap featC (Lexm.feats x1))]] 0=some (bo false,[Ob.cells [st (Lexm.id x1),st (Lexm.cat x1),st (Lexm.stem x1),st (Lexm.par x1),lro (List.length (Lexm.feats x1)) 2 (List.flatMap featC (Lexm.feats x1))]]))
 (h4:(ByteArray.toList (Lexm.par x1) == ByteArray.toList (ByteArray.mk #[45]))=false)
 (h5:(!ByteArray.toList (Lexm.par x1) == ByteArray.toList (ByteArray.mk #[]))=true)
 (h6:callv X call false 43 [st (Lexm.par x1)] [Ob.cells [st (Lexm.id x1),st (Lexm.cat x1),st (Lexm.stem x1),st (Lexm.par x1),lro (List.length (Lexm.feats x1)) 2 (List.flatMap featC (Lexm.feats x1))]] 0=some (bo true,[Ob.cells [st (Lexm.id x1),st (Lexm.cat x1),st (Lexm.stem x1),st (Lexm.par x1),lro (List.length (Lexm.feats x1)) 2 (List.flatMap featC (Lexm.feats x1))]]))
 (h7:callv X call false 45 [lro (List.length (Lexm.feats x1)) 2 (List.flatMap featC (Lexm.feats x1))] [Ob.cells [st (Lexm.id x1),st (Lexm.cat x1),st (Lexm.stem x1),st (Lexm.par x1),lro (List.length (Lexm.feats x1)) 2 (List.flatMap featC (Lexm.feats x1))]] 0=some (bo false,[Ob.cells [st (Lexm.id x1),st (Lexm.cat x1),st (Lexm.stem x1),st (Lexm.par x1),lro (List.length (Lexm.feats x1)) 2 (List.flatMap featC (Lexm.feats x1))]])):vbody Tryd.prog X call lf noFg Tryd.f21 (codeOf Tryd.f21) [AV.agg (lexC x1)] [] 0=some (st (ByteArray.mk #[]),[Ob.cells [st (Lexm.id x1),st (Lexm.cat x1),st (Lexm.stem x1),st (Lexm.par x1),lro (List.length (Lexm.feats x1)) 2 (List.flatMap featC (Lexm.feats x1))]]) :=
  along_sound (ans:=[(6,Ans.v (bo true)),(14,Ans.v (bo true)),(24,Ans.b false),(32,Ans.v (bo false)),(40,Ans.b false),(48,Ans.b true),(56,Ans.v (bo true)),(68,Ans.v (bo false))]) (by kernel_rfl) (ai h0 (ai h1 (ai h2 (ai h3 (ai h4 (ai h5 (ai h6 (ai h7 trivial))))))))
theorem f21_pttffftf (x1:Lexm)(X:Ext)(call:Caller)(lf:Nat)
 (h0:callv X call false 43 [st (Lexm.id x1)] [Ob.cells [st (Lexm.id x1),st (Lexm.cat x1),st (Lexm.stem x1),st (Lexm.par x1),lro (List.length (Lexm.feats x1)) 2 (List.flatMap featC (Lexm.feats x1))]] 0=some (bo true,[Ob.cells [st (Lexm.id x1),st (Lexm.cat x1),st (Lexm.stem x1),st (Lexm.par x1),lro (List.length (Lexm.feats x1)) 2 (List.flatMap featC (Lexm.feats x1))]]))
 (h1:callv X call false 43 [st (Lexm.cat x1)] [Ob.cells [st (Lexm.id x1),st (Lexm.cat x1),st (Lexm.stem x1),st (Lexm.par x1),lro (List.length (Lexm.feats x1)) 2 (List.flatMap featC (Lexm.feats x1))]] 0=some (bo true,[Ob.cells [st (Lexm.id x1),st (Lexm.cat x1),st (Lexm.stem x1),st (Lexm.par x1),lro (List.length (Lexm.feats x1)) 2 (List.flatMap featC (Lexm.feats x1))]]))
 (h2:(ByteArray.toList (Lexm.stem x1) == ByteArray.toList (ByteArray.mk #[45]))=false)
 (h3:callv X call false 44 [st (Lexm.stem x1),st (ByteArray.mk #[32,10])] [Ob.cells [st (Lexm.id x1),st (Lexm.cat x1),st (Lexm.stem x1),st (Lexm.par x1),lro (List.length (Lexm.feats x1)) 2 (List.flatMap featC (Lexm.feats x1))]] 0=some (bo false,[Ob.cells [st (Lexm.id x1),st (Lexm.cat x1),st (Lexm.stem x1),st (Lexm.par x1),lro (List.length (Lexm.feats x1)) 2 (List.flatMap featC (Lexm.feats x1))]]))
 (h4:(ByteArray.toList (Lexm.par x1) == ByteArray.toList (ByteArray.mk #[45]))=false)
 (h5:(!ByteArray.toList (Lexm.par x1) == ByteArray.toList (ByteArray.mk #[]))=true)
 (h6:callv X call false 43 [st (Lexm.par x1)] [Ob.cells [st (Lexm.id x1),st (Lexm.cat x1),st (Lexm.stem x1),st (Lexm.par x1),lro (List.length (Lexm.feats x1)) 2 (List.flatMap featC (Lexm.feats x1))]] 0=some (bo false,[Ob.cells [st (Lexm.id x1),st (Lexm.cat x1),st (Lexm.stem x1),st (Lexm.par x1),lro (List.length (Lexm.feats x1)) 2 (List.flatMap featC (Lexm.feats x1))]])):vbody Tryd.prog X call lf noFg Tryd.f21 (codeOf Tryd.f21) [AV.agg (lexC x1)] [] 0=some (st (ByteArray.mk #[]),[Ob.cells [st (Lexm.id x1),st (Lexm.cat x1),st (Lexm.stem x1),st (Lexm.par x1),lro (List.length (Lexm.feats x1)) 2 (List.flatMap featC (Lexm.feats x1))]]) :=
  along_sound (ans:=[(6,Ans.v (bo true)),(14,Ans.v (bo true)),(24,Ans.b false),(32,Ans.v (bo false)),(40,Ans.b false),(48,Ans.b true),(56,Ans.v (bo false))]) (by kernel_rfl) (ai h0 (ai h1 (ai h2 (ai h3 (ai h4 (ai h5 (ai h6 trivial)))))))
theorem f21_pttfffft (x1:Lexm)(X:Ext)(call:Caller)(lf:Nat)(x51 x54 x57 x59:ByteArray)
 (h0:callv X call false 43 [st (Lexm.id x1)] [Ob.cells [st (Lexm.id x1),st (Lexm.cat x1),st (Lexm.stem x1),st (Lexm.par x1),lro (List.length (Lexm.feats x1)) 2 (List.flatMap featC (Lexm.feats x1))]] 0=some (bo true,[Ob.cells [st (Lexm.id x1),st (Lexm.cat x1),st (Lexm.stem x1),st (Lexm.par x1),lro (List.length (Lexm.feats x1)) 2 (List.flatMap featC (Lexm.feats x1))]]))
 (h1:callv X call false 43 [st (Lexm.cat x1)] [Ob.cells [st (Lexm.id x1),st (Lexm.cat x1),st (Lexm.stem x1),st (Lexm.par x1),lro (List.length (Lexm.feats x1)) 2 (List.flatMap featC (Lexm.feats x1))]] 0=some (bo true,[Ob.cells [st (Lexm.id x1),st (Lexm.cat x1),st (Lexm.stem x1),st (Lexm.par x1),lro (List.length (Lexm.feats x1)) 2 (List.flatMap featC (Lexm.feats x1))]]))
 (h2:(ByteArray.toList (Lexm.stem x1) == ByteArray.toList (ByteArray.mk #[45]))=false)
 (h3:callv X call false 44 [st (Lexm.stem x1),st (ByteArray.mk #[32,10])] [Ob.cells [st (Lexm.id x1),st (Lexm.cat x1),st (Lexm.stem x1),st (Lexm.par x1),lro (List.length (Lexm.feats x1)) 2 (List.flatMap featC (Lexm.feats x1))]] 0=some (bo false,[Ob.cells [st (Lexm.id x1),st (Lexm.cat x1),st (Lexm.stem x1),st (Lexm.par x1),lro (List.length (Lexm.feats x1)) 2 (List.flatMap featC (Lexm.feats x1))]]))
 (h4:(ByteArray.toList (Lexm.par x1) == ByteArray.toList (ByteArray.mk #[45]))=false)
 (h5:(!ByteArray.toList (Lexm.par x1) == ByteArray.toList (ByteArray.mk #[]))=false)
 (h6:callv X call false 45 [lro (List.length (Lexm.feats x1)) 2 (List.flatMap featC (Lexm.feats x1))] [Ob.cells [st (Lexm.id x1),st (Lexm.cat x1),st (Lexm.stem x1),st (Lexm.par x1),lro (List.length (Lexm.feats x1)) 2 (List.flatMap featC (Lexm.feats x1))]] 0=some (bo true,[Ob.cells [st (Lexm.id x1),st (Lexm.cat x1),st (Lexm.stem x1),st (Lexm.par x1),lro (List.length (Lexm.feats x1)) 2 (List.flatMap featC (Lexm.feats x1))]]))
 (h7:callv X call true 47 [st (Lexm.stem x1)] [Ob.cells [st (Lexm.id x1),st (Lexm.cat x1),st (Lexm.stem x1),st (Lexm.par x1),lro (List.length (Lexm.feats x1)) 2 (List.flatMap featC (Lexm.feats x1))]] 0=some (st x51,[Ob.cells [st (Lexm.id x1),st (Lexm.cat x1),st (Lexm.stem x1),st (Lexm.par x1),lro (List.length (Lexm.feats x1)) 2 (List.flatMap featC (Lexm.feats x1))]]))
 (h8:callv X call true 47 [st (Lexm.par x1)] [Ob.cells [st (Lexm.id x1),st (Lexm.cat x1),st (Lexm.stem x1),st (Lexm.par x1),lro (List.length (Lexm.feats x1)) 2 (List.flatMap featC (Lexm.feats x1))]] 0=some (st x54,[Ob.cells [st (Lexm.id x1),st (Lexm.cat x1),st (Lexm.stem x1),st (Lexm.par x1),lro (List.length (Lexm.feats x1)) 2 (List.flatMap featC (Lexm.feats x1))]]))
 (h9:callv X call true 48 [lro (List.length (Lexm.feats x1)) 2 (List.flatMap featC (Lexm.feats x1))] [Ob.cells [st (Lexm.id x1),st (Lexm.cat x1),st (Lexm.stem x1),st (Lexm.par x1),lro (List.length (Lexm.feats x1)) 2 (List.flatMap featC (Lexm.feats x1))]] 0=some (st x57,[Ob.cells [st (Lexm.id x1),st (Lexm.cat x1),st (Lexm.stem x1),st (Lexm.par x1),lro (List.length (Lexm.feats x1)) 2 (List.flatMap featC (Lexm.feats x1))]]))
 (h10:callv X call true 46 [AV.list LK.clip 5 1 [st (Lexm.id x1),st (Lexm.cat x1),st x51,st x54,st x57]] [Ob.cells [st (Lexm.id x1),st (Lexm.cat x1),st (Lexm.stem x1),st (Lexm.par x1),lro (List.length (Lexm.feats x1)) 2 (List.flatMap featC (Lexm.feats x1))]] 0=some (st x59,[Ob.cells [st (Lexm.id x1),st (Lexm.cat x1),st (Lexm.stem x1),st (Lexm.par x1),lro (List.length (Lexm.feats x1)) 2 (List.flatMap featC (Lexm.feats x1))]])):vbody Tryd.prog X call lf noFg Tryd.f21 (codeOf Tryd.f21) [AV.agg (lexC x1)] [] 0=some (st x59,[Ob.cells [st (Lexm.id x1),st (Lexm.cat x1),st (Lexm.stem x1),st (Lexm.par x1),lro (List.length (Lexm.feats x1)) 2 (List.flatMap featC (Lexm.feats x1))]]) :=
  along_sound (ans:=[(6,Ans.v (bo true)),(14,Ans.v (bo true)),(24,Ans.b false),(32,Ans.v (bo false)),(40,Ans.b false),(48,Ans.b false),(64,Ans.v (bo true)),(76,Ans.v (st x51)),(79,Ans.v (st x54)),(82,Ans.v (st x57)),(84,Ans.v (st x59))]) (by kernel_rfl) (ai h0 (ai h1 (ai h2 (ai h3 (ai h4 (ai h5 (ai h6 (ai h7 (ai h8 (ai h9 (ai h10 trivial)))))))))))
theorem f21_pttfffff (x1:Lexm)(X:Ext)(call:Caller)(lf:Nat)
 (h0:callv X call false 43 [st (Lexm.id x1)] [Ob.cells [st (Lexm.id x1),st (Lexm.cat x1),st (Lexm.stem x1),st (Lexm.par x1),lro (List.length (Lexm.feats x1)) 2 (List.flatMap featC (Lexm.feats x1))]] 0=some (bo true,[Ob.cells [st (Lexm.id x1),st (Lexm.cat x1),st (Lexm.stem x1),st (Lexm.par x1),lro (List.length (Lexm.feats x1)) 2 (List.flatMap featC (Lexm.feats x1))]]))
 (h1:callv X call false 43 [st (Lexm.cat x1)] [Ob.cells [st (Lexm.id x1),st (Lexm.cat x1),st (Lexm.stem x1),st (Lexm.par x1),lro (List.length (Lexm.feats x1)) 2 (List.flatMap featC (Lexm.feats x1))]] 0=some (bo true,[Ob.cells [st (Lexm.id x1),st (Lexm.cat x1),st (Lexm.stem x1),st (Lexm.par x1),lro (List.length (Lexm.feats x1)) 2 (List.flatMap featC (Lexm.feats x1))]]))
 (h2:(ByteArray.toList (Lexm.stem x1) == ByteArray.toList (ByteArray.mk #[45]))=false)
 (h3:callv X call false 44 [st (Lexm.stem x1),st (ByteArray.mk #[32,10])] [Ob.cells [st (Lexm.id x1),st (Lexm.cat x1),st (Lexm.stem x1),st (Lexm.par x1),lro (List.length (Lexm.feats x1)) 2 (List.flatMap featC (Lexm.feats x1))]] 0=some (bo false,[Ob.cells [st (Lexm.id x1),st (Lexm.cat x1),st (Lexm.stem x1),st (Lexm.par x1),lro (List.length (Lexm.feats x1)) 2 (List.flatMap featC (Lexm.feats x1))]]))
 (h4:(ByteArray.toList (Lexm.par x1) == ByteArray.toList (ByteArray.mk #[45]))=false)
 (h5:(!ByteArray.toList (Lexm.par x1) == ByteArray.toList (ByteArray.mk #[]))=false)
 (h6:callv X call false 45 [lro (List.length (Lexm.feats x1)) 2 (List.flatMap featC (Lexm.feats x1))] [Ob.cells [st (Lexm.id x1),st (Lexm.cat x1),st (Lexm.stem x1),st (Lexm.par x1),lro (List.length (Lexm.feats x1)) 2 (List.flatMap featC (Lexm.feats x1))]] 0=some (bo false,[Ob.cells [st (Lexm.id x1),st (Lexm.cat x1),st (Lexm.stem x1),st (Lexm.par x1),lro (List.length (Lexm.feats x1)) 2 (List.flatMap featC (Lexm.feats x1))]])):vbody Tryd.prog X call lf noFg Tryd.f21 (codeOf Tryd.f21) [AV.agg (lexC x1)] [] 0=some (st (ByteArray.mk #[]),[Ob.cells [st (Lexm.id x1),st (Lexm.cat x1),st (Lexm.stem x1),st (Lexm.par x1),lro (List.length (Lexm.feats x1)) 2 (List.flatMap featC (Lexm.feats x1))]]) :=
  along_sound (ans:=[(6,Ans.v (bo true)),(14,Ans.v (bo true)),(24,Ans.b false),(32,Ans.v (bo false)),(40,Ans.b false),(48,Ans.b false),(64,Ans.v (bo false))]) (by kernel_rfl) (ai h0 (ai h1 (ai h2 (ai h3 (ai h4 (ai h5 (ai h6 trivial)))))))
theorem f21_ptf (x1:Lexm)(X:Ext)(call:Caller)(lf:Nat)
 (h0:callv X call false 43 [st (Lexm.id x1)] [Ob.cells [st (Lexm.id x1),st (Lexm.cat x1),st (Lexm.stem x1),st (Lexm.par x1),lro (List.length (Lexm.feats x1)) 2 (List.flatMap featC (Lexm.feats x1))]] 0=some (bo true,[Ob.cells [st (Lexm.id x1),st (Lexm.cat x1),st (Lexm.stem x1),st (Lexm.par x1),lro (List.length (Lexm.feats x1)) 2 (List.flatMap featC (Lexm.feats x1))]]))
 (h1:callv X call false 43 [st (Lexm.cat x1)] [Ob.cells [st (Lexm.id x1),st (Lexm.cat x1),st (Lexm.stem x1),st (Lexm.par x1),lro (List.length (Lexm.feats x1)) 2 (List.flatMap featC (Lexm.feats x1))]] 0=some (bo false,[Ob.cells [st (Lexm.id x1),st (Lexm.cat x1),st (Lexm.stem x1),st (Lexm.par x1),lro (List.length (Lexm.feats x1)) 2 (List.flatMap featC (Lexm.feats x1))]])):vbody Tryd.prog X call lf noFg Tryd.f21 (codeOf Tryd.f21) [AV.agg (lexC x1)] [] 0=some (st (ByteArray.mk #[]),[Ob.cells [st (Lexm.id x1),st (Lexm.cat x1),st (Lexm.stem x1),st (Lexm.par x1),lro (List.length (Lexm.feats x1)) 2 (List.flatMap featC (Lexm.feats x1))]]) :=
  along_sound (ans:=[(6,Ans.v (bo true)),(14,Ans.v (bo false))]) (by kernel_rfl) (ai h0 (ai h1 trivial))
theorem f21_pf (x1:Lexm)(X:Ext)(call:Caller)(lf:Nat)
 (h0:callv X call false 43 [st (Lexm.id x1)] [Ob.cells [st (Lexm.id x1),st (Lexm.cat x1),st (Lexm.stem x1),st (Lexm.par x1),lro (List.length (Lexm.feats x1)) 2 (List.flatMap featC (Lexm.feats x1))]] 0=some (bo false,[Ob.cells [st (Lexm.id x1),st (Lexm.cat x1),st (Lexm.stem x1),st (Lexm.par x1),lro (List.length (Lexm.feats x1)) 2 (List.flatMap featC (Lexm.feats x1))]])):vbody Tryd.prog X call lf noFg Tryd.f21 (codeOf Tryd.f21) [AV.agg (lexC x1)] [] 0=some (st (ByteArray.mk #[]),[Ob.cells [st (Lexm.id x1),st (Lexm.cat x1),st (Lexm.stem x1),st (Lexm.par x1),lro (List.length (Lexm.feats x1)) 2 (List.flatMap featC (Lexm.feats x1))]]) :=
  along_sound (ans:=[(6,Ans.v (bo false))]) (by kernel_rfl) (ai h0 trivial)
def f21_q0 (x1:Lexm)(b0 b1 b2 b3 b4 b5:Bool):Nat :=
  (match b0 with
  | true=>(match b1 with
    | true=>(match (ByteArray.toList (Lexm.stem x1) == ByteArray.toList (ByteArray.mk #[45])) with
      | true=>0
      | false=>(match b2 with
        | true=>0
        | false=>(match (ByteArray.toList (Lexm.par x1) == ByteArray.toList (ByteArray.mk #[45])) with
          | true=>0
          | false=>(match (!ByteArray.toList (Lexm.par x1) == ByteArray.toList (ByteArray.mk #[])) with
            | true=>(match b3 with
              | true=>(match b4 with
                | true=>1
                | false=>0)
              | false=>0)
            | false=>(match b5 with
              | true=>1
              | false=>0)))))
    | false=>0)
  | false=>0)
theorem f21_P0 (x1:Lexm)(X:Ext)(call:Caller)(lf:Nat)(x51 x54 x57 x59:ByteArray)(b0 b1 b2 b3 b4 b5:Bool)
 (g0:callv X call false 43 [st (Lexm.id x1)] [Ob.cells [st (Lexm.id x1),st (Lexm.cat x1),st (Lexm.stem x1),st (Lexm.par x1),lro (List.length (Lexm.feats x1)) 2 (List.flatMap featC (Lexm.feats x1))]] 0=some (bo b0,[Ob.cells [st (Lexm.id x1),st (Lexm.cat x1),st (Lexm.stem x1),st (Lexm.par x1),lro (List.length (Lexm.feats x1)) 2 (List.flatMap featC (Lexm.feats x1))]]))
 (g1:b0=true→callv X call false 43 [st (Lexm.cat x1)] [Ob.cells [st (Lexm.id x1),st (Lexm.cat x1),st (Lexm.stem x1),st (Lexm.par x1),lro (List.length (Lexm.feats x1)) 2 (List.flatMap featC (Lexm.feats x1))]] 0=some (bo b1,[Ob.cells [st (Lexm.id x1),st (Lexm.cat x1),st (Lexm.stem x1),st (Lexm.par x1),lro (List.length (Lexm.feats x1)) 2 (List.flatMap featC (Lexm.feats x1))]]))
 (g2:b0=true→b1=true→(ByteArray.toList (Lexm.stem x1) == ByteArray.toList (ByteArray.mk #[45]))=false→callv X call false 44 [st (Lexm.stem x1),st (ByteArray.mk #[32,10])] [Ob.cells [st (Lexm.id x1),st (Lexm.cat x1),st (Lexm.stem x1),st (Lexm.par x1),lro (List.length (Lexm.feats x1)) 2 (List.flatMap featC (Lexm.feats x1))]] 0=some (bo b2,[Ob.cells [st (Lexm.id x1),st (Lexm.cat x1),st (Lexm.stem x1),st (Lexm.par x1),lro (List.length (Lexm.feats x1)) 2 (List.flatMap featC (Lexm.feats x1))]]))
 (g3:b0=true→b1=true→(ByteArray.toList (Lexm.stem x1) == ByteArray.toList (ByteArray.mk #[45]))=false→b2=false→(ByteArray.toList (Lexm.par x1) == ByteArray.toList (ByteArray.mk #[45]))=false→(!ByteArray.toList (Lexm.par x1) == ByteArray.toList (ByteArray.mk #[]))=true→callv X call false 43 [st (Lexm.par x1)] [Ob.cells [st (Lexm.id x1),st (Lexm.cat x1),st (Lexm.stem x1),st (Lexm.par x1),lro (List.length (Lexm.feats x1)) 2 (List.flatMap featC (Lexm.feats x1))]] 0=some (bo b3,[Ob.cells [st (Lexm.id x1),st (Lexm.cat x1),st (Lexm.stem x1),st (Lexm.par x1),lro (List.length (Lexm.feats x1)) 2 (List.flatMap featC (Lexm.feats x1))]]))
 (g4:b0=true→b1=true→(ByteArray.toList (Lexm.stem x1) == ByteArray.toList (ByteArray.mk #[45]))=false→b2=false→(ByteArray.toList (Lexm.par x1) == ByteArray.toList (ByteArray.mk #[45]))=false→(!ByteArray.toList (Lexm.par x1) == ByteArray.toList (ByteArray.mk #[]))=true→b3=true→callv X call false 45 [lro (List.length (Lexm.feats x1)) 2 (List.flatMap featC (Lexm.feats x1))] [Ob.cells [st (Lexm.id x1),st (Lexm.cat x1),st (Lexm.stem x1),st (Lexm.par x1),lro (List.length (Lexm.feats x1)) 2 (List.flatMap featC (Lexm.feats x1))]] 0=some (bo b4,[Ob.cells [st (Lexm.id x1),st (Lexm.cat x1),st (Lexm.stem x1),st (Lexm.par x1),lro (List.length (Lexm.feats x1)) 2 (List.flatMap featC (Lexm.feats x1))]]))
 (g5:b0=true→b1=true→(ByteArray.toList (Lexm.stem x1) == ByteArray.toList (ByteArray.mk #[45]))=false→b2=false→(ByteArray.toList (Lexm.par x1) == ByteArray.toList (ByteArray.mk #[45]))=false→(!ByteArray.toList (Lexm.par x1) == ByteArray.toList (ByteArray.mk #[]))=true→b3=true→b4=true→callv X call true 47 [st (Lexm.stem x1)] [Ob.cells [st (Lexm.id x1),st (Lexm.cat x1),st (Lexm.stem x1),st (Lexm.par x1),lro (List.length (Lexm.feats x1)) 2 (List.flatMap featC (Lexm.feats x1))]] 0=some (st x51,[Ob.cells [st (Lexm.id x1),st (Lexm.cat x1),st (Lexm.stem x1),st (Lexm.par x1),lro (List.length (Lexm.feats x1)) 2 (List.flatMap featC (Lexm.feats x1))]]))
 (g6:b0=true→b1=true→(ByteArray.toList (Lexm.stem x1) == ByteArray.toList (ByteArray.mk #[45]))=false→b2=false→(ByteArray.toList (Lexm.par x1) == ByteArray.toList (ByteArray.mk #[45]))=false→(!ByteArray.toList (Lexm.par x1) == ByteArray.toList (ByteArray.mk #[]))=true→b3=true→b4=true→callv X call true 47 [st (Lexm.par x1)] [Ob.cells [st (Lexm.id x1),st (Lexm.cat x1),st (Lexm.stem x1),st (Lexm.par x1),lro (List.length (Lexm.feats x1)) 2 (List.flatMap featC (Lexm.feats x1))]] 0=some (st x54,[Ob.cells [st (Lexm.id x1),st (Lexm.cat x1),st (Lexm.stem x1),st (Lexm.par x1),lro (List.length (Lexm.feats x1)) 2 (List.flatMap featC (Lexm.feats x1))]]))
 (g7:b0=true→b1=true→(ByteArray.toList (Lexm.stem x1) == ByteArray.toList (ByteArray.mk #[45]))=false→b2=false→(ByteArray.toList (Lexm.par x1) == ByteArray.toList (ByteArray.mk #[45]))=false→(!ByteArray.toList (Lexm.par x1) == ByteArray.toList (ByteArray.mk #[]))=true→b3=true→b4=true→callv X call true 48 [lro (List.length (Lexm.feats x1)) 2 (List.flatMap featC (Lexm.feats x1))] [Ob.cells [st (Lexm.id x1),st (Lexm.cat x1),st (Lexm.stem x1),st (Lexm.par x1),lro (List.length (Lexm.feats x1)) 2 (List.flatMap featC (Lexm.feats x1))]] 0=some (st x57,[Ob.cells [st (Lexm.id x1),st (Lexm.cat x1),st (Lexm.stem x1),st (Lexm.par x1),lro (List.length (Lexm.feats x1)) 2 (List.flatMap featC (Lexm.feats x1))]]))
 (g8:b0=true→b1=true→(ByteArray.toList (Lexm.stem x1) == ByteArray.toList (ByteArray.mk #[45]))=false→b2=false→(ByteArray.toList (Lexm.par x1) == ByteArray.toList (ByteArray.mk #[45]))=false→(!ByteArray.toList (Lexm.par x1) == ByteArray.toList (ByteArray.mk #[]))=true→b3=true→b4=true→callv X call true 46 [AV.list LK.clip 5 1 [st (Lexm.id x1),st (Lexm.cat x1),st x51,st x54,st x57]] [Ob.cells [st (Lexm.id x1),st (Lexm.cat x1),st (Lexm.stem x1),st (Lexm.par x1),lro (List.length (Lexm.feats x1)) 2 (List.flatMap featC (Lexm.feats x1))]] 0=some (st x59,[Ob.cells [st (Lexm.id x1),st (Lexm.cat x1),st (Lexm.stem x1),st (Lexm.par x1),lro (List.length (Lexm.feats x1)) 2 (List.flatMap featC (Lexm.feats x1))]]))
 (g9:b0=true→b1=true→(ByteArray.toList (Lexm.stem x1) == ByteArray.toList (ByteArray.mk #[45]))=false→b2=false→(ByteArray.toList (Lexm.par x1) == ByteArray.toList (ByteArray.mk #[45]))=false→(!ByteArray.toList (Lexm.par x1) == ByteArray.toList (ByteArray.mk #[]))=false→callv X call false 45 [lro (List.length (Lexm.feats x1)) 2 (List.flatMap featC (Lexm.feats x1))] [Ob.cells [st (Lexm.id x1),st (Lexm.cat x1),st (Lexm.stem x1),st (Lexm.par x1),lro (List.length (Lexm.feats x1)) 2 (List.flatMap featC (Lexm.feats x1))]] 0=some (bo b5,[Ob.cells [st (Lexm.id x1),st (Lexm.cat x1),st (Lexm.stem x1),st (Lexm.par x1),lro (List.length (Lexm.feats x1)) 2 (List.flatMap featC (Lexm.feats x1))]]))
 (g10:b0=true→b1=true→(ByteArray.toList (Lexm.stem x1) == ByteArray.toList (ByteArray.mk #[45]))=false→b2=false→(ByteArray.toList (Lexm.par x1) == ByteArray.toList (ByteArray.mk #[45]))=false→(!ByteArray.toList (Lexm.par x1) == ByteArray.toList (ByteArray.mk #[]))=false→b5=true→callv X call true 47 [st (Lexm.stem x1)] [Ob.cells [st (Lexm.id x1),st (Lexm.cat x1),st (Lexm.stem x1),st (Lexm.par x1),lro (List.length (Lexm.feats x1)) 2 (List.flatMap featC (Lexm.feats x1))]] 0=some (st x51,[Ob.cells [st (Lexm.id x1),st (Lexm.cat x1),st (Lexm.stem x1),st (Lexm.par x1),lro (List.length (Lexm.feats x1)) 2 (List.flatMap featC (Lexm.feats x1))]]))
 (g11:b0=true→b1=true→(ByteArray.toList (Lexm.stem x1) == ByteArray.toList (ByteArray.mk #[45]))=false→b2=false→(ByteArray.toList (Lexm.par x1) == ByteArray.toList (ByteArray.mk #[45]))=false→(!ByteArray.toList (Lexm.par x1) == ByteArray.toList (ByteArray.mk #[]))=false→b5=true→callv X call true 47 [st (Lexm.par x1)] [Ob.cells [st (Lexm.id x1),st (Lexm.cat x1),st (Lexm.stem x1),st (Lexm.par x1),lro (List.length (Lexm.feats x1)) 2 (List.flatMap featC (Lexm.feats x1))]] 0=some (st x54,[Ob.cells [st (Lexm.id x1),st (Lexm.cat x1),st (Lexm.stem x1),st (Lexm.par x1),lro (List.length (Lexm.feats x1)) 2 (List.flatMap featC (Lexm.feats x1))]]))
 (g12:b0=true→b1=true→(ByteArray.toList (Lexm.stem x1) == ByteArray.toList (ByteArray.mk #[45]))=false→b2=false→(ByteArray.toList (Lexm.par x1) == ByteArray.toList (ByteArray.mk #[45]))=false→(!ByteArray.toList (Lexm.par x1) == ByteArray.toList (ByteArray.mk #[]))=false→b5=true→callv X call true 48 [lro (List.length (Lexm.feats x1)) 2 (List.flatMap featC (Lexm.feats x1))] [Ob.cells [st (Lexm.id x1),st (Lexm.cat x1),st (Lexm.stem x1),st (Lexm.par x1),lro (List.length (Lexm.feats x1)) 2 (List.flatMap featC (Lexm.feats x1))]] 0=some (st x57,[Ob.cells [st (Lexm.id x1),st (Lexm.cat x1),st (Lexm.stem x1),st (Lexm.par x1),lro (List.length (Lexm.feats x1)) 2 (List.flatMap featC (Lexm.feats x1))]]))
 (g13:b0=true→b1=true→(ByteArray.toList (Lexm.stem x1) == ByteArray.toList (ByteArray.mk #[45]))=false→b2=false→(ByteArray.toList (Lexm.par x1) == ByteArray.toList (ByteArray.mk #[45]))=false→(!ByteArray.toList (Lexm.par x1) == ByteArray.toList (ByteArray.mk #[]))=false→b5=true→callv X call true 46 [AV.list LK.clip 5 1 [st (Lexm.id x1),st (Lexm.cat x1),st x51,st x54,st x57]] [Ob.cells [st (Lexm.id x1),st (Lexm.cat x1),st (Lexm.stem x1),st (Lexm.par x1),lro (List.length (Lexm.feats x1)) 2 (List.flatMap featC (Lexm.feats x1))]] 0=some (st x59,[Ob.cells [st (Lexm.id x1),st (Lexm.cat x1),st (Lexm.stem x1),st (Lexm.par x1),lro (List.length (Lexm.feats x1)) 2 (List.flatMap featC (Lexm.feats x1))]])) :
    (f21_q0 x1 b0 b1 b2 b3 b4 b5=0→vbody Tryd.prog X call lf noFg Tryd.f21 (codeOf Tryd.f21) [AV.agg (lexC x1)] [] 0=some (st (ByteArray.mk #[]),[Ob.cells [st (Lexm.id x1),st (Lexm.cat x1),st (Lexm.stem x1),st (Lexm.par x1),lro (List.length (Lexm.feats x1)) 2 (List.flatMap featC (Lexm.feats x1))]]))∧(f21_q0 x1 b0 b1 b2 b3 b4 b5=1→vbody Tryd.prog X call lf noFg Tryd.f21 (codeOf Tryd.f21) [AV.agg (lexC x1)] [] 0=some (st x59,[Ob.cells [st (Lexm.id x1),st (Lexm.cat x1),st (Lexm.stem x1),st (Lexm.par x1),lro (List.length (Lexm.feats x1)) 2 (List.flatMap featC (Lexm.feats x1))]])):=by
  unfold f21_q0
  cases c0:b0 with
  | true =>
    cases c1:b1 with
    | true =>
      cases c2:(ByteArray.toList (Lexm.stem x1) == ByteArray.toList (ByteArray.mk #[45])) with
      | true =>
        exact ⟨fun _=>f21_pttt x1 X call lf (by rw [c0] at g0; exact g0) (by have:=(g1 c0); rw [c1] at this; exact this) c2,fun h=>absurd (show (0:Nat)=1 from h) (by decide)⟩
      | false =>
        cases c3:b2 with
        | true =>
          exact ⟨fun _=>f21_pttft x1 X call lf (by rw [c0] at g0; exact g0) (by have:=(g1 c0); rw [c1] at this; exact this) c2 (by have:=(g2 c0 c1 c2); rw [c3] at this; exact this),fun h=>absurd (show (0:Nat)=1 from h) (by decide)⟩
        | false =>
          cases c4:(ByteArray.toList (Lexm.par x1) == ByteArray.toList (ByteArray.mk #[45])) with
          | true =>
            exact ⟨fun _=>f21_pttfft x1 X call lf (by rw [c0] at g0; exact g0) (by have:=(g1 c0); rw [c1] at this; exact this) c2 (by have:=(g2 c0 c1 c2); rw [c3] at this; exact this) c4,fun h=>absurd (show (0:Nat)=1 from h) (by decide)⟩
          | false =>
            cases c5:(!ByteArray.toList (Lexm.par x1) == ByteArray.toList (ByteArray.mk #[])) with
            | true =>
              cases c6:b3 with
              | true =>
                cases c7:b4 with
                | true =>
                  exact ⟨fun h=>absurd (show (1:Nat)=0 from h) (by decide),fun _=>f21_pttfffttt x1 X call lf x51 x54 x57 x59 (by rw [c0] at g0; exact g0) (by have:=(g1 c0); rw [c1] at this; exact this) c2 (by have:=(g2 c0 c1 c2); rw [c3] at this; exact this) c4 c5 (by have:=(g3 c0 c1 c2 c3 c4 c5); rw [c6] at this; exact this) (by have:=(g4 c0 c1 c2 c3 c4 c5 c6); rw [c7] at this; exact this) (g5 c0 c1 c2 c3 c4 c5 c6 c7) (g6 c0 c1 c2 c3 c4 c5 c6 c7) (g7 c0 c1 c2 c3 c4 c5 c6 c7) (g8 c0 c1 c2 c3 c4 c5 c6 c7)⟩
                | false =>
                  exact ⟨fun _=>f21_pttfffttf x1 X call lf (by rw [c0] at g0; exact g0) (by have:=(g1 c0); rw [c1] at this; exact this) c2 (by have:=(g2 c0 c1 c2); rw [c3] at this; exact this) c4 c5 (by have:=(g3 c0 c1 c2 c3 c4 c5); rw [c6] at this; exact this) (by have:=(g4 c0 c1 c2 c3 c4 c5 c6); rw [c7] at this; exact this),fun h=>absurd (show (0:Nat)=1 from h) (by decide)⟩
              | false =>
                exact ⟨fun _=>f21_pttffftf x1 X call lf (by rw [c0] at g0; exact g0) (by have:=(g1 c0); rw [c1] at this; exact this) c2 (by have:=(g2 c0 c1 c2); rw [c3] at this; exact this) c4 c5 (by have:=(g3 c0 c1 c2 c3 c4 c5); rw [c6] at this; exact this),fun h=>absurd (show (0:Nat)=1 from h) (by decide)⟩
            | false =>
              cases c6:b5 with
              | true =>
                exact ⟨fun h=>absurd (show (1:Nat)=0 from h) (by decide),fun _=>f21_pttfffft x1 X call lf x51 x54 x57 x59 (by rw [c0] at g0; exact g0) (by have:=(g1 c0); rw [c1] at this; exact this) c2 (by have:=(g2 c0 c1 c2); rw [c3] at this; exact this) c4 c5 (by have:=(g9 c0 c1 c2 c3 c4 c5); rw [c6] at this; exact this) (g10 c0 c1 c2 c3 c4 c5 c6) (g11 c0 c1 c2 c3 c4 c5 c6) (g12 c0 c1 c2 c3 c4 c5 c6) (g13 c0 c1 c2 c3 c4 c5 c6)⟩
              | false =>
                exact ⟨fun _=>f21_pttfffff x1 X call lf (by rw [c0] at g0; exact g0) (by have:=(g1 c0); rw [c1] at this; exact this) c2 (by have:=(g2 c0 c1 c2); rw [c3] at this; exact this) c4 c5 (by have:=(g9 c0 c1 c2 c3 c4 c5); rw [c6] at this; exact this),fun h=>absurd (show (0:Nat)=1 from h) (by decide)⟩
    | false =>
      exact ⟨fun _=>f21_ptf x1 X call lf (by rw [c0] at g0; exact g0) (by have:=(g1 c0); rw [c1] at this; exact this),fun h=>absurd (show (0:Nat)=1 from h) (by decide)⟩
  | false =>
    exact ⟨fun _=>f21_pf x1 X call lf (by rw [c0] at g0; exact g0),fun h=>absurd (show (0:Nat)=1 from h) (by decide)⟩
end Go.Proofs.Lex
end
/- Lexicon: Line. -/
section
open Go Go.Vm Go.Proofs
namespace Go.Proofs.Lex
theorem bs5 (a c d e t:ByteArray) (w:World):(Instr.buildSlice 25 5 #[(0,.string a),(1,.string c),(2,.string d),(3,.string e),(4,.string t)]).run Tryd.prog w = .ok (.slice (some ⟨w.heap.size,0,none⟩) 5 5) (w.alloc (.cells #[.string a,.string c,.string d,.string e,.string t] 9)):=by kernel_rfl
theorem tail21_ops:(opsF Tryd.f21 3).toList.drop 13=[opF Tryd.f21 3 13,opF Tryd.f21 3 14,opF Tryd.f21 3 15]:=by kernel_rfl
theorem tail21_13:(opF Tryd.f21 3 13).op = .buildSlice 25 5 #[(0,.tmp 46),(1,.tmp 48),(2,.tmp 51),(3,.tmp 54),(4,.tmp 57)]∧(opF Tryd.f21 3 13).dst=some 58∧(opF Tryd.f21 3 13).guard=none:=⟨by kernel_rfl,by kernel_rfl,by kernel_rfl⟩
theorem tail21_14:(opF Tryd.f21 3 14).op = .call { callee := .value (.func 46),args := #[.tmp 58],argTypes := #[25] }∧(opF Tryd.f21 3 14).dst=some 59∧(opF Tryd.f21 3 14).guard=none:=⟨by kernel_rfl,by kernel_rfl,by kernel_rfl⟩
theorem tail21_15:(opF Tryd.f21 3 15).op = .assign (.tmp 59)∧(opF Tryd.f21 3 15).dst=some 2∧(opF Tryd.f21 3 15).guard=none:=⟨by kernel_rfl,by kernel_rfl,by kernel_rfl⟩
theorem wanted_none {o:Oper} {ops:Array Oper} {ts:Array Value} (h:o.guard=none):Region.wanted o (yielded ops ts)=true:=by simp [Region.wanted,h]
theorem eval_put {a:Act} {d:Nat} {v:Value} (h:d < a.tmps.size):(a.put (some d) v).eval (.tmp d)=v:=by
  simp [Act.put,Act.eval,Array.getD,h]
set_option maxRecDepth 100000 in
theorem tail21 [Fixed] {ops:Array Oper} {Q:Exit→Act→World→Prop} {a1:Act} {w1:World} {a c d e t J:ByteArray} (hsz:a1.tmps.size=60)
    (h46:a1.eval (.tmp 46) = .string a) (h48:a1.eval (.tmp 48) = .string c) (h51:a1.eval (.tmp 51) = .string d) (h54:a1.eval (.tmp 54) = .string e) (h57:a1.eval (.tmp 57) = .string t)
    (hcall:Calls Tryd.prog 46 #[.slice (some ⟨w1.heap.size,0,none⟩) 5 5] (w1.alloc (.cells #[.string a,.string c,.string d,.string e,.string t] 9)) fun x w' => x = .returned (.string J)∧More (w1.alloc (.cells #[.string a,.string c,.string d,.string e,.string t] 9)) w')
    (hQ:∀ w' a',More (w1.alloc (.cells #[.string a,.string c,.string d,.string e,.string t] 9)) w' → a'.defers=a1.defers→a'.tmps.toList=((a1.tmps.toList.set 58 (.slice (some ⟨w1.heap.size,0,none⟩) 5 5)).set 59 (.string J)).set 2 (.string J)→Q .normal a' w') :
    wpList Tryd.prog ops Q ((opsF Tryd.f21 3).toList.drop 13) a1 w1:=by
  rw [tail21_ops]
  simp only [wpList]
  rw [if_pos (wanted_none tail21_13.2.2)]
  left
  refine wp_value (u := .slice (some ⟨w1.heap.size,0,none⟩) 5 5) (w' := w1.alloc (.cells #[.string a,.string c,.string d,.string e,.string t] 9)) ?_ ?_
  · have : (#[((0 : Nat), Operand.tmp 46), (1, .tmp 48), (2, .tmp 51), (3, .tmp 54), (4, .tmp 57)].map fun (x : Nat × Operand) => (x.1, a1.eval x.2)) = #[(0, .string a), (1, .string c), (2, .string d), (3, .string e), (4, .string t)] := by
      simp [h46,h48,h51,h54,h57]
    have hb:=bs5 a c d e t w1
    rw [← this] at hb
    simp only [execOp,tail21_13.1,Sem.run_bind]
    rw [show (Instr.buildSlice 25 5 (#[((0:Nat),Operand.tmp 46),(1,.tmp 48),(2,.tmp 51),(3,.tmp 54),(4,.tmp 57)].map fun x=>match x with | (i,y)=>(i,a1.eval y))).run Tryd.prog w1=_ from hb]
    rfl
  · rw [tail21_13.2.1, if_pos (wanted_none tail21_14.2.2)]
    left
    refine wp_enter (f:=46) (args := #[.slice (some ⟨w1.heap.size,0,none⟩) 5 5]) (w' := w1.alloc (.cells #[.string a,.string c,.string d,.string e,.string t] 9)) ?_ (Calls.mono hcall ?_)
    · have h58 : (a1.put (some 58) (.slice (some ⟨w1.heap.size, 0, none⟩) 5 5)).eval (.tmp 58) = .slice (some ⟨w1.heap.size, 0, none⟩) 5 5 := eval_put (by omega)
      simp only [execOp,tail21_14.1,resolve,Act.eval,Deferred.ofValue,Sem.run_bind,Sem.run_pure,Result.andThen,invoke]
      have:(#[Operand.tmp 58].map (a1.put (some 58) (.slice (some ⟨w1.heap.size,0,none⟩) 5 5)).eval) = #[.slice (some ⟨w1.heap.size,0,none⟩) 5 5]:=by simp [h58]
      simp only [this,Array.append_empty,Array.empty_append]
      exact callFunc_run ⟨_,Tryd.func46,by kernel_rfl,of_decide_eq_false (by kernel_rfl)⟩
    · rintro x w2 ⟨rfl, hm⟩
      refine ⟨_,rfl,?_⟩
      rw [if_pos (wanted_none tail21_15.2.2)]
      left
      rw [tail21_14.2.1]
      refine wp_value (u := .string J) (w' := w2) ?_ ?_
      · have h59 : ((a1.put (some 58) (.slice (some ⟨w1.heap.size, 0, none⟩) 5 5)).put (some 59) (.string J)).eval (.tmp 59) = .string J := eval_put (by simp [Act.put]; omega)
        simp only [execOp,tail21_15.1,h59,Sem.run_pure]
      · rw [tail21_15.2.1]
        refine hQ w2 _ hm ?_ ?_
        · rfl
        · simp [Act.put]
end Go.Proofs.Lex
end
/- Lexicon: Line, told. -/
section
open Go Go.Vm Go.Proofs
namespace Go.Proofs.Lex
def dash:ByteArray:=⟨#[45]⟩
abbrev bn:ByteArray:=⟨#[32,10]⟩
def anyBN (s:ByteArray):Bool:=Lib.containsAny s.data.toList [32,10]
/-- A lexeme that has a line. -/
def lineOk (x:Lexm):Bool:=nameL x.id && (nameL x.cat && (!decide (x.stem=dash) && (!anyBN x.stem && (!decide (x.par=dash) && ((decide (x.par=emp) || nameL x.par) && validF x.feats)))))
def lineParts (x:Lexm):List ByteArray:=partsL x.id x.cat (dashS x.stem) (dashS x.par) (textS x.feats)
def lineS (x:Lexm):ByteArray:=if lineOk x then ⟨(joinB (lineParts x) blank).toArray⟩ else emp
/-- Sizes that a machine bears; ContainsAny is told. -/
structure okLine (x:Lexm):Prop where
  id:okS x.id
  cat:okS x.cat
  par:okS x.par
  feats:okF x.feats
  any:anyFn [st x.stem,st bn]=some (bo (anyBN x.stem))
  text:lineOk x=true→okT x.feats
  line:lineOk x=true→(joinB (lineParts x) blank).length ≤ big
def avB (l:List UInt8):AV := .str ⟨l.toArray⟩
theorem plainS:Plain encStr avB:=⟨fun C w x=>by simp only [Rep,avB],fun C w x u h=>by simpa only [Rep,avB] using h,fun _=>rfl⟩
def leB (x y:List UInt8):Bool:=decide (x ≤ y)
def strsO:List AV→Option (List ByteArray)
  | []=>some []
  | .str s :: l => match strsO l with
    | some r=>some (s::r)
    | none=>none
  | _=>none
theorem strsO_eq:∀ {cs:List AV} {l:List ByteArray},strsO cs=some l→cs=l.map .str
  | [],l,h=>by simp only [strsO,Option.some.injEq] at h; subst h; rfl
  | c :: cs, l, h => by
    unfold strsO at h
    split at h
    · rename_i e; cases e
    · rename_i s l' e
      simp only [List.cons.injEq] at e
      obtain ⟨rfl,rfl⟩:=e
      split at h
      · rename_i r hr
        simp only [Option.some.injEq] at h
        subst h
        rw [strsO_eq hr]
        rfl
      · cases h
    · cases h
def bytsO (cs : List AV) : Option (List (List UInt8)) := match strsO cs with
  | some l=>some (l.map (·.data.toList))
  | none=>none
theorem bytsO_eq (cs:List AV) (l:List (List UInt8)) (h:bytsO cs=some l):cs=l.map avB:=by
  unfold bytsO at h
  split at h
  · rename_i m hm
    simp only [Option.some.injEq] at h
    subst h
    rw [strsO_eq hm,List.map_map]
    apply List.map_congr_left
    intro x _
    simp [avB]
  · cases h
/-- What a context does of the library's functions. -/
structure XM [Fixed] (X:Ext):Prop extends XL X where
  any:X.pureFn 44=some anyFn
  cut:X.pureFn 84=some cutFn
  join:X.pureFn 55=some joinFn
  split:X.pureFn 53=some splitFn
  sort:X.pureFn 39=none∧X.stFn 39=some (sortFn bytsO avB leB)
def lineC (fn:Func):Code := .seq (.region 0 (opsF fn 0) false) (.seq (.seq (.region 1 (opsF fn 1) false) (.cond (.tmp 44) (.seq (.region 2 (opsF fn 2) false) .ret) .skip)) (.seq (.region 3 (opsF fn 3) true) .ret))
theorem body21:Tryd.f21.body=some (lineC Tryd.f21):=by kernel_rfl
theorem reg21_1:regN (cutF Tryd.f21) 1 = .region 1 (opsF Tryd.f21 1) false:=by kernel_rfl
theorem reg21_3:regN (cutF Tryd.f21) 3 = .region 3 ((opsF Tryd.f21 3).extract 0 13) true:=by kernel_rfl
theorem dr21:drOk (opsF Tryd.f21 3)=true:=by kernel_rfl
theorem tl21:tailOk (opsF Tryd.f21 3) 13=true:=by kernel_rfl
theorem sz21:(opsF Tryd.f21 3).size=16:=by kernel_rfl
theorem gd21:((opsF Tryd.f21 3).toList.take 13).all (fun o=>o.guard.isNone)=true:=by kernel_rfl
theorem eff21:effChain [] ((opsF Tryd.f21 3).extract 0 13)=false:=by kernel_rfl
/-- A drawn region, run in the text's order. -/
theorem vexec_pre {P:Program} {X:Ext} {call:Caller} {lf ro id:Nat} {ops:Array Oper} {S S' : St} (he:effChain [] ops=false) (h:vexec P X call lf ro noFg (.region id ops true) S=some (.normal,S')):vops P X call true ro ops ops.toList S=some S' := by
  simp only [vexec,noFg,vreg,tailL,Bool.true_and,he] at h
  cases hv:vops P X call true ro ops ops.toList S with
  | none=>rw [hv] at h; simp at h
  | some S1 =>
    rw [hv] at h
    simpa [fin,Go.Vm.settle,forget,forgetT] using h
section
variable [Fixed] {X:Ext}
theorem emp_of_name {s:ByteArray} (h:nameL s=true):s ≠ emp:=by
  rintro rfl
  unfold nameL at h
  rw [Bool.and_eq_true,emp_iff.2 (show emp.size=0 from rfl)] at h
  cases h.2
theorem dash_ne {s:ByteArray}:dashS s ≠ emp:=by
  unfold dashS
  split
  · intro h
    have:=congrArg ByteArray.size h
    revert this
    decide
  · assumption
theorem u43 (hL:XL X) {s:ByteArray} (h:okS s) (dr:Bool) (σ:List Ob):callv X (callerOf U1) dr 43 [st s] σ 0=some (bo (nameL s),σ):=by
  obtain ⟨a1,a2,a3⟩:=hL.ok 43 rfl
  exact call_on (B:=aB) (T:=U1) (y:=nameL s) (vs:=[aS.enc s]) a1 a2 a3 rfl (s1_at (A:=aS) (B:=aB) (g:=nameL) (ok:=okS) h)
theorem u45 (hL:XL X) {F:List Feat} (h:okF F) (dr:Bool) (σ:List Ob):callv X (callerOf U1) dr 45 [featsV F] σ 0=some (bo (validF F),σ):=by
  obtain ⟨a1,a2,a3⟩:=hL.ok 45 rfl
  exact call_on (B:=aB) (T:=U1) (y:=validF F) (vs:=[aFs.enc F]) a1 a2 a3 (by simp only [AV.ltAll,aFs.lt,Bool.and_self]) (s1_at (A:=aFs) (B:=aB) (g:=validF) (ok:=okF) h)
theorem u47 (hL:XL X) (s:ByteArray) (dr:Bool) (σ:List Ob):callv X (callerOf U1) dr 47 [st s] σ 0=some (st (dashS s),σ):=by
  obtain ⟨a1,a2,a3⟩:=hL.ok 47 rfl
  exact call_on (B:=aS) (T:=U1) (y:=dashS s) (vs:=[aS.enc s]) a1 a2 a3 rfl (s1_at (A:=aS) (B:=aS) (g:=dashS) (ok:=fun _=>True) trivial)
theorem u48 (hL:XL X) {F:List Feat} (h:okT F) (dr:Bool) (σ:List Ob):callv X (callerOf U1) dr 48 [featsV F] σ 0=some (st (textS F),σ):=by
  obtain ⟨a1,a2,a3⟩:=hL.ok 48 rfl
  exact call_on (B:=aS) (T:=U1) (y:=textS F) (vs:=[aFs.enc F]) a1 a2 a3 (by simp only [AV.ltAll,aFs.lt,Bool.and_self]) (s1_at (A:=aFs) (B:=aS) (g:=textS) (ok:=okT) h)
theorem u44 (hM:XM X) {call:Caller} {s:ByteArray} {b:Bool} (h:anyFn [st s,st bn]=some (bo b)) (σ:List Ob):callv X call false 44 [st s,st bn] σ 0=some (bo b,σ) :=
  call_pure hM.any rfl rfl rfl h
/-- Line, where it is not the empty text: its last region. -/
theorem line_tail (hX:ExtOk Tryd.prog X) (hM:XM X) {x:Lexm} (h:okLine x) (hok:lineOk x=true) :
    SR Tryd.prog 0 [] (.region 3 (opsF Tryd.f21 3) true) (f21c_S1 x) fun z T=>z = .normal∧nth T.tmps 2=st ⟨(joinB (lineParts x) blank).toArray⟩∧T.tmps.length=60:=by
  have hC:=callerOf_ok (U1_ok hX hM.toXL)
  intro C w a Q hat hro hQ
  have hg3:=f21c_g3_ x X (callerOf U1) 0 (dashS x.stem) (dashS x.par) (textS x.feats) (u47 hM.toXL _ _ _) (u47 hM.toXL _ _ _) (u48 hM.toXL (h.text hok) _ _)
  rw [reg21_3] at hg3
  have hpre:=vexec_pre eff21 hg3
  rw [Array.toList_extract] at hpre
  generalize hSm:stOf 60 _ _ _=Sm at hpre
  have hpre' : vops Tryd.prog X (callerOf U1) true 0 (opsF Tryd.f21 3) ((opsF Tryd.f21 3).toList.take 13) (f21c_S1 x) = some Sm := by
    rw [vops_alone (ops' := (opsF Tryd.f21 3).extract 0 13) fun o ho=>by simpa using List.all_eq_true.1 gd21 o ho]
    simpa using hpre
  have hms:13 ≤ (opsF Tryd.f21 3).size:=by rw [sz21]; decide
  have main:=draw_tail (P:=Tryd.prog) (C:=C) (w:=w) (a:=a) (Q:=Q) (ds:=[]) (ops:=opsF Tryd.f21 3) (S:=f21c_S1 x) (Sm:=Sm) (id:=3) (m:=13) (ro:=0) hX.mixed hX hC dr21 hms hpre' tl21 hat hro
  refine main fun w1 a1 hat1 hg1 => ?_
  clear main
  have e46:=ev_run hat1.tmps (x := .tmp 46) (v:=st x.id) (by rw [← hSm]; show _=_; kernel_rfl)
  have e48:=ev_run hat1.tmps (x := .tmp 48) (v:=st x.cat) (by rw [← hSm]; show _=_; kernel_rfl)
  have e51:=ev_run hat1.tmps (x := .tmp 51) (v:=st (dashS x.stem)) (by rw [← hSm]; show _=_; kernel_rfl)
  have e54:=ev_run hat1.tmps (x := .tmp 54) (v:=st (dashS x.par)) (by rw [← hSm]; show _=_; kernel_rfl)
  have e57:=ev_run hat1.tmps (x := .tmp 57) (v:=st (textS x.feats)) (by rw [← hSm]; show _=_; kernel_rfl)
  simp only [Rep] at e46 e48 e51 e54 e57
  have hlen:Sm.tmps.length=60:=by rw [← hSm]; show _=_; kernel_rfl
  have hsz : a1.tmps.size = 60 := by
    have:=hat1.tmps.length
    rw [hlen] at this
    simpa using this.symm
  obtain ⟨hs1,hgr1,_⟩:=more_heap hat1.ok 0 (w' := w1.alloc (.cells #[.string x.id,.string x.cat,.string (dashS x.stem),.string (dashS x.par),.string (textS x.feats)] 9)) rfl rfl rfl (by simp) (fun y hy=>heap_alloc_old w1 _ hy)
  have hn : nameL x.id = true ∧ nameL x.cat = true := by
    unfold lineOk at hok
    simp only [Bool.and_eq_true] at hok
    exact ⟨hok.1,hok.2.1⟩
  refine tail21 hsz e46 e48 e51 e54 e57 (join46 hX hM.toXL hs1 (b:=w1.heap.size) (heap_alloc_new w1 _) (emp_of_name hn.1) (emp_of_name hn.2) dash_ne dash_ne (h.line hok)) fun w2 a2 hm hdf ht => ?_
  have hm2:More w1 w2:=⟨hm.os,hm.tape,hm.output,Nat.le_trans (by simp) hm.size,fun y hy=>(hm.blk y (by simp; omega)).trans (heap_alloc_old w1 _ hy)⟩
  obtain ⟨hs2,hgr2,_⟩:=more_heap hat1.ok 0 hm2.os hm2.tape hm2.output hm2.size hm2.blk
  refine hQ .normal ⟨setN (setN (setN Sm.tmps 58 .any) 59 .any) 2 (st ⟨(joinB (lineParts x) blank).toArray⟩),Sm.st⟩ C w2 a2 ⟨rfl,?_,by simp only [setN_length]; exact hlen⟩ ⟨hat1.st,hs2,?_,hdf.trans hat1.defers⟩ (hg1.trans hat1.ok hgr2)
  · simp only [nth_setN, setN_length, hlen]
    rw [if_pos ⟨trivial,by decide⟩]
  · rw [ht]
    exact set_rep2 (set_rep2 (set_rep2 (RepAll.mono hgr2.keeps _ _ hat1.tmps) (by simp only [Rep])) (by simp only [Rep])) (by simp only [Rep]; rfl)
end
end Go.Proofs.Lex
end
/- Lexicon: the context of all walks. -/
section
open Go Go.Vm Go.Proofs
open Go.RowKit (Below)
namespace Go.Proofs.Lex
def okFn (fn : Func) : Bool := fn.name != "runtime.NumGoroutine" && (match fn.body with | some c => codeOk c | none => true)
def okFu (P:Program) (f:FuncId):Bool:=match P.funcs[f]? with | some fn=>okFn fn | none=>true
theorem okF_some {P : Program} {f : FuncId} {fn : Func} (hf : P.funcs[f]? = some fn) (h : okFu P f = true) : ¬ fn.name = "runtime.NumGoroutine" ∧ ∀ c, fn.body = some c → codeOk c = true := by
  unfold okFu at h
  rw [hf] at h
  simp only [okFn,Bool.and_eq_true,bne_iff_ne,ne_eq] at h
  refine ⟨h.1,fun c hc => ?_⟩
  have h2:=h.2
  rw [hc] at h2
  exact h2
def dom09 (f:FuncId):Bool:=Nat.blt 2 f && Nat.blt f 150
theorem dom_all:((List.range 150).all fun f => !dom09 f || okFu Tryd.prog f)=true:=by kernel_rfl
theorem dom_at {f:FuncId} (hd:dom09 f=true):okFu Tryd.prog f=true:=by
  have hlt : f < 150 := by
    unfold dom09 at hd
    rw [Bool.and_eq_true] at hd
    exact Nat.le_of_ble_eq_true hd.2
  obtain ⟨l150,hl150⟩:∃ l,List.range 150=l:=⟨_,rfl⟩
  have hmem:f ∈ l150:=hl150 ▸ List.mem_range.2 hlt
  have hall:=dom_all
  rw [hl150] at hall
  have:=List.all_eq_true.1 hall f hmem
  simpa [hd] using this
/-- The two tables and the bytealg variable, as a world bears them. -/
@[reducible] def tabFix (W:World):Fixed:=⟨fun b X=>(b=0 ∨ b=1 ∨ b=2)∧W.heap[b]? = some X⟩
theorem cell_move {W w:World} (h:∀ b X,(tabFix W).fix b X→w.heap[b]? = some X) {b o:Nat} {v:Value} (hb:b=0 ∨ b=1 ∨ b=2) (hc:W.cell? ⟨b,o,none⟩=some v):w.cell? ⟨b,o,none⟩=some v:=by
  cases hX:W.heap[b]? with
  | none=>simp [World.cell?,hX] at hc
  | some X =>
    have:=h b X ⟨hb,hX⟩
    rw [← hc]
    simp only [World.cell?,hX,this]
theorem tabs_move {W w:World} (hT:Lib.Utf8Tabs 0 1 W) (h:∀ b X,(tabFix W).fix b X→w.heap[b]? = some X):Lib.Utf8Tabs 0 1 w :=
  ⟨fun c hc=>cell_move h (.inl rfl) (hT.1 c hc),fun i hi=>⟨cell_move h (.inr (.inl rfl)) (hT.2 i hi).1,cell_move h (.inr (.inl rfl)) (hT.2 i hi).2⟩⟩
def pure09 [Fixed] (f:FuncId):Option (List AV→Option AV):=if f=93 then some validFn else if f=84 then some cutFn else if f=44 then some anyFn else if f=55 then some joinFn else if f=53 then some splitFn else none
def st09 (f:FuncId):Option (List AV→List Ob→Nat→Option (AV × List Ob)):=if f=39 then some (sortFn bytsO avB leB) else if f=110 then some (bldCheck 91) else if f=80 then some (bldString 5) else none
def X09 [Fixed]:Ext := { pureFn:=pure09,stFn:=st09,adopt:=fun _=>false,dom:=dom09,fg:=fgX }
theorem bodied {f : FuncId} {fn : Func} (hf : Tryd.prog.funcs[f]? = some fn) (h1 : fn.body.isSome = true) (h2 : decide (fn.name = "runtime.NumGoroutine") = false) : Bodied Tryd.prog f := ⟨fn, hf, h1, of_decide_eq_false h2⟩
theorem lays240:Lays.n240 Tryd.prog Tryd.laysJoin_ren := { Tryd.laysJoin with }
theorem lays169:Lays.n169 Tryd.prog Tryd.laysJoin_ren := { Tryd.laysJoin with }
theorem ext09 {W:World} (hT:Lib.Utf8Tabs 0 1 W) {m:Int} (hM:W.cell? ⟨2,0,none⟩=some (.int .i64 m)) : @ExtOk (tabFix W) Tryd.prog (@X09 (tabFix W)):=by
  letI:=tabFix W
  have hTw:∀ (C:Ctx) (w:World),SOk C w→Lib.Utf8Tabs 0 1 w:=fun C w hs=>tabs_move hT fun b X h=>(hs.fx b X h).1
  have hMw:∀ (C:Ctx) (w:World),SOk C w→∃ m,w.cell? ⟨2,0,none⟩=some (.int .i64 m):=fun C w hs=>⟨m,cell_move (fun b X h=>(hs.fx b X h).1) (.inr (.inr rfl)) hM⟩
  refine ⟨by kernel_rfl,?_,?_,?_⟩
  · intro f fn hd hf
    exact okF_some hf (dom_at (by simpa only [X09] using hd))
  · intro f g hg
    simp only [X09,pure09] at hg
    split at hg
    · rename_i e
      subst e
      simp only [Option.some.injEq] at hg
      subst hg
      exact ⟨bodied Tryd.func93 (by kernel_rfl) (by kernel_rfl),pure93 hTw⟩
    split at hg
    · rename_i e
      subst e
      simp only [Option.some.injEq] at hg
      subst hg
      exact ⟨bodied Tryd.func84 (by kernel_rfl) (by kernel_rfl),pure84 hMw⟩
    split at hg
    · rename_i e
      subst e
      simp only [Option.some.injEq] at hg
      subst hg
      exact ⟨bodied Tryd.func44 (by kernel_rfl) (by kernel_rfl),pure44⟩
    split at hg
    · rename_i e
      subst e
      simp only [Option.some.injEq] at hg
      subst hg
      exact ⟨bodied Tryd.func55 (by kernel_rfl) (by kernel_rfl),pure55⟩
    split at hg
    · rename_i e
      subst e
      simp only [Option.some.injEq] at hg
      subst hg
      exact ⟨bodied Tryd.func53 (by kernel_rfl) (by kernel_rfl),pure53 hMw⟩
    · cases hg
  · intro f g hg
    simp only [X09,st09] at hg
    split at hg
    · rename_i e
      subst e
      simp only [Option.some.injEq] at hg
      subst hg
      exact ⟨bodied Tryd.func39 (by kernel_rfl) (by kernel_rfl),sort_st plainS bytsO_eq (fun blk cap zs w h1 h2 h3=>Any.slices_Sort_string Tryd.laysSortS blk 0 cap zs w h1 h2 h3) (fun p cap w=>Any.slices_Sort_string_none Tryd.laysSortS p cap w)⟩
    split at hg
    · rename_i e
      subst e
      simp only [Option.some.injEq] at hg
      subst hg
      exact ⟨bodied Tryd.func110 (by kernel_rfl) (by kernel_rfl),bldCheck_st (fun b w h=>Any.Builder_copyCheck_used lays240 Tryd.joinExtra.toX72 b w h) (fun b w h1 h2 h3=>Any.Builder_copyCheck_fresh lays240 Tryd.joinExtra.toX72 b w h1 h2 h3)⟩
    split at hg
    · rename_i e
      subst e
      simp only [Option.some.injEq] at hg
      subst hg
      exact ⟨bodied Tryd.func80 (by kernel_rfl) (by kernel_rfl),bldString_st (T:=91) (fun b p t w h=>bld_string_nil lays169 Tryd.joinExtra b p t w h) (fun b g cap p t cur l w h0 h1 h2 h3 h4 h5 h6=>bld_string lays169 Tryd.joinExtra b g cap p t cur l w h0 h1 h2 h3 h4 h5 h6)⟩
    · cases hg
theorem xl09 [Fixed]:XL X09:=by
  refine ⟨fun f hf => ?_,fun f h1 h2 => ?_,fun f=>rfl,⟨rfl,rfl⟩,⟨rfl,rfl⟩⟩
  · have hn : f ≠ 93 ∧ f ≠ 84 ∧ f ≠ 44 ∧ f ≠ 55 ∧ f ≠ 53 ∧ f ≠ 39 ∧ f ≠ 110 ∧ f ≠ 80 := by
      refine ⟨?_,?_,?_,?_,?_,?_,?_,?_⟩ <;> (rintro rfl; revert hf; decide)
    obtain ⟨h1,h2,h3,h4,h5,h6,h7,h8⟩:=hn
    refine ⟨?_,?_,rfl⟩
    · simp only [X09,pure09,h1,h2,h3,h4,h5,if_false]
    · simp only [X09,st09,h6,h7,h8,if_false]
  · have h3 : f < 115 := Nat.le_of_ble_eq_true h2
    have h4 : Nat.blt f 150 = true := by
      have:f < 150:=by omega
      simpa using this
    simp only [X09,dom09,h1,h4,Bool.and_self]
theorem xm09 [Fixed]:XM X09:=⟨xl09,rfl,rfl,rfl,rfl,⟨rfl,rfl⟩⟩
end Go.Proofs.Lex
end
/- Lexicon: Line, whole. -/
section
open Go Go.Vm Go.Proofs
namespace Go.Proofs.Lex
def keep21:List Nat:=[3,4,5,6,7,8,9,10,11,12,13,14,15,16,17,18,19,20,21,22,23,24,25,26,27,28,29,30,31,32,33,34,35,36,37,38,39,40,41,42,43]
theorem eqD_iff {s:ByteArray}:(s.toList == (ByteArray.mk #[45]).toList)=decide (s=dash):=by
  by_cases e:s=dash
  · rw [decide_eq_true e]; exact eqB_iff.2 e
  · rw [decide_eq_false e]; exact eqB_ne.2 e
theorem eqE_iff {s:ByteArray}:(s.toList == (ByteArray.mk #[]).toList)=decide (s=emp):=by
  by_cases e:s=emp
  · rw [decide_eq_true e]; exact eqB_iff.2 e
  · rw [decide_eq_false e]; exact eqB_ne.2 e
section
variable [Fixed] {X:Ext}
theorem line_no (hX:ExtOk Tryd.prog X) (hM:XM X) {x:Lexm} (h:okLine x) (hok:lineOk x=false):CallAt Tryd.prog 21 [aL.enc x] [] 0 (aS.enc emp) []:=by
  have hC:=callerOf_ok (U1_ok hX hM.toXL)
  have yes : ∀ {b : Bool}, nameL x.id = true → nameL x.cat = true → (x.stem.toList == (ByteArray.mk #[45]).toList) = false → anyBN x.stem = false → (x.par.toList == (ByteArray.mk #[45]).toList) = false → (!x.par.toList == (ByteArray.mk #[]).toList) = b → (b = true → nameL x.par = true) → validF x.feats = true → False := by
    intro b h1 h2 h3 h4 h5 h6 h7 h8
    have : lineOk x = true := by
      rw [eqD_iff] at h3 h5
      rw [eqE_iff] at h6
      unfold lineOk
      rw [h1,h2,h3,h4,h5,h8]
      cases b with
      | true=>rw [h7 rfl]; simp
      | false =>
        have:decide (x.par=emp)=true:=by simpa using h6
        rw [this]; rfl
    rw [hok] at this
    cases this
  have M := f21_P0 x X (callerOf U1) 0 emp emp emp emp (nameL x.id) (nameL x.cat) (anyBN x.stem) (nameL x.par) (validF x.feats) (validF x.feats)
    (u43 hM.toXL h.id _ _) (fun _=>u43 hM.toXL h.cat _ _) (fun _ _ _=>u44 hM h.any _) (fun _ _ _ _ _ _=>u43 hM.toXL h.par _ _) (fun _ _ _ _ _ _ _=>u45 hM.toXL h.feats _ _)
    (fun h1 h2 h3 h4 h5 h6 h7 h8=>(yes h1 h2 h3 h4 h5 h6 (fun _=>h7) h8).elim) (fun h1 h2 h3 h4 h5 h6 h7 h8=>(yes h1 h2 h3 h4 h5 h6 (fun _=>h7) h8).elim) (fun h1 h2 h3 h4 h5 h6 h7 h8=>(yes h1 h2 h3 h4 h5 h6 (fun _=>h7) h8).elim) (fun h1 h2 h3 h4 h5 h6 h7 h8=>(yes h1 h2 h3 h4 h5 h6 (fun _=>h7) h8).elim)
    (fun _ _ _ _ _ _=>u45 hM.toXL h.feats _ _)
    (fun h1 h2 h3 h4 h5 h6 h8=>(yes h1 h2 h3 h4 h5 h6 (fun e=>by cases e) h8).elim) (fun h1 h2 h3 h4 h5 h6 h8=>(yes h1 h2 h3 h4 h5 h6 (fun e=>by cases e) h8).elim) (fun h1 h2 h3 h4 h5 h6 h8=>(yes h1 h2 h3 h4 h5 h6 (fun e=>by cases e) h8).elim) (fun h1 h2 h3 h4 h5 h6 h8=>(yes h1 h2 h3 h4 h5 h6 (fun e=>by cases e) h8).elim)
  refine run_res (B:=aS) hX hC (hM.dom 21 rfl rfl) Tryd.func21 (by kernel_rfl) (M.1 ?_) (aS.de emp)
  unfold f21_q0
  cases h1:nameL x.id with
  | false=>rfl
  | true =>
    cases h2:nameL x.cat with
    | false=>rfl
    | true =>
      cases h3:(x.stem.toList == (ByteArray.mk #[45]).toList) with
      | true=>rfl
      | false =>
        cases h4:anyBN x.stem with
        | true=>rfl
        | false =>
          cases h5:(x.par.toList == (ByteArray.mk #[45]).toList) with
          | true=>rfl
          | false =>
            cases h6:(!x.par.toList == (ByteArray.mk #[]).toList) with
            | true =>
              cases h7:nameL x.par with
              | false=>rfl
              | true =>
                cases h8:validF x.feats with
                | false=>rfl
                | true=>exact (yes h1 h2 h3 h4 h5 h6 (fun _=>h7) h8).elim
            | false =>
              cases h8:validF x.feats with
              | false=>rfl
              | true=>exact (yes h1 h2 h3 h4 h5 h6 (fun e=>by cases e) h8).elim
theorem r21_0 (x:Lexm) {call:Caller}:vexec Tryd.prog X call 0 0 noFg (.region 0 (opsF Tryd.f21 0) false) { tmps:=[.agg (lexC x)] ++ List.replicate (Tryd.f21.ntmps - 1) .undef,st:=[] }=some (.normal,f21c_S0 x):=by kernel_rfl
theorem f21_vend (x:Lexm) (T:St) (J:ByteArray) (h:nth T.tmps 2=st J):∃ σ',vend Tryd.prog Tryd.f21 [] 0 T=some (st J,σ'):=by
  have hr:resultsv Tryd.prog T Tryd.f21.results.toList=some [nth T.tmps 2]:=by kernel_rfl
  unfold vend
  rw [hr,h]
  exact ⟨T.st,vend1_plain (by simp [AV.ownsAll,AV.owns])⟩
theorem line_yes (hX:ExtOk Tryd.prog X) (hM:XM X) {x:Lexm} (h:okLine x) (hok:lineOk x=true):CallAt Tryd.prog 21 [aL.enc x] [] 0 (aS.enc ⟨(joinB (lineParts x) blank).toArray⟩) []:=by
  have hC:=callerOf_ok (U1_ok hX hM.toXL)
  have hp:=hok
  unfold lineOk at hp
  simp only [Bool.and_eq_true,Bool.not_eq_true',Bool.or_eq_true] at hp
  obtain ⟨h1,h2,h3,h4,h5,h6,h8⟩:=hp
  refine call_rel (B:=aS) (fn:=Tryd.f21) (c:=lineC Tryd.f21) (R:=fun z T=>z = .ret∧nth T.tmps 2=st ⟨(joinB (lineParts x) blank).toArray⟩) Tryd.func21 body21 (of_decide_eq_false (by kernel_rfl)) ?_ (fun z T hz => ?_)
  · refine SR.seq (SR.exec hX hC (lf := 0) (fg := noFg) (by kernel_rfl) (r21_0 x)) (fun T hT => ?_) (fun z T hz hh => absurd hh.1 hz)
    obtain ⟨-,rfl⟩:=hT
    refine SR.seq (R1:=fun z T=>z = .normal∧T=f21c_S1 x) ?_ (fun T hT => ?_) (fun z T hz hh=>absurd hh.1 hz)
    · refine SR.seq (R1 := fun z T => z = .normal ∧ forget keep21 T = f21c_S1 x) ?_ (fun T hT => ?_) (fun z T hz hh => absurd hh.1 hz)
      · rw [← reg21_1]
        have e3:(x.stem.toList == (ByteArray.mk #[45]).toList)=false:=by rw [eqD_iff]; exact h3
        have e5:(x.par.toList == (ByteArray.mk #[45]).toList)=false:=by rw [eqD_iff]; exact h5
        have c0:=u43 (X:=X) hM.toXL h.id false [Ob.cells [st x.id,st x.cat,st x.stem,st x.par,lro x.feats.length 2 (x.feats.flatMap featC)]]
        have c1:=u43 (X:=X) hM.toXL h.cat false [Ob.cells [st x.id,st x.cat,st x.stem,st x.par,lro x.feats.length 2 (x.feats.flatMap featC)]]
        have c3:=u44 (call:=callerOf U1) hM h.any [Ob.cells [st x.id,st x.cat,st x.stem,st x.par,lro x.feats.length 2 (x.feats.flatMap featC)]]
        have c6:=u45 (X:=X) hM.toXL h.feats false [Ob.cells [st x.id,st x.cat,st x.stem,st x.par,lro x.feats.length 2 (x.feats.flatMap featC)]]
        rw [h1] at c0
        rw [h2] at c1
        rw [h4] at c3
        rw [h8] at c6
        cases h7:(!x.par.toList == (ByteArray.mk #[]).toList) with
        | true =>
          have hn : nameL x.par = true := by
            rcases h6 with h6 | h6
            · rw [eqE_iff,h6] at h7; cases h7
            · exact h6
          have c5:=u43 (X:=X) hM.toXL h.par false [Ob.cells [st x.id,st x.cat,st x.stem,st x.par,lro x.feats.length 2 (x.feats.flatMap featC)]]
          rw [hn] at c5
          refine (SR.exec hX hC (lf:=0) (fg:=noFg) (by rw [reg21_1]; kernel_rfl) (f21c_g1_fft x X (callerOf U1) 0 c0 c1 e3 c3 e5 h7 c5 c6)).mono ?_
          rintro z T ⟨rfl,rfl⟩
          exact ⟨rfl,by show _=_; kernel_rfl⟩
        | false =>
          refine (SR.exec hX hC (lf:=0) (fg:=noFg) (by rw [reg21_1]; kernel_rfl) (f21c_g1_fff x X (callerOf U1) 0 c0 c1 e3 c3 e5 h7 c6)).mono ?_
          rintro z T ⟨rfl,rfl⟩
          exact ⟨rfl,by show _=_; kernel_rfl⟩
      · obtain ⟨-, hf⟩ := hT
        refine SR.forget keep21 ?_
        rw [hf]
        refine SR.cond (b:=false) (by show _=_; kernel_rfl) ?_
        exact SR.skip ⟨rfl,rfl⟩
    · obtain ⟨-, rfl⟩ := hT
      refine SR.seq (line_tail hX hM h hok) (fun T hT => ?_) (fun z T hz hh=>absurd hh.1 hz)
      exact SR.ret ⟨rfl,hT.2.1⟩
  · obtain ⟨rfl, hz⟩ := hz
    obtain ⟨σ',hv⟩:=f21_vend x T _ hz
    exact ⟨.inr rfl,_,σ',hv,aS.de _⟩
/-- lexicon.Line. -/
theorem call21 (hX:ExtOk Tryd.prog X) (hM:XM X) {x:Lexm} (h:okLine x):CallAt Tryd.prog 21 [aL.enc x] [] 0 (aS.enc (lineS x)) []:=by
  unfold lineS
  cases hok:lineOk x with
  | true=>exact line_yes hX hM h hok
  | false=>exact line_no hX hM h hok
end
end Go.Proofs.Lex
end
/- Lexicon: feature.Parse (printed) -/
section
open Go Go.Vm Go.Proofs
namespace Go.Proofs.Lex
theorem f54_pt (s0:ByteArray)(X:Ext)(call:Caller)(lf:Nat)
 (h0:(ByteArray.toList s0 == ByteArray.toList (ByteArray.mk #[]))=true):vbody Tryd.prog X call lf noFg Tryd.f54 (codeOf Tryd.f54) [st s0] [] 0=some (AV.tup [AV.list LK.nil 0 0 [],i6 0],[]) :=
  along_sound (ans:=[(5,Ans.b true)]) (by kernel_rfl) (ai h0 trivial)
def f54_F0 (s0:ByteArray)(l13:List ByteArray)(S0:Nat→List Ob)(o4:Nat→AV)(i0:Nat):St :=
  stOf 43 [2,3,6,7,8,9,16,17,18,19,20,21,22,23,24,25,26,27,28,29,30,31,32,33,34,35,36,37,38] [(0,st s0),(4,o4 i0),(10,st s0),(11,bo false),(12,st s0),(13,lro l13.length 1 (List.map st l13)),(14,i6 (↑l13.length:Int)),(15,i6 (↑i0:Int))] (S0 i0)
def f54_S0 (s0:ByteArray)(l13:List ByteArray):St :=
  stOf 43 [] [(0,st s0),(2,AV.list LK.nil 0 0 []),(3,i6 0),(4,AV.list LK.nil 0 0 []),(10,st s0),(11,bo false),(12,st s0),(13,lro l13.length 1 (List.map st l13)),(14,i6 (↑l13.length:Int)),(15,i6 0)] []
abbrev f54_D0:List Nat:=[38,37,36,35,34,33,32,3,2,31,30,29,28,27,26,25,9,8,7,24,23,22,19,21,20,6,18,17,16]
theorem f54_L0 (s0:ByteArray)(l13:List ByteArray)(S0:Nat→List Ob)(o4:Nat→AV)(X:Ext)(call:Caller)(lf n:Nat)(x:Ex) (S' : St)
 (e0:o4 0=AV.list LK.nil 0 0 [])
 (e1:S0 0=[])
 (hn:n<lf)
 (hs:∀ j,j<n→∃ S1,vexec Tryd.prog X call lf 0 noFg (loopN Tryd.f54 0) (f54_F0 s0 l13 S0 o4 j)=some (Ex.normal,S1)∧forget f54_D0 S1=(f54_F0 s0 l13 S0 o4 (j + 1)))
 (he:vexec Tryd.prog X call lf 0 noFg (loopN Tryd.f54 0) (f54_F0 s0 l13 S0 o4 n)=some (x,S'))
 (hx:x ≠ Ex.normal):vexec Tryd.prog X call lf 0 noFg (Go.Code.loop (loopN Tryd.f54 0)) (f54_S0 s0 l13)=some (x,S') :=
  loop_runK (by kernel_rfl) (fun j=>(f54_F0 s0 l13 S0 o4 j)) n hn (by show forget f54_D0 (f54_S0 s0 l13)=(f54_F0 s0 l13 S0 o4 0); unfold f54_F0; rw [e0,e1]; show _=_; kernel_rfl) hs he hx
def f54_S1 (s0:ByteArray)(l13:List ByteArray)(S0:Nat→List Ob)(o4:Nat→AV)(i0:Nat)(a:ByteArray)(r17:List AV)(b c:ByteArray)(d:Bool)(n29:Int):St :=
  stOf 43 [32,33,34,35,36,37,38] [(0,st s0),(2,AV.list LK.nil 0 0 []),(3,i6 3),(4,o4 i0),(6,st a),(7,st b),(8,st c),(9,bo true),(10,st s0),(11,bo false),(12,st s0),(13,lro l13.length 1 (List.map st l13)),(14,i6 (↑l13.length:Int)),(15,i6 (↑i0:Int)),(16,bo true),(17,AV.eaddr (st a::r17)),(18,st a),(19,AV.tup [st b,st c,bo d]),(20,st a),(21,AV.tup [st b,st c,bo d]),(22,st b),(23,st c),(24,bo true),(25,bo true),(26,bo false),(27,bo false),(28,o4 i0),(29,i6 n29),(30,bo true),(31,bo true)] (S0 i0)
theorem f54_r0_ttt (s0:ByteArray)(X:Ext)(call:Caller)(lf:Nat)(l13:List ByteArray)(S0:Nat→List Ob)(o4:Nat→AV)(i0:Nat)(a:ByteArray)(r17:List AV)(c d:ByteArray)(e:Bool)(n29:Int)
 (h0:decide ((↑i0:Int)<(↑l13.length:Int))=true)
 (h1:keep (S0 i0) (indexAddrv Tryd.prog 25 (S0 i0) (lro l13.length 1 (List.map st l13)) (i6 (↑i0:Int)))=some (AV.eaddr (st a::r17),S0 i0))
 (h2:callv X call false 84 [st a,st (ByteArray.mk #[61])] (S0 i0) 0=some (AV.tup [st c,st d,bo e],S0 i0))
 (h3:e=true)
 (h4:keep (S0 i0) (lenv Tryd.prog 31 (S0 i0) (o4 i0))=some (i6 n29,S0 i0))
 (h5:(n29 == 8)=true):vexec Tryd.prog X call lf 0 noFg (loopN Tryd.f54 0) (f54_F0 s0 l13 S0 o4 i0)=some (Ex.ret,(f54_S1 s0 l13 S0 o4 i0 a r17 c d e n29)) :=
  around_sound (ans:=[(1,Ans.b true),(4,Ans.v (AV.eaddr (st a::r17))),(9,Ans.v (AV.tup [st c,st d,bo e])),(13,Ans.b true),(24,Ans.v (i6 n29)),(26,Ans.b true)]) (by kernel_rfl) (ai h0 (ai h1 (ai h2 (ai h3 (ai h4 (ai h5 trivial))))))
theorem f54_pflttt (s0:ByteArray)(X:Ext)(call:Caller)(lf:Nat)(l13:List ByteArray)(S0:Nat→List Ob)(o4:Nat→AV)(i0:Nat)(a:ByteArray)(r17:List AV)(c d:ByteArray)(e:Bool)(n29:Int)
 (h0:(ByteArray.toList s0 == ByteArray.toList (ByteArray.mk #[]))=false)
 (h1:callv X call false 53 [st s0,st (ByteArray.mk #[32])] [] 0=some (lro l13.length 1 (List.map st l13),[]))
 (h2:vexec Tryd.prog X call lf 0 noFg (Code.loop (loopN Tryd.f54 0)) (f54_S0 s0 l13)=some (Ex.ret,(f54_S1 s0 l13 S0 o4 i0 a r17 c d e n29))):vbody Tryd.prog X call lf noFg Tryd.f54 (codeOf Tryd.f54) [st s0] [] 0=some (AV.tup [AV.list LK.nil 0 0 [],i6 3],S0 i0) :=
  along_sound (ans:=[(5,Ans.b false),(11,Ans.v (lro l13.length 1 (List.map st l13))),(14,Ans.l Ex.ret (f54_S1 s0 l13 S0 o4 i0 a r17 c d e n29))]) (by kernel_rfl) (ai h0 (ai h1 (ai h2 trivial)))
theorem f54_s0_ttf (s0:ByteArray)(X:Ext)(call:Caller)(lf:Nat)(l13:List ByteArray)(S0:Nat→List Ob)(o4:Nat→AV)(i0:Nat)(a:ByteArray)(r17:List AV)(d e:ByteArray)(g:Bool)(n29:Int)(v37:AV)(s37:List Ob)
 (h0:decide ((↑i0:Int)<(↑l13.length:Int))=true)
 (h1:keep (S0 i0) (indexAddrv Tryd.prog 25 (S0 i0) (lro l13.length 1 (List.map st l13)) (i6 (↑i0:Int)))=some (AV.eaddr (st a::r17),S0 i0))
 (h2:callv X call false 84 [st a,st (ByteArray.mk #[61])] (S0 i0) 0=some (AV.tup [st d,st e,bo g],S0 i0))
 (h3:g=true)
 (h4:keep (S0 i0) (lenv Tryd.prog 31 (S0 i0) (o4 i0))=some (i6 n29,S0 i0))
 (h5:(n29 == 8)=false)
 (h6:appendv Tryd.prog 31 (S0 i0) 0 (o4 i0) (AV.list LK.clip 1 2 [st d,st e])=some (v37,s37))
 (e0:o4 (i0 + 1)=v37)
 (e1:(↑(i0 + 1):Int)=w6 ((↑i0:Int) + 1))
 (e2:S0 (i0 + 1)=s37):∃ S1,vexec Tryd.prog X call lf 0 noFg (loopN Tryd.f54 0) (f54_F0 s0 l13 S0 o4 i0)=some (Ex.normal,S1)∧forget f54_D0 S1=(f54_F0 s0 l13 S0 o4 (i0 + 1)) :=
  ⟨stOf 43 [2,3] [(0,st s0),(4,v37),(6,st a),(7,st d),(8,st e),(9,bo true),(10,st s0),(11,bo false),(12,st s0),(13,lro l13.length 1 (List.map st l13)),(14,i6 (↑l13.length:Int)),(15,i6 (w6 ((↑i0:Int) + 1))),(16,bo true),(17,AV.eaddr (st a::r17)),(18,st a),(19,AV.tup [st d,st e,bo g]),(20,st a),(21,AV.tup [st d,st e,bo g]),(22,st d),(23,st e),(24,bo true),(25,bo true),(26,bo false),(27,bo false),(28,o4 i0),(29,i6 n29),(30,bo false),(31,bo false),(32,o4 i0),(33,st d),(34,st e),(35,AV.agg [st d,st e]),(36,AV.list LK.clip 1 2 [st d,st e]),(37,v37),(38,i6 (w6 ((↑i0:Int) + 1)))] s37,around_sound (ans:=[(1,Ans.b true),(4,Ans.v (AV.eaddr (st a::r17))),(9,Ans.v (AV.tup [st d,st e,bo g])),(13,Ans.b true),(24,Ans.v (i6 n29)),(26,Ans.b false),(35,Ans.c v37 s37)]) (by kernel_rfl) (ai h0 (ai h1 (ai h2 (ai h3 (ai h4 (ai h5 (ai h6 trivial))))))),by unfold f54_F0; rw [e0,e1,e2]; show _=_; kernel_rfl⟩
def f54_S2 (s0:ByteArray)(l13:List ByteArray)(S0:Nat→List Ob)(o4:Nat→AV)(i0:Nat)(a:ByteArray)(r17:List AV)(b c:ByteArray)(d:Bool):St :=
  stOf 43 [32,33,34,35,36,37,38] [(0,st s0),(2,AV.list LK.nil 0 0 []),(3,i6 3),(4,o4 i0),(6,st a),(7,st b),(8,st c),(9,bo false),(10,st s0),(11,bo false),(12,st s0),(13,lro l13.length 1 (List.map st l13)),(14,i6 (↑l13.length:Int)),(15,i6 (↑i0:Int)),(16,bo true),(17,AV.eaddr (st a::r17)),(18,st a),(19,AV.tup [st b,st c,bo d]),(20,st a),(21,AV.tup [st b,st c,bo d]),(22,st b),(23,st c),(24,bo false),(25,bo false),(26,bo true),(27,bo true),(31,bo true)] (S0 i0)
theorem f54_r0_tf (s0:ByteArray)(X:Ext)(call:Caller)(lf:Nat)(l13:List ByteArray)(S0:Nat→List Ob)(o4:Nat→AV)(i0:Nat)(a:ByteArray)(r17:List AV)(c d:ByteArray)(e:Bool)
 (h0:decide ((↑i0:Int)<(↑l13.length:Int))=true)
 (h1:keep (S0 i0) (indexAddrv Tryd.prog 25 (S0 i0) (lro l13.length 1 (List.map st l13)) (i6 (↑i0:Int)))=some (AV.eaddr (st a::r17),S0 i0))
 (h2:callv X call false 84 [st a,st (ByteArray.mk #[61])] (S0 i0) 0=some (AV.tup [st c,st d,bo e],S0 i0))
 (h3:e=false):vexec Tryd.prog X call lf 0 noFg (loopN Tryd.f54 0) (f54_F0 s0 l13 S0 o4 i0)=some (Ex.ret,(f54_S2 s0 l13 S0 o4 i0 a r17 c d e)) :=
  around_sound (ans:=[(1,Ans.b true),(4,Ans.v (AV.eaddr (st a::r17))),(9,Ans.v (AV.tup [st c,st d,bo e])),(13,Ans.b false)]) (by kernel_rfl) (ai h0 (ai h1 (ai h2 (ai h3 trivial))))
theorem f54_pfltf (s0:ByteArray)(X:Ext)(call:Caller)(lf:Nat)(l13:List ByteArray)(S0:Nat→List Ob)(o4:Nat→AV)(i0:Nat)(a:ByteArray)(r17:List AV)(c d:ByteArray)(e:Bool)
 (h0:(ByteArray.toList s0 == ByteArray.toList (ByteArray.mk #[]))=false)
 (h1:callv X call false 53 [st s0,st (ByteArray.mk #[32])] [] 0=some (lro l13.length 1 (List.map st l13),[]))
 (h2:vexec Tryd.prog X call lf 0 noFg (Code.loop (loopN Tryd.f54 0)) (f54_S0 s0 l13)=some (Ex.ret,(f54_S2 s0 l13 S0 o4 i0 a r17 c d e))):vbody Tryd.prog X call lf noFg Tryd.f54 (codeOf Tryd.f54) [st s0] [] 0=some (AV.tup [AV.list LK.nil 0 0 [],i6 3],S0 i0) :=
  along_sound (ans:=[(5,Ans.b false),(11,Ans.v (lro l13.length 1 (List.map st l13))),(14,Ans.l Ex.ret (f54_S2 s0 l13 S0 o4 i0 a r17 c d e))]) (by kernel_rfl) (ai h0 (ai h1 (ai h2 trivial)))
def f54_S3 (s0:ByteArray)(l13:List ByteArray)(S0:Nat→List Ob)(o4:Nat→AV)(i0:Nat):St :=
  stOf 43 [2,3,6,7,8,9,17,18,19,20,21,22,23,24,25,26,27,28,29,30,31,32,33,34,35,36,37,38] [(0,st s0),(4,o4 i0),(10,st s0),(11,bo false),(12,st s0),(13,lro l13.length 1 (List.map st l13)),(14,i6 (↑l13.length:Int)),(15,i6 (↑i0:Int)),(16,bo false)] (S0 i0)
theorem f54_r0_f (s0:ByteArray)(X:Ext)(call:Caller)(lf:Nat)(l13:List ByteArray)(S0:Nat→List Ob)(o4:Nat→AV)(i0:Nat)
 (h0:decide ((↑i0:Int)<(↑l13.length:Int))=false):vexec Tryd.prog X call lf 0 noFg (loopN Tryd.f54 0) (f54_F0 s0 l13 S0 o4 i0)=some (Ex.exit 0,(f54_S3 s0 l13 S0 o4 i0)) :=
  around_sound (ans:=[(1,Ans.b false)]) (by kernel_rfl) (ai h0 trivial)
theorem f54_pflft (s0:ByteArray)(b1:Bool)(T1:List Ob)(X:Ext)(call:Caller)(lf:Nat)(l13:List ByteArray)(S0:Nat→List Ob)(o4:Nat→AV)(i0:Nat)
 (h0:(ByteArray.toList s0 == ByteArray.toList (ByteArray.mk #[]))=false)
 (h1:callv X call false 53 [st s0,st (ByteArray.mk #[32])] [] 0=some (lro l13.length 1 (List.map st l13),[]))
 (h2:vexec Tryd.prog X call lf 0 noFg (Code.loop (loopN Tryd.f54 0)) (f54_S0 s0 l13)=some (Ex.exit 0,(f54_S3 s0 l13 S0 o4 i0)))
 (h3:callv X call false 45 [o4 i0] (S0 i0) 0=some (bo b1,T1))
 (h4:(!b1)=true):vbody Tryd.prog X call lf noFg Tryd.f54 (codeOf Tryd.f54) [st s0] [] 0=some (AV.tup [AV.list LK.nil 0 0 [],i6 3],T1) :=
  along_sound (ans:=[(5,Ans.b false),(11,Ans.v (lro l13.length 1 (List.map st l13))),(14,Ans.l (Ex.exit 0) (f54_S3 s0 l13 S0 o4 i0)),(17,Ans.c (bo b1) T1),(18,Ans.b true)]) (by kernel_rfl) (ai h0 (ai h1 (ai h2 (ai h3 (ai h4 trivial)))))
theorem f54_pflff (s0:ByteArray)(b1:Bool)(T1:List Ob)(X:Ext)(call:Caller)(lf:Nat)(l13:List ByteArray)(S0:Nat→List Ob)(o4:Nat→AV)(i0:Nat)(rE:AV)(sE:List Ob)
 (h0:(ByteArray.toList s0 == ByteArray.toList (ByteArray.mk #[]))=false)
 (h1:callv X call false 53 [st s0,st (ByteArray.mk #[32])] [] 0=some (lro l13.length 1 (List.map st l13),[]))
 (h2:vexec Tryd.prog X call lf 0 noFg (Code.loop (loopN Tryd.f54 0)) (f54_S0 s0 l13)=some (Ex.exit 0,(f54_S3 s0 l13 S0 o4 i0)))
 (h3:callv X call false 45 [o4 i0] (S0 i0) 0=some (bo b1,T1))
 (h4:(!b1)=false)
 (h5:vend1 [] 0 T1 [o4 i0,i6 0]=some (rE,sE)):vbody Tryd.prog X call lf noFg Tryd.f54 (codeOf Tryd.f54) [st s0] [] 0=some (rE,sE) :=
  along_sound (ans:=[(5,Ans.b false),(11,Ans.v (lro l13.length 1 (List.map st l13))),(14,Ans.l (Ex.exit 0) (f54_S3 s0 l13 S0 o4 i0)),(17,Ans.c (bo b1) T1),(18,Ans.b false),(24,Ans.c rE sE)]) (by kernel_rfl) (ai h0 (ai h1 (ai h2 (ai h3 (ai h4 (ai h5 trivial))))))
def f54_o0 (l13:List ByteArray)(i0:Nat)(a:Bool)(n29:Int):Nat :=
  (match decide ((↑i0:Int)<(↑l13.length:Int)) with
  | true=>(match a with
    | true=>(match (n29 == 8) with
      | true=>1
      | false=>0)
    | false=>2)
  | false=>3)
theorem f54_B0 (s0:ByteArray)(X:Ext)(call:Caller)(lf:Nat)(l13:List ByteArray)(S0:Nat→List Ob)(o4:Nat→AV)(i0:Nat)(a:ByteArray)(r17:List AV)(b c:ByteArray)(d:Bool)(n29:Int)(v37:AV)(s37:List Ob)
 (g0:decide ((↑i0:Int)<(↑l13.length:Int))=true→keep (S0 i0) (indexAddrv Tryd.prog 25 (S0 i0) (lro l13.length 1 (List.map st l13)) (i6 (↑i0:Int)))=some (AV.eaddr (st a::r17),S0 i0))
 (g1:decide ((↑i0:Int)<(↑l13.length:Int))=true→callv X call false 84 [st a,st (ByteArray.mk #[61])] (S0 i0) 0=some (AV.tup [st b,st c,bo d],S0 i0))
 (g2:decide ((↑i0:Int)<(↑l13.length:Int))=true→d=true→keep (S0 i0) (lenv Tryd.prog 31 (S0 i0) (o4 i0))=some (i6 n29,S0 i0))
 (g3:decide ((↑i0:Int)<(↑l13.length:Int))=true→d=true→(n29 == 8)=false→appendv Tryd.prog 31 (S0 i0) 0 (o4 i0) (AV.list LK.clip 1 2 [st b,st c])=some (v37,s37))
 (e0:decide ((↑i0:Int)<(↑l13.length:Int))=true→o4 (i0 + 1)=v37)
 (e1:decide ((↑i0:Int)<(↑l13.length:Int))=true→(↑(i0 + 1):Int)=w6 ((↑i0:Int) + 1))
 (e2:decide ((↑i0:Int)<(↑l13.length:Int))=true→S0 (i0 + 1)=s37) :
    (f54_o0 l13 i0 d n29=0→∃ S1,vexec Tryd.prog X call lf 0 noFg (loopN Tryd.f54 0) (f54_F0 s0 l13 S0 o4 i0)=some (Ex.normal,S1)∧forget f54_D0 S1=(f54_F0 s0 l13 S0 o4 (i0 + 1)))∧(f54_o0 l13 i0 d n29=1→vexec Tryd.prog X call lf 0 noFg (loopN Tryd.f54 0) (f54_F0 s0 l13 S0 o4 i0)=some (Ex.ret,(f54_S1 s0 l13 S0 o4 i0 a r17 b c d n29)))∧(f54_o0 l13 i0 d n29=2→vexec Tryd.prog X call lf 0 noFg (loopN Tryd.f54 0) (f54_F0 s0 l13 S0 o4 i0)=some (Ex.ret,(f54_S2 s0 l13 S0 o4 i0 a r17 b c d)))∧(f54_o0 l13 i0 d n29=3→vexec Tryd.prog X call lf 0 noFg (loopN Tryd.f54 0) (f54_F0 s0 l13 S0 o4 i0)=some (Ex.exit 0,(f54_S3 s0 l13 S0 o4 i0))):=by
  refine (Bool.eq_false_or_eq_true (decide ((↑i0:Int)<(↑l13.length:Int)))).elim (fun c0 => ?_) (fun c0 => ?_)
  ·
    refine (Bool.eq_false_or_eq_true (d)).elim (fun c1 => ?_) (fun c1 => ?_)
    ·
      refine (Bool.eq_false_or_eq_true ((n29 == 8))).elim (fun c2 => ?_) (fun c2 => ?_)
      ·
        have ho:f54_o0 l13 i0 d n29=1:=by
          unfold f54_o0
          simp only [c0,c1,c2]
        exact ⟨fun h=>absurd (ho.symm.trans h) (by decide),fun _=>f54_r0_ttt s0 X call lf l13 S0 o4 i0 a r17 b c d n29 c0 (g0 c0) (g1 c0) c1 (g2 c0 c1) c2,fun h=>absurd (ho.symm.trans h) (by decide),fun h=>absurd (ho.symm.trans h) (by decide)⟩
      ·
        have ho:f54_o0 l13 i0 d n29=0:=by
          unfold f54_o0
          simp only [c0,c1,c2]
        exact ⟨fun _=>f54_s0_ttf s0 X call lf l13 S0 o4 i0 a r17 b c d n29 v37 s37 c0 (g0 c0) (g1 c0) c1 (g2 c0 c1) c2 (g3 c0 c1 c2) (e0 c0) (e1 c0) (e2 c0),fun h=>absurd (ho.symm.trans h) (by decide),fun h=>absurd (ho.symm.trans h) (by decide),fun h=>absurd (ho.symm.trans h) (by decide)⟩
    ·
      have ho:f54_o0 l13 i0 d n29=2:=by
        unfold f54_o0
        simp only [c0,c1]
      exact ⟨fun h=>absurd (ho.symm.trans h) (by decide),fun h=>absurd (ho.symm.trans h) (by decide),fun _=>f54_r0_tf s0 X call lf l13 S0 o4 i0 a r17 b c d c0 (g0 c0) (g1 c0) c1,fun h=>absurd (ho.symm.trans h) (by decide)⟩
  ·
    have ho:f54_o0 l13 i0 d n29=3:=by
      unfold f54_o0
      simp only [c0]
    exact ⟨fun h=>absurd (ho.symm.trans h) (by decide),fun h=>absurd (ho.symm.trans h) (by decide),fun h=>absurd (ho.symm.trans h) (by decide),fun _=>f54_r0_f s0 X call lf l13 S0 o4 i0 c0⟩
theorem f54_X0 (s0:ByteArray)(X:Ext)(call:Caller)(lf:Nat)(l13:List ByteArray)(S0:Nat→List Ob)(o4:Nat→AV)(i0:Nat)(a:ByteArray)(r17:List AV)(b c:ByteArray)(d:Bool)(n29:Int)(v37:AV)(s37:List Ob)
 (g0:decide ((↑i0:Int)<(↑l13.length:Int))=true→keep (S0 i0) (indexAddrv Tryd.prog 25 (S0 i0) (lro l13.length 1 (List.map st l13)) (i6 (↑i0:Int)))=some (AV.eaddr (st a::r17),S0 i0))
 (g1:decide ((↑i0:Int)<(↑l13.length:Int))=true→callv X call false 84 [st a,st (ByteArray.mk #[61])] (S0 i0) 0=some (AV.tup [st b,st c,bo d],S0 i0))
 (g2:decide ((↑i0:Int)<(↑l13.length:Int))=true→d=true→keep (S0 i0) (lenv Tryd.prog 31 (S0 i0) (o4 i0))=some (i6 n29,S0 i0))
 (g3:decide ((↑i0:Int)<(↑l13.length:Int))=true→d=true→(n29 == 8)=false→appendv Tryd.prog 31 (S0 i0) 0 (o4 i0) (AV.list LK.clip 1 2 [st b,st c])=some (v37,s37)) :
    (f54_o0 l13 i0 d n29=1→vexec Tryd.prog X call lf 0 noFg (loopN Tryd.f54 0) (f54_F0 s0 l13 S0 o4 i0)=some (Ex.ret,(f54_S1 s0 l13 S0 o4 i0 a r17 b c d n29)))∧(f54_o0 l13 i0 d n29=2→vexec Tryd.prog X call lf 0 noFg (loopN Tryd.f54 0) (f54_F0 s0 l13 S0 o4 i0)=some (Ex.ret,(f54_S2 s0 l13 S0 o4 i0 a r17 b c d)))∧(f54_o0 l13 i0 d n29=3→vexec Tryd.prog X call lf 0 noFg (loopN Tryd.f54 0) (f54_F0 s0 l13 S0 o4 i0)=some (Ex.exit 0,(f54_S3 s0 l13 S0 o4 i0))):=by
  refine (Bool.eq_false_or_eq_true (decide ((↑i0:Int)<(↑l13.length:Int)))).elim (fun c0 => ?_) (fun c0 => ?_)
  ·
    refine (Bool.eq_false_or_eq_true (d)).elim (fun c1 => ?_) (fun c1 => ?_)
    ·
      refine (Bool.eq_false_or_eq_true ((n29 == 8))).elim (fun c2 => ?_) (fun c2 => ?_)
      ·
        have ho:f54_o0 l13 i0 d n29=1:=by
          unfold f54_o0
          simp only [c0,c1,c2]
        exact ⟨fun _=>f54_r0_ttt s0 X call lf l13 S0 o4 i0 a r17 b c d n29 c0 (g0 c0) (g1 c0) c1 (g2 c0 c1) c2,fun h=>absurd (ho.symm.trans h) (by decide),fun h=>absurd (ho.symm.trans h) (by decide)⟩
      ·
        have ho:f54_o0 l13 i0 d n29=0:=by
          unfold f54_o0
          simp only [c0,c1,c2]
        exact ⟨fun h=>absurd (ho.symm.trans h) (by decide),fun h=>absurd (ho.symm.trans h) (by decide),fun h=>absurd (ho.symm.trans h) (by decide)⟩
    ·
      have ho:f54_o0 l13 i0 d n29=2:=by
        unfold f54_o0
        simp only [c0,c1]
      exact ⟨fun h=>absurd (ho.symm.trans h) (by decide),fun _=>f54_r0_tf s0 X call lf l13 S0 o4 i0 a r17 b c d c0 (g0 c0) (g1 c0) c1,fun h=>absurd (ho.symm.trans h) (by decide)⟩
  ·
    have ho:f54_o0 l13 i0 d n29=3:=by
      unfold f54_o0
      simp only [c0]
    exact ⟨fun h=>absurd (ho.symm.trans h) (by decide),fun h=>absurd (ho.symm.trans h) (by decide),fun _=>f54_r0_f s0 X call lf l13 S0 o4 i0 c0⟩
theorem f54_M (s0:ByteArray)(l13:List ByteArray)(S0:Nat→List Ob)(o4:Nat→AV)(X:Ext)(call:Caller)(lf n:Nat)(a:Nat→ByteArray)(r17:Nat→List AV)(b c:Nat→ByteArray)(d:Nat→Bool)(n29:Nat→Int)(v37:Nat→AV)(s37:Nat→List Ob)
 (z0:o4 0=AV.list LK.nil 0 0 [])
 (z1:S0 0=[])
 (hn:n<lf)
 (g0:∀ i0,i0 ≤ n→decide ((↑i0:Int)<(↑l13.length:Int))=true→keep (S0 i0) (indexAddrv Tryd.prog 25 (S0 i0) (lro l13.length 1 (List.map st l13)) (i6 (↑i0:Int)))=some (AV.eaddr (st (a i0)::(r17 i0)),S0 i0))
 (g1:∀ i0,i0 ≤ n→decide ((↑i0:Int)<(↑l13.length:Int))=true→callv X call false 84 [st (a i0),st (ByteArray.mk #[61])] (S0 i0) 0=some (AV.tup [st (b i0),st (c i0),bo (d i0)],S0 i0))
 (g2:∀ i0,i0 ≤ n→decide ((↑i0:Int)<(↑l13.length:Int))=true→(d i0)=true→keep (S0 i0) (lenv Tryd.prog 31 (S0 i0) (o4 i0))=some (i6 (n29 i0),S0 i0))
 (g3:∀ i0,i0 ≤ n→decide ((↑i0:Int)<(↑l13.length:Int))=true→(d i0)=true→((n29 i0) == 8)=false→appendv Tryd.prog 31 (S0 i0) 0 (o4 i0) (AV.list LK.clip 1 2 [st (b i0),st (c i0)])=some ((v37 i0),(s37 i0)))
 (e0:∀ i0,i0<n→decide ((↑i0:Int)<(↑l13.length:Int))=true→o4 (i0 + 1)=(v37 i0))
 (e1:∀ i0,i0<n→decide ((↑i0:Int)<(↑l13.length:Int))=true→(↑(i0 + 1):Int)=w6 ((↑i0:Int) + 1))
 (e2:∀ i0,i0<n→decide ((↑i0:Int)<(↑l13.length:Int))=true→S0 (i0 + 1)=(s37 i0))
 (hz:∀ j,j<n→f54_o0 l13 j (d j) (n29 j)=0) :
    (f54_o0 l13 n (d n) (n29 n)=1→(ByteArray.toList s0 == ByteArray.toList (ByteArray.mk #[]))=false→callv X call false 53 [st s0,st (ByteArray.mk #[32])] [] 0=some (lro l13.length 1 (List.map st l13),[])→vbody Tryd.prog X call lf noFg Tryd.f54 (codeOf Tryd.f54) [st s0] [] 0=some (AV.tup [AV.list LK.nil 0 0 [],i6 3],S0 n))∧(f54_o0 l13 n (d n) (n29 n)=2→(ByteArray.toList s0 == ByteArray.toList (ByteArray.mk #[]))=false→callv X call false 53 [st s0,st (ByteArray.mk #[32])] [] 0=some (lro l13.length 1 (List.map st l13),[])→vbody Tryd.prog X call lf noFg Tryd.f54 (codeOf Tryd.f54) [st s0] [] 0=some (AV.tup [AV.list LK.nil 0 0 [],i6 3],S0 n))∧(f54_o0 l13 n (d n) (n29 n)=3→∀ (b1:Bool),∀ (T1:List Ob),(ByteArray.toList s0 == ByteArray.toList (ByteArray.mk #[]))=false→callv X call false 53 [st s0,st (ByteArray.mk #[32])] [] 0=some (lro l13.length 1 (List.map st l13),[])→callv X call false 45 [o4 n] (S0 n) 0=some (bo b1,T1)→(!b1)=true→vbody Tryd.prog X call lf noFg Tryd.f54 (codeOf Tryd.f54) [st s0] [] 0=some (AV.tup [AV.list LK.nil 0 0 [],i6 3],T1))∧(f54_o0 l13 n (d n) (n29 n)=3→∀ (b1:Bool),∀ (T1:List Ob),∀ (rE:AV),∀ (sE:List Ob),(ByteArray.toList s0 == ByteArray.toList (ByteArray.mk #[]))=false→callv X call false 53 [st s0,st (ByteArray.mk #[32])] [] 0=some (lro l13.length 1 (List.map st l13),[])→callv X call false 45 [o4 n] (S0 n) 0=some (bo b1,T1)→(!b1)=false→vend1 [] 0 T1 [o4 n,i6 0]=some (rE,sE)→vbody Tryd.prog X call lf noFg Tryd.f54 (codeOf Tryd.f54) [st s0] [] 0=some (rE,sE)):=by
  have key:∀ j,j<n→_:=fun j hj=>(f54_B0 s0 X call lf l13 S0 o4 j (a j) (r17 j) (b j) (c j) (d j) (n29 j) (v37 j) (s37 j) (g0 j (Nat.le_of_lt hj)) (g1 j (Nat.le_of_lt hj)) (g2 j (Nat.le_of_lt hj)) (g3 j (Nat.le_of_lt hj)) (e0 j hj) (e1 j hj) (e2 j hj)).1 (hz j hj)
  have kn:=f54_X0 s0 X call lf l13 S0 o4 n (a n) (r17 n) (b n) (c n) (d n) (n29 n) (v37 n) (s37 n) (g0 n (Nat.le_refl n)) (g1 n (Nat.le_refl n)) (g2 n (Nat.le_refl n)) (g3 n (Nat.le_refl n))
  exact ⟨fun hk q0 q1=>f54_pflttt s0 X call lf l13 S0 o4 n (a n) (r17 n) (b n) (c n) (d n) (n29 n) q0 q1 (f54_L0 s0 l13 S0 o4 X call lf n _ _ z0 z1 hn key (kn.1 hk) (by simp)),
    fun hk q0 q1=>f54_pfltf s0 X call lf l13 S0 o4 n (a n) (r17 n) (b n) (c n) (d n) q0 q1 (f54_L0 s0 l13 S0 o4 X call lf n _ _ z0 z1 hn key (kn.2.1 hk) (by simp)),
    fun hk b1 T1 q0 q1 q2 q3=>f54_pflft s0 b1 T1 X call lf l13 S0 o4 n q0 q1 (f54_L0 s0 l13 S0 o4 X call lf n _ _ z0 z1 hn key (kn.2.2 hk) (by simp)) q2 q3,
    fun hk b1 T1 rE sE q0 q1 q2 q3 q4=>f54_pflff s0 b1 T1 X call lf l13 S0 o4 n rE sE q0 q1 (f54_L0 s0 l13 S0 o4 X call lf n _ _ z0 z1 hn key (kn.2.2 hk) (by simp)) q2 q3 q4⟩
end Go.Proofs.Lex
end
/- Lexicon: feature.Parse. -/
section
open Go Go.Vm Go.Proofs
namespace Go.Proofs.Lex
abbrev eqs:ByteArray:=⟨#[61]⟩
def cutB3 (p:ByteArray):List UInt8 × List UInt8 × Bool:=Lib.cut p.data.toList [61]
def cutB (p:ByteArray):Bool:=(cutB3 p).2.2
def featOf (p:ByteArray):Feat:=⟨⟨(cutB3 p).1.toArray⟩,⟨(cutB3 p).2.1.toArray⟩⟩
def featsOf (l:List ByteArray):List Feat:=l.map featOf
/-- The record with a text, from its parts. -/
def partsF (l:List ByteArray):Option (List Feat):=if l.all cutB=true∧l.length ≤ 8∧validF (featsOf l)=true then some (featsOf l) else none
def parseF (s:ByteArray):Option (List Feat):=if s=emp then some [] else partsF (splitL s blank)
/-- A result and its error. -/
def resE {α:Type} (d:α):Option α→α × Int
  | some x=>(x,0)
  | none=>(d,3)
section
variable [Fixed] {X:Ext}
abbrev aFsE:Arg (List Feat × Int):=Arg.tup2 aFs aI
theorem bad_dec:aFsE.dec (.tup [.list .nil 0 0 [],i6 3])=some ([],3):=by rfl
theorem nil_dec:aFsE.dec (.tup [.list .nil 0 0 [],i6 0])=some ([],0):=by rfl
abbrev nil0:AV := .list .nil 0 0 []
theorem len_gr {σ:List Ob} (n:Nat):keep σ (lenv Tryd.prog 31 σ (grV nil0 0 n))=some (i6 n,σ):=by
  unfold lenv
  rw [Tryd.underlying31]
  by_cases h:n=0
  · subst h; rfl
  · rw [grV,if_neg h]; rfl
/-- A row of the call's own, given to a function that is told, and returned. -/
theorem row_call {T:Go.Vm.Spec} {f:FuncId} {F:List Feat} {b:Bool} (hw:X.pureFn f=none∧X.stFn f=none∧X.adopt f=false) (h1:T f [nil0]=some (bo b) ∨ F ≠ []) (h2:T f [featsV F]=some (bo b)) :
    ∃ σ',callv X (callerOf T) false f [grV nil0 0 F.length] (grS cF [] F) 0=some (bo b,σ')∧∃ r σ'',vend1 [] 0 σ' [grV nil0 0 F.length,i6 0]=some (r,σ'')∧aFsE.dec r=some (F,0):=by
  by_cases hF:F.length=0
  · have hF' : F = [] := List.eq_nil_of_length_eq_zero hF
    subst hF'
    have h1:=h1.resolve_right (fun h=>h rfl)
    refine ⟨[],?_,_,_,rfl,rfl⟩
    show callv X (callerOf T) false f [nil0] [] 0=_
    unfold callv
    rw [hw.1,hw.2.1]
    simp only [AV.ltAll,AV.lt,Bool.and_self,if_true,callerOf,h1,AV.pure,hw.2.2,Bool.and_false,Bool.false_eq_true,if_false]
    rfl
  · have hg : grS cF [] F = [.arr F.length 2 (F.flatMap featC)] := by rw [grS, if_neg hF]; rfl
    have hv:grV nil0 0 F.length = .own 0 F.length:=if_neg hF
    rw [hg,hv]
    have hlt : AV.ltAll 0 [featsV F] = true := by
      have:=aFs.lt F
      rw [aFs_enc] at this
      simp only [AV.ltAll,this,Bool.and_self]
    have ht:AV.thawAll [Ob.arr F.length 2 (F.flatMap featC)] [.own 0 F.length]=some [featsV F]:=by simp [AV.thawAll,AV.thaw,featsV]
    refine ⟨[.fro F.length 2 (F.flatMap featC)],?_,.tup [featsV F,i6 0],[.fro F.length 2 (F.flatMap featC)],?_,?_⟩
    · unfold callv
      rw [hw.1,hw.2.1]
      have hn:AV.ltAll 0 [AV.own 0 F.length]=false:=by simp [AV.ltAll,AV.lt,show Nat.blt 0 0=false from rfl]
      have hfz:freezeIds 0 [Ob.arr F.length 2 (F.flatMap featC)] (AV.ownsAll [.own 0 F.length])=some [.fro F.length 2 (F.flatMap featC)]:=by simp [AV.ownsAll,AV.owns,freezeIds,freezeId,setOb]
      simp only [hn,Bool.false_eq_true,if_false,ht,hlt,if_true,hfz,callerOf,h2,AV.pure,AV.lt,hw.2.2]
      rfl
    · simp [vend1,AV.thawAll,AV.thaw,AV.ownsAll,AV.owns,freezeIds,freezeId,resOf,oneOf,unfr,unfr1,featsV]
    · have := aFs.de F
      rw [aFs_enc] at this
      show aFsE.dec (.tup [featsV F,i6 0])=some (F,0)
      have h3:=aFsE.de (F,0)
      exact h3
theorem extract_le (s:ByteArray) (i j:Nat):(s.extract i j).size ≤ s.size:=by
  rw [ByteArray.size_extract]
  omega
theorem splitB_le (sep:ByteArray) (save:Nat):∀ (k:Nat) (s p:ByteArray),p ∈ Lib.splitB sep save k s→p.size ≤ s.size
  | 0, s, p, h => by
    simp only [Lib.splitB,List.mem_singleton] at h
    rw [h]
    exact Nat.le_refl _
  | k + 1, s, p, h => by
    unfold Lib.splitB at h
    split at h
    · simp only [List.mem_singleton] at h
      rw [h]
      exact Nat.le_refl _
    · rcases List.mem_cons.1 h with rfl | h
      · exact extract_le _ _ _
      · exact Nat.le_trans (splitB_le sep save k _ p h) (extract_le _ _ _)
theorem split_le {s p:ByteArray} (h:p ∈ splitL s blank):p.size ≤ s.size:=splitB_le _ _ _ _ _ h
theorem split_len {s:ByteArray}:(splitL s blank).length ≤ s.size + 1:=by
  have h1:(splitL s blank).length=Lib.countB s blank + 1:=Lib.splitB_all blank (by decide) 0 _ s rfl
  have h2:=Lib.countB_le blank (by decide) s.size s (Nat.le_refl _)
  omega
theorem cut_le (l sep:List UInt8):(Lib.cut l sep).1.length ≤ l.length∧(Lib.cut l sep).2.1.length ≤ l.length:=by
  unfold Lib.cut
  split
  · refine ⟨?_, ?_⟩
    · show (l.take _).length ≤ _
      rw [List.length_take]
      exact Nat.min_le_right _ _
    · show (l.drop _).length ≤ _
      rw [List.length_drop]
      exact Nat.sub_le _ _
  · exact ⟨Nat.le_refl _,Nat.zero_le _⟩
theorem featOf_le (p:ByteArray):(featOf p).name.size ≤ p.size∧(featOf p).value.size ≤ p.size:=by
  obtain ⟨h1,h2⟩:=cut_le p.data.toList [61]
  have e:p.data.toList.length=p.size:=by simp
  rw [e] at h1 h2
  constructor
  · show (Lib.cut p.data.toList [61]).1.toArray.size ≤ _
    simpa using h1
  · show (Lib.cut p.data.toList [61]).2.1.toArray.size ≤ _
    simpa using h2
theorem lim_big:lim ≤ big:=by decide
theorem okF_parts {s:ByteArray} (hs:s.size < lim) {l:List ByteArray} (hl:l.length ≤ big) (h:∀ p ∈ l,p ∈ splitL s blank):okF (featsOf l):=by
  refine ⟨by rw [featsOf,List.length_map]; exact hl,fun f hf => ?_⟩
  obtain ⟨p,hp,rfl⟩:=List.mem_map.1 hf
  have h1:=split_le (h p hp)
  have h2:=featOf_le p
  have h3:=lim_big
  omega
theorem cut84 (hM:XM X) {call:Caller} {p:ByteArray} (hp:p.size < lim) (σ:List Ob):callv X call false 84 [st p,st eqs] σ 0=some (.tup [st (featOf p).name,st (featOf p).value,bo (cutB p)],σ):=by
  refine call_pure hM.cut rfl rfl rfl ?_
  unfold cutFn
  simp only
  rw [if_pos hp]
  rfl
theorem split53 (hM:XM X) {call:Caller} {s:ByteArray} (hs:s.size < lim) (σ:List Ob):callv X call false 53 [st s,st blank] σ 0=some (Go.Vm.strs (splitL s blank),σ):=by
  refine call_pure hM.split rfl rfl rfl ?_
  unfold splitFn
  simp only
  rw [if_pos ⟨hs,by decide⟩]
/-- feature.Parse. -/
theorem call54 (hX:ExtOk Tryd.prog X) (hM:XM X) {s:ByteArray} (hs:s.size < lim):CallAt Tryd.prog 54 [aS.enc s] [] 0 (aFsE.enc (resE [] (parseF s))) []:=by
  have hC:=callerOf_ok (U1_ok hX hM.toXL)
  by_cases e:s=emp
  · unfold parseF
    rw [if_pos e]
    exact run_res (B:=aFsE) hX hC (hM.dom 54 rfl rfl) Tryd.func54 (by kernel_rfl) (f54_pt s X (callerOf U1) 0 (eqB_iff.2 e)) nil_dec
  have he:(s.toList == (ByteArray.mk #[]).toList)=false:=eqB_ne.2 e
  unfold parseF
  rw [if_neg e]
  obtain ⟨l,hl⟩:∃ l,splitL s blank=l:=⟨_,rfl⟩
  have hsp:=split53 (call:=callerOf U1) hM hs []
  rw [hl] at hsp ⊢
  have hlen:l.length ≤ s.size + 1:=by rw [← hl]; exact split_len
  have hlim:s.size < 4294967281:=hs
  have hpart : ∀ i, i < l.length → (nS l i).size < lim := fun i hi => by
    have:(nS l i).size ≤ s.size:=split_le (by rw [hl,nS,getD_lt hi]; exact List.getElem_mem hi)
    exact Nat.lt_of_le_of_lt this hs
  have lt_of : ∀ {i0 : Nat}, decide ((↑i0 : Int) < (↑(List.length l) : Int)) = true → i0 < l.length := fun h => by
    have:=of_decide_eq_true h
    omega
  have step : ∀ i, i < l.length → appendv Tryd.prog 31 (grS cF [] (featsOf (l.take i))) 0 (grV nil0 0 (featsOf (l.take i)).length) (.list .clip 1 2 [st (featOf (nS l i)).name, st (featOf (nS l i)).value]) = some (grV nil0 0 (featsOf (l.take (i + 1))).length, grS cF [] (featsOf (l.take (i + 1)))) := by
    intro i hi
    have e : featsOf (l.take (i + 1)) = featsOf (l.take i) ++ [featOf (nS l i)] := by
      unfold featsOf
      rw [List.take_succ_eq_append_getElem hi,List.map_append,nS,getD_lt hi]
      rfl
    rw [e]
    have hle:(featsOf (l.take i)).length ≤ l.length:=by unfold featsOf; simp; omega
    exact gr_step (σ0:=[]) (l:=featsOf (l.take i)) (m:=[featOf (nS l i)]) (lk := .nil) (sz0:=0) rowF (.inl rfl) (appended_row [featOf (nS l i)]) (by show _ ≤ 140737488355328; simp only [List.length_singleton]; omega)
  have hlt:∀ i,i ≤ l.length→(featsOf (l.take i)).length=i:=fun i hi=>by unfold featsOf; simp; omega
  have M := fun n (hn : n ≤ l.length) (hz : ∀ j, j < n → f54_o0 l j (cutB (nS l j)) (featsOf (l.take j)).length = 0) => f54_M s l (fun i => grS cF [] (featsOf (l.take i))) (fun i => grV nil0 0 (featsOf (l.take i)).length) X (callerOf U1) (l.length + 1) n (fun i => nS l i) (fun i => tS l i)
    (fun i=>(featOf (nS l i)).name) (fun i=>(featOf (nS l i)).value) (fun i=>cutB (nS l i)) (fun i=>(featsOf (l.take i)).length) (fun i=>grV nil0 0 (featsOf (l.take (i + 1))).length) (fun i=>grS cF [] (featsOf (l.take (i + 1))))
    rfl rfl (by omega) (fun i _ h=>at_strs (lt_of h)) (fun i _ h=>cut84 hM (hpart i (lt_of h)) _) (fun i _ h _=>len_gr _) (fun i _ h _ _=>step i (lt_of h)) (fun _ _ _=>rfl) (fun i h _=>up (n:=l.length) (by omega) (by show _ ≤ 140737488355328; omega)) (fun _ _ _=>rfl) hz
  have ho : ∀ i, i ≤ l.length → (i < l.length → (cutB (nS l i) = true ∧ i ≠ 8) → f54_o0 l i (cutB (nS l i)) (featsOf (l.take i)).length = 0) ∧ (i < l.length → ¬ (cutB (nS l i) = true ∧ i ≠ 8) → f54_o0 l i (cutB (nS l i)) (featsOf (l.take i)).length = 1 ∨ f54_o0 l i (cutB (nS l i)) (featsOf (l.take i)).length = 2) ∧ (¬ i < l.length → f54_o0 l i (cutB (nS l i)) (featsOf (l.take i)).length = 3) := by
    intro i hi
    rw [hlt i hi]
    unfold f54_o0
    refine ⟨fun h1 h2 => ?_,fun h1 h2 => ?_,fun h1 => ?_⟩
    · rw [decide_eq_true (by omega),h2.1,show ((↑i:Int) == 8)=false from beq_eq_false_iff_ne.2 (by omega)]
    · rw [decide_eq_true (by omega)]
      cases hc:cutB (nS l i) with
      | false=>exact .inr rfl
      | true =>
        have h8 : i = 8 := by
          by_cases h8:i=8
          · exact h8
          · exact absurd ⟨hc,h8⟩ h2
        subst h8
        exact .inl rfl
    · rw [decide_eq_false (by omega)]
  rcases first_fail (p:=fun i=>cutB (nS l i)=true∧i ≠ 8) l.length with hall | ⟨k,hk,hbad,hbef⟩
  · have hn := M l.length (Nat.le_refl _) fun j hj => (ho j (by omega)).1 hj (hall j hj)
    have h3:=(ho l.length (Nat.le_refl _)).2.2 (by omega)
    have hall' : l.all cutB=true:=(all_nth (d:=emp)).2 fun i hi=>(hall i hi).1
    have h8 : l.length ≤ 8 := by
      rcases Nat.lt_or_ge 8 l.length with h | h
      · exact absurd rfl (hall 8 h).2
      · exact h
    rw [List.take_length] at hn h3
    have hokF:okF (featsOf l):=okF_parts hs (by show _ ≤ 140737488355328; omega) fun p hp=>by rw [hl]; exact hp
    have hT:U1 45 [featsV (featsOf l)]=some (bo (validF (featsOf l))):=s1_at (A:=aFs) (B:=aB) (g:=validF) (ok:=okF) hokF
    have hT0 : U1 45 [nil0] = some (bo (validF (featsOf l))) ∨ featsOf l ≠ [] := by
      cases hz:featsOf l with
      | nil =>
        left
        have : s1 aFs aB validF okF [nil0] = some (bo (validF [])) := by
          unfold s1
          rw [sp1_at (x:=([]:List Feat)) (by rfl),if_pos ⟨Nat.zero_le _,fun f hf=>by simp at hf⟩]
          rfl
        exact this
      | cons a b=>right; simp
    obtain ⟨σ',hcall,r,σ'',hv,hd⟩:=row_call (X:=X) (hM.ok 45 rfl) hT0 hT
    unfold partsF
    cases hval:validF (featsOf l) with
    | true =>
      rw [if_pos ⟨hall',h8,rfl⟩]
      rw [hval] at hcall
      exact run_res (B:=aFsE) hX hC (hM.dom 54 rfl rfl) Tryd.func54 (by kernel_rfl) (hn.2.2.2 h3 true σ' r σ'' he hsp hcall rfl hv) hd
    | false =>
      rw [if_neg (by rintro ⟨_,_,h⟩; cases h)]
      rw [hval] at hcall
      exact run_res (B:=aFsE) hX hC (hM.dom 54 rfl rfl) Tryd.func54 (by kernel_rfl) (hn.2.2.1 h3 false σ' he hsp hcall rfl) bad_dec
  · have hn := M k (by omega) fun j hj => (ho j (by omega)).1 (by omega) (hbef j hj)
    have hno : partsF l = none := by
      unfold partsF
      rw [if_neg]
      rintro ⟨h1,h2,_⟩
      exact hbad ⟨(all_nth (d:=emp)).1 h1 k hk,by omega⟩
    rw [hno]
    rcases (ho k (by omega)).2.1 hk hbad with h | h
    · exact run_res (B:=aFsE) hX hC (hM.dom 54 rfl rfl) Tryd.func54 (by kernel_rfl) (hn.1 h he hsp) bad_dec
    · exact run_res (B:=aFsE) hX hC (hM.dom 54 rfl rfl) Tryd.func54 (by kernel_rfl) (hn.2.1 h he hsp) bad_dec
end
end Go.Proofs.Lex
end
/- Lexicon: plain laws: a text cut at its blanks, and joined. -/
section
open Go Go.Vm Go.Proofs
namespace Go.Proofs.Lex
/-- A list of bytes, cut at each blank. -/
def spl:List UInt8→List (List UInt8)
  | []=>[[]]
  | b :: l => if b = 32 then [] :: spl l else match spl l with
    | []=>[[b]]
    | x::r=>(b::x)::r
theorem spl_ne (l:List UInt8):spl l ≠ []:=by
  cases l with
  | nil=>simp [spl]
  | cons b l =>
    unfold spl
    split
    · simp
    · split <;> simp
theorem index_cons (b:UInt8) (l:List UInt8) (c:UInt8):Lib.index (b::l) [c]=if b=c then 0 else if Lib.index l [c] == -1 then -1 else Lib.index l [c] + 1:=by
  rw [Lib.index]
  by_cases h:b=c
  · subst h
    simp [List.isPrefixOf]
  · have hp : ([c] : List UInt8).isPrefixOf (b :: l) = false := by simp [List.isPrefixOf, Ne.symm h]
    rw [hp,if_neg h]
    simp
theorem index_nil (c:UInt8):Lib.index [] [c] = -1:=by
  rw [Lib.index]
  simp
theorem spl_miss:∀ {l:List UInt8},Lib.index l [32] = -1→spl l=[l]
  | [],_=>rfl
  | b :: l, h => by
    rw [index_cons] at h
    split at h
    · cases h
    · rename_i hb
      have hl : Lib.index l [32] = -1 := by
        split at h
        · rename_i e; exact beq_iff_eq.1 e
        · have := Lib.index_ge l [32]
          omega
      unfold spl
      rw [if_neg hb,spl_miss hl]
theorem spl_hit:∀ {l:List UInt8} {i:Nat},Lib.index l [32]=i→spl l=l.take i::spl (l.drop (i + 1))
  | [],i,h=>by rw [index_nil] at h; omega
  | b :: l, i, h => by
    rw [index_cons] at h
    split at h
    · rename_i hb
      have:i=0:=by omega
      subst this
      show (if b=32 then []::spl l else match spl l with | []=>[[b]] | x::r=>(b::x)::r)=_
      rw [if_pos hb]
      rfl
    · rename_i hb
      split at h
      · omega
      · rename_i e
        have hne:Lib.index l [32] ≠ -1:=fun e' => e (beq_iff_eq.2 e')
        have hge:=Lib.index_ge l [32]
        obtain ⟨j,rfl⟩:∃ j,i=j + 1:=⟨i - 1,by omega⟩
        have hl:Lib.index l [32]=j:=by omega
        have ih:=spl_hit hl
        show (if b=32 then []::spl l else match spl l with | []=>[[b]] | x::r=>(b::x)::r)=_
        rw [if_neg hb,ih]
        rfl
theorem ex_list (s:ByteArray) (i j:Nat):(s.extract i j).data.toList=(s.data.toList.take j).drop i:=by
  rw [ByteArray.data_extract,Array.toList_extract]
  simp [List.extract,List.drop_take]
theorem splitB_spl:∀ (k:Nat) (s:ByteArray),Lib.countB s blank=k→(Lib.splitB blank 0 k s).map (·.data.toList)=spl s.data.toList:=by
  intro k
  induction k with
  | zero =>
    intro s hk
    rcases Lib.indexB_cases s blank with hix | ⟨i,hix,_⟩
    · rw [spl_miss hix]; rfl
    · have := Lib.countB_hit s blank i (by decide) hix
      omega
  | succ k ih =>
    intro s hk
    rcases Lib.indexB_cases s blank with hix | ⟨i,hix,hroom⟩
    · rw [Lib.countB_miss s blank hix] at hk; omega
    · have hc := Lib.countB_hit s blank i (by decide) hix
      have hsz:s.data.toList.length=s.size:=by simp
      rw [Lib.splitB_hit blank 0 k s i hix,List.map_cons,ih _ (by omega),spl_hit (i:=i) hix]
      congr 1
      · rw [ex_list,Nat.add_zero,List.drop_zero]
      · rw [ex_list]
        congr 1
        rw [List.take_of_length_le (by omega)]
        rfl
theorem split_spl (s:ByteArray):(splitL s blank).map (·.data.toList)=spl s.data.toList:=splitB_spl _ s rfl
theorem join_spl:∀ (l:List UInt8),Lib.join (spl l) [32]=l
  | []=>rfl
  | b :: l => by
    have ih:=join_spl l
    unfold spl
    split
    · rename_i hb
      subst hb
      rw [Lib.join_cons]
      cases h:spl l with
      | nil=>exact absurd h (spl_ne l)
      | cons x r =>
        rw [h,Lib.join_cons] at ih
        show [] ++ ([32] ++ x ++ Lib.joinTail [32] r)=_
        rw [← ih]
        simp
    · cases h : spl l with
      | nil=>exact absurd h (spl_ne l)
      | cons x r =>
        rw [h,Lib.join_cons] at ih
        show Lib.join ((b::x)::r) [32]=_
        rw [Lib.join_cons,← ih]
        rfl
theorem joinB_split (s:ByteArray):joinB (splitL s blank) blank=s.data.toList:=by
  unfold joinB
  rw [split_spl]
  exact join_spl _
theorem join_tail_le (x:List UInt8) (r:List (List UInt8)):(Lib.join r [32]).length ≤ (Lib.join (x::r) [32]).length:=by
  cases r with
  | nil=>exact Nat.zero_le _
  | cons y r =>
    rw [Lib.join_cons,Lib.join_cons]
    show _ ≤ (x ++ ([32] ++ y ++ Lib.joinTail [32] r)).length
    simp only [List.length_append]
    omega
theorem join_drop_le:∀ (n:Nat) (r:List (List UInt8)),(Lib.join (r.drop n) [32]).length ≤ (Lib.join r [32]).length
  | 0,r=>Nat.le_refl _
  | n + 1,[]=>Nat.le_refl _
  | n + 1,x::r=>Nat.le_trans (join_drop_le n r) (join_tail_le x r)
theorem joinB_drop_le (s:ByteArray) (n:Nat):(joinB ((splitL s blank).drop n) blank).length ≤ s.size:=by
  have h:=join_drop_le n ((splitL s blank).map (·.data.toList))
  rw [← List.map_drop] at h
  have e : (Lib.join ((splitL s blank).map (·.data.toList)) [32]).length = s.size := by
    have:=congrArg List.length (joinB_split s)
    rw [show s.data.toList.length=s.size by simp] at this
    exact this
  rw [e] at h
  exact h
theorem join_le {B:Nat}:∀ (r:List (List UInt8)),(∀ x ∈ r,x.length ≤ B)→(Lib.join r [32]).length ≤ r.length * (B + 1)
  | [],_=>Nat.zero_le _
  | x :: r, h => by
    have ih:=join_le r fun y hy=>h y (List.mem_cons_of_mem _ hy)
    have hx:=h x (List.mem_cons_self ..)
    have : (Lib.join (x :: r) [32]).length ≤ x.length + 1 + (Lib.join r [32]).length := by
      cases r with
      | nil=>rw [Lib.join_one]; omega
      | cons y r =>
        rw [Lib.join_cons,Lib.join_cons]
        show (x ++ ([32] ++ y ++ Lib.joinTail [32] r)).length ≤ _
        simp only [List.length_append,List.length_cons,List.length_nil]
        omega
    rw [List.length_cons,Nat.succ_mul]
    omega
end Go.Proofs.Lex
end
/- Lexicon: ParseLine (printed) -/
section
open Go Go.Vm Go.Proofs
namespace Go.Proofs.Lex
def fg23:Nat→List Nat
  | 2005=>[1000002]
  | _=>[]
theorem f23_pt (s0:ByteArray)(X:Ext)(call:Caller)(lf:Nat)(l9:List ByteArray)
 (h0:callv X call false 53 [st s0,st (ByteArray.mk #[32])] [Ob.cells [st (ByteArray.mk #[]),st (ByteArray.mk #[]),st (ByteArray.mk #[]),st (ByteArray.mk #[]),AV.list LK.nil 0 0 []]] 0=some (lro l9.length 1 (List.map st l9),[Ob.cells [st (ByteArray.mk #[]),st (ByteArray.mk #[]),st (ByteArray.mk #[]),st (ByteArray.mk #[]),AV.list LK.nil 0 0 []]]))
 (h1:decide ((↑l9.length:Int)<4)=true):vbody Tryd.prog X call lf fg23 Tryd.f23 (codeOf Tryd.f23) [st s0] [] 0=some (AV.tup [AV.agg [st (ByteArray.mk #[]),st (ByteArray.mk #[]),st (ByteArray.mk #[]),st (ByteArray.mk #[]),AV.list LK.nil 0 0 []],i6 3],[Ob.cells [st (ByteArray.mk #[]),st (ByteArray.mk #[]),st (ByteArray.mk #[]),st (ByteArray.mk #[]),AV.list LK.nil 0 0 []]]) :=
  along_sound (ans:=[(5,Ans.v (lro l9.length 1 (List.map st l9))),(10,Ans.b true)]) (by kernel_rfl) (ai h0 (ai h1 trivial))
theorem f23_pft (s0:ByteArray)(X:Ext)(call:Caller)(lf:Nat)(l9 l16:List ByteArray)(k16:LK)(x17:ByteArray)(a:Nat)(c:List AV)(d:Int)(e:ByteArray)(r22:List AV)(g:ByteArray)(r25:List AV)(h:ByteArray)(r28:List AV)(x30 j:ByteArray)(r32:List AV)(x34:ByteArray)
 (h0:callv X call false 53 [st s0,st (ByteArray.mk #[32])] [Ob.cells [st (ByteArray.mk #[]),st (ByteArray.mk #[]),st (ByteArray.mk #[]),st (ByteArray.mk #[]),AV.list LK.nil 0 0 []]] 0=some (lro l9.length 1 (List.map st l9),[Ob.cells [st (ByteArray.mk #[]),st (ByteArray.mk #[]),st (ByteArray.mk #[]),st (ByteArray.mk #[]),AV.list LK.nil 0 0 []]]))
 (h1:decide ((↑l9.length:Int)<4)=false)
 (h2:slc Tryd.prog 25 [Ob.cells [st (ByteArray.mk #[]),st (ByteArray.mk #[]),st (ByteArray.mk #[]),st (ByteArray.mk #[]),AV.list LK.nil 0 0 []]] false 0 (lro l9.length 1 (List.map st l9)) (some (i6 4)) none none=some (AV.list k16 l16.length 1 (List.map st l16),[Ob.cells [st (ByteArray.mk #[]),st (ByteArray.mk #[]),st (ByteArray.mk #[]),st (ByteArray.mk #[]),AV.list LK.nil 0 0 []]]))
 (h3:callv X call false 55 [AV.list k16 l16.length 1 (List.map st l16),st (ByteArray.mk #[32])] [Ob.cells [st (ByteArray.mk #[]),st (ByteArray.mk #[]),st (ByteArray.mk #[]),st (ByteArray.mk #[]),AV.list LK.nil 0 0 []]] 0=some (st x17,[Ob.cells [st (ByteArray.mk #[]),st (ByteArray.mk #[]),st (ByteArray.mk #[]),st (ByteArray.mk #[]),AV.list LK.nil 0 0 []]]))
 (h4:callv X call false 54 [st x17] [Ob.cells [st (ByteArray.mk #[]),st (ByteArray.mk #[]),st (ByteArray.mk #[]),st (ByteArray.mk #[]),AV.list LK.nil 0 0 []]] 0=some (AV.tup [lro a 2 c,i6 d],[Ob.cells [st (ByteArray.mk #[]),st (ByteArray.mk #[]),st (ByteArray.mk #[]),st (ByteArray.mk #[]),AV.list LK.nil 0 0 []]]))
 (h5:keep [Ob.cells [st (ByteArray.mk #[]),st (ByteArray.mk #[]),st (ByteArray.mk #[]),st (ByteArray.mk #[]),AV.list LK.nil 0 0 []]] (indexAddrv Tryd.prog 25 [Ob.cells [st (ByteArray.mk #[]),st (ByteArray.mk #[]),st (ByteArray.mk #[]),st (ByteArray.mk #[]),AV.list LK.nil 0 0 []]] (lro l9.length 1 (List.map st l9)) (i6 0))=some (AV.eaddr (st e::r22),[Ob.cells [st (ByteArray.mk #[]),st (ByteArray.mk #[]),st (ByteArray.mk #[]),st (ByteArray.mk #[]),AV.list LK.nil 0 0 []]]))
 (h6:keep [Ob.cells [st (ByteArray.mk #[]),st (ByteArray.mk #[]),st (ByteArray.mk #[]),st (ByteArray.mk #[]),AV.list LK.nil 0 0 []]] (indexAddrv Tryd.prog 25 [Ob.cells [st (ByteArray.mk #[]),st (ByteArray.mk #[]),st (ByteArray.mk #[]),st (ByteArray.mk #[]),AV.list LK.nil 0 0 []]] (lro l9.length 1 (List.map st l9)) (i6 1))=some (AV.eaddr (st g::r25),[Ob.cells [st (ByteArray.mk #[]),st (ByteArray.mk #[]),st (ByteArray.mk #[]),st (ByteArray.mk #[]),AV.list LK.nil 0 0 []]]))
 (h7:keep [Ob.cells [st (ByteArray.mk #[]),st (ByteArray.mk #[]),st (ByteArray.mk #[]),st (ByteArray.mk #[]),AV.list LK.nil 0 0 []]] (indexAddrv Tryd.prog 25 [Ob.cells [st (ByteArray.mk #[]),st (ByteArray.mk #[]),st (ByteArray.mk #[]),st (ByteArray.mk #[]),AV.list LK.nil 0 0 []]] (lro l9.length 1 (List.map st l9)) (i6 2))=some (AV.eaddr (st h::r28),[Ob.cells [st (ByteArray.mk #[]),st (ByteArray.mk #[]),st (ByteArray.mk #[]),st (ByteArray.mk #[]),AV.list LK.nil 0 0 []]]))
 (h8:callv X (call0 call) true 56 [st h] [Ob.cells [st (ByteArray.mk #[]),st (ByteArray.mk #[]),st (ByteArray.mk #[]),st (ByteArray.mk #[]),AV.list LK.nil 0 0 []]] 0=some (st x30,[Ob.cells [st (ByteArray.mk #[]),st (ByteArray.mk #[]),st (ByteArray.mk #[]),st (ByteArray.mk #[]),AV.list LK.nil 0 0 []]]))
 (h9:keep [Ob.cells [st (ByteArray.mk #[]),st (ByteArray.mk #[]),st (ByteArray.mk #[]),st (ByteArray.mk #[]),AV.list LK.nil 0 0 []]] (indexAddrv Tryd.prog 25 [Ob.cells [st (ByteArray.mk #[]),st (ByteArray.mk #[]),st (ByteArray.mk #[]),st (ByteArray.mk #[]),AV.list LK.nil 0 0 []]] (lro l9.length 1 (List.map st l9)) (i6 3))=some (AV.eaddr (st j::r32),[Ob.cells [st (ByteArray.mk #[]),st (ByteArray.mk #[]),st (ByteArray.mk #[]),st (ByteArray.mk #[]),AV.list LK.nil 0 0 []]]))
 (h10:callv X (call0 call) true 56 [st j] [Ob.cells [st (ByteArray.mk #[]),st (ByteArray.mk #[]),st (ByteArray.mk #[]),st (ByteArray.mk #[]),AV.list LK.nil 0 0 []]] 0=some (st x34,[Ob.cells [st (ByteArray.mk #[]),st (ByteArray.mk #[]),st (ByteArray.mk #[]),st (ByteArray.mk #[]),AV.list LK.nil 0 0 []]]))
 (h11:(d != 0)=true):vbody Tryd.prog X call lf fg23 Tryd.f23 (codeOf Tryd.f23) [st s0] [] 0=some (AV.tup [AV.agg [st (ByteArray.mk #[]),st (ByteArray.mk #[]),st (ByteArray.mk #[]),st (ByteArray.mk #[]),AV.list LK.nil 0 0 []],i6 3],[Ob.cells [st (ByteArray.mk #[]),st (ByteArray.mk #[]),st (ByteArray.mk #[]),st (ByteArray.mk #[]),AV.list LK.nil 0 0 []],Ob.cells [st e,st g,st x30,st x34,lro a 2 c]]) :=
  along_sound (ans:=[(5,Ans.v (lro l9.length 1 (List.map st l9))),(10,Ans.b false),(14,Ans.v (AV.list k16 l16.length 1 (List.map st l16))),(15,Ans.v (st x17)),(16,Ans.v (AV.tup [lro a 2 c,i6 d])),(24,Ans.v (AV.eaddr (st e::r22))),(27,Ans.v (AV.eaddr (st g::r25))),(30,Ans.v (AV.eaddr (st h::r28))),(32,Ans.v (st x30)),(34,Ans.v (AV.eaddr (st j::r32))),(36,Ans.v (st x34)),(43,Ans.b true)]) (by kernel_rfl) (ai h0 (ai h1 (ai h2 (ai h3 (ai h4 (ai h5 (ai h6 (ai h7 (ai h8 (ai h9 (ai h10 (ai h11 trivial))))))))))))
theorem f23_pfft (s0:ByteArray)(X:Ext)(call:Caller)(lf:Nat)(l9 l16:List ByteArray)(k16:LK)(x17:ByteArray)(a:Nat)(c:List AV)(d:Int)(e:ByteArray)(r22:List AV)(g:ByteArray)(r25:List AV)(h:ByteArray)(r28:List AV)(x30 j:ByteArray)(r32:List AV)(x34 x41:ByteArray)
 (h0:callv X call false 53 [st s0,st (ByteArray.mk #[32])] [Ob.cells [st (ByteArray.mk #[]),st (ByteArray.mk #[]),st (ByteArray.mk #[]),st (ByteArray.mk #[]),AV.list LK.nil 0 0 []]] 0=some (lro l9.length 1 (List.map st l9),[Ob.cells [st (ByteArray.mk #[]),st (ByteArray.mk #[]),st (ByteArray.mk #[]),st (ByteArray.mk #[]),AV.list LK.nil 0 0 []]]))
 (h1:decide ((↑l9.length:Int)<4)=false)
 (h2:slc Tryd.prog 25 [Ob.cells [st (ByteArray.mk #[]),st (ByteArray.mk #[]),st (ByteArray.mk #[]),st (ByteArray.mk #[]),AV.list LK.nil 0 0 []]] false 0 (lro l9.length 1 (List.map st l9)) (some (i6 4)) none none=some (AV.list k16 l16.length 1 (List.map st l16),[Ob.cells [st (ByteArray.mk #[]),st (ByteArray.mk #[]),st (ByteArray.mk #[]),st (ByteArray.mk #[]),AV.list LK.nil 0 0 []]]))
 (h3:callv X call false 55 [AV.list k16 l16.length 1 (List.map st l16),st (ByteArray.mk #[32])] [Ob.cells [st (ByteArray.mk #[]),st (ByteArray.mk #[]),st (ByteArray.mk #[]),st (ByteArray.mk #[]),AV.list LK.nil 0 0 []]] 0=some (st x17,[Ob.cells [st (ByteArray.mk #[]),st (ByteArray.mk #[]),st (ByteArray.mk #[]),st (ByteArray.mk #[]),AV.list LK.nil 0 0 []]]))
 (h4:callv X call false 54 [st x17] [Ob.cells [st (ByteArray.mk #[]),st (ByteArray.mk #[]),st (ByteArray.mk #[]),st (ByteArray.mk #[]),AV.list LK.nil 0 0 []]] 0=some (AV.tup [lro a 2 c,i6 d],[Ob.cells [st (ByteArray.mk #[]),st (ByteArray.mk #[]),st (ByteArray.mk #[]),st (ByteArray.mk #[]),AV.list LK.nil 0 0 []]]))
 (h5:keep [Ob.cells [st (ByteArray.mk #[]),st (ByteArray.mk #[]),st (ByteArray.mk #[]),st (ByteArray.mk #[]),AV.list LK.nil 0 0 []]] (indexAddrv Tryd.prog 25 [Ob.cells [st (ByteArray.mk #[]),st (ByteArray.mk #[]),st (ByteArray.mk #[]),st (ByteArray.mk #[]),AV.list LK.nil 0 0 []]] (lro l9.length 1 (List.map st l9)) (i6 0))=some (AV.eaddr (st e::r22),[Ob.cells [st (ByteArray.mk #[]),st (ByteArray.mk #[]),st (ByteArray.mk #[]),st (ByteArray.mk #[]),AV.list LK.nil 0 0 []]]))
 (h6:keep [Ob.cells [st (ByteArray.mk #[]),st (ByteArray.mk #[]),st (ByteArray.mk #[]),st (ByteArray.mk #[]),AV.list LK.nil 0 0 []]] (indexAddrv Tryd.prog 25 [Ob.cells [st (ByteArray.mk #[]),st (ByteArray.mk #[]),st (ByteArray.mk #[]),st (ByteArray.mk #[]),AV.list LK.nil 0 0 []]] (lro l9.length 1 (List.map st l9)) (i6 1))=some (AV.eaddr (st g::r25),[Ob.cells [st (ByteArray.mk #[]),st (ByteArray.mk #[]),st (ByteArray.mk #[]),st (ByteArray.mk #[]),AV.list LK.nil 0 0 []]]))
 (h7:keep [Ob.cells [st (ByteArray.mk #[]),st (ByteArray.mk #[]),st (ByteArray.mk #[]),st (ByteArray.mk #[]),AV.list LK.nil 0 0 []]] (indexAddrv Tryd.prog 25 [Ob.cells [st (ByteArray.mk #[]),st (ByteArray.mk #[]),st (ByteArray.mk #[]),st (ByteArray.mk #[]),AV.list LK.nil 0 0 []]] (lro l9.length 1 (List.map st l9)) (i6 2))=some (AV.eaddr (st h::r28),[Ob.cells [st (ByteArray.mk #[]),st (ByteArray.mk #[]),st (ByteArray.mk #[]),st (ByteArray.mk #[]),AV.list LK.nil 0 0 []]]))
 (h8:callv X (call0 call) true 56 [st h] [Ob.cells [st (ByteArray.mk #[]),st (ByteArray.mk #[]),st (ByteArray.mk #[]),st (ByteArray.mk #[]),AV.list LK.nil 0 0 []]] 0=some (st x30,[Ob.cells [st (ByteArray.mk #[]),st (ByteArray.mk #[]),st (ByteArray.mk #[]),st (ByteArray.mk #[]),AV.list LK.nil 0 0 []]]))
 (h9:keep [Ob.cells [st (ByteArray.mk #[]),st (ByteArray.mk #[]),st (ByteArray.mk #[]),st (ByteArray.mk #[]),AV.list LK.nil 0 0 []]] (indexAddrv Tryd.prog 25 [Ob.cells [st (ByteArray.mk #[]),st (ByteArray.mk #[]),st (ByteArray.mk #[]),st (ByteArray.mk #[]),AV.list LK.nil 0 0 []]] (lro l9.length 1 (List.map st l9)) (i6 3))=some (AV.eaddr (st j::r32),[Ob.cells [st (ByteArray.mk #[]),st (ByteArray.mk #[]),st (ByteArray.mk #[]),st (ByteArray.mk #[]),AV.list LK.nil 0 0 []]]))
 (h10:callv X (call0 call) true 56 [st j] [Ob.cells [st (ByteArray.mk #[]),st (ByteArray.mk #[]),st (ByteArray.mk #[]),st (ByteArray.mk #[]),AV.list LK.nil 0 0 []]] 0=some (st x34,[Ob.cells [st (ByteArray.mk #[]),st (ByteArray.mk #[]),st (ByteArray.mk #[]),st (ByteArray.mk #[]),AV.list LK.nil 0 0 []]]))
 (h11:(d != 0)=false)
 (h12:callv X call false 21 [AV.agg [st e,st g,st x30,st x34,lro a 2 c]] [Ob.cells [st (ByteArray.mk #[]),st (ByteArray.mk #[]),st (ByteArray.mk #[]),st (ByteArray.mk #[]),AV.list LK.nil 0 0 []],Ob.cells [st e,st g,st x30,st x34,lro a 2 c]] 0=some (st x41,[Ob.cells [st (ByteArray.mk #[]),st (ByteArray.mk #[]),st (ByteArray.mk #[]),st (ByteArray.mk #[]),AV.list LK.nil 0 0 []],Ob.cells [st e,st g,st x30,st x34,lro a 2 c]]))
 (h13:(!ByteArray.toList x41 == ByteArray.toList s0)=true):vbody Tryd.prog X call lf fg23 Tryd.f23 (codeOf Tryd.f23) [st s0] [] 0=some (AV.tup [AV.agg [st (ByteArray.mk #[]),st (ByteArray.mk #[]),st (ByteArray.mk #[]),st (ByteArray.mk #[]),AV.list LK.nil 0 0 []],i6 3],[Ob.cells [st (ByteArray.mk #[]),st (ByteArray.mk #[]),st (ByteArray.mk #[]),st (ByteArray.mk #[]),AV.list LK.nil 0 0 []],Ob.cells [st e,st g,st x30,st x34,lro a 2 c]]) :=
  along_sound (ans:=[(5,Ans.v (lro l9.length 1 (List.map st l9))),(10,Ans.b false),(14,Ans.v (AV.list k16 l16.length 1 (List.map st l16))),(15,Ans.v (st x17)),(16,Ans.v (AV.tup [lro a 2 c,i6 d])),(24,Ans.v (AV.eaddr (st e::r22))),(27,Ans.v (AV.eaddr (st g::r25))),(30,Ans.v (AV.eaddr (st h::r28))),(32,Ans.v (st x30)),(34,Ans.v (AV.eaddr (st j::r32))),(36,Ans.v (st x34)),(43,Ans.b false),(48,Ans.v (st x41)),(52,Ans.b true)]) (by kernel_rfl) (ai h0 (ai h1 (ai h2 (ai h3 (ai h4 (ai h5 (ai h6 (ai h7 (ai h8 (ai h9 (ai h10 (ai h11 (ai h12 (ai h13 trivial))))))))))))))
theorem f23_pfff (s0:ByteArray)(X:Ext)(call:Caller)(lf:Nat)(l9 l16:List ByteArray)(k16:LK)(x17:ByteArray)(a:Nat)(d:List AV)(e:Int)(g:ByteArray)(r22:List AV)(h:ByteArray)(r25:List AV)(j:ByteArray)(r28:List AV)(x30 k:ByteArray)(r32:List AV)(x34 x41:ByteArray)(rE:AV)(sE:List Ob)
 (h0:callv X call false 53 [st s0,st (ByteArray.mk #[32])] [Ob.cells [st (ByteArray.mk #[]),st (ByteArray.mk #[]),st (ByteArray.mk #[]),st (ByteArray.mk #[]),AV.list LK.nil 0 0 []]] 0=some (lro l9.length 1 (List.map st l9),[Ob.cells [st (ByteArray.mk #[]),st (ByteArray.mk #[]),st (ByteArray.mk #[]),st (ByteArray.mk #[]),AV.list LK.nil 0 0 []]]))
 (h1:decide ((↑l9.length:Int)<4)=false)
 (h2:slc Tryd.prog 25 [Ob.cells [st (ByteArray.mk #[]),st (ByteArray.mk #[]),st (ByteArray.mk #[]),st (ByteArray.mk #[]),AV.list LK.nil 0 0 []]] false 0 (lro l9.length 1 (List.map st l9)) (some (i6 4)) none none=some (AV.list k16 l16.length 1 (List.map st l16),[Ob.cells [st (ByteArray.mk #[]),st (ByteArray.mk #[]),st (ByteArray.mk #[]),st (ByteArray.mk #[]),AV.list LK.nil 0 0 []]]))
 (h3:callv X call false 55 [AV.list k16 l16.length 1 (List.map st l16),st (ByteArray.mk #[32])] [Ob.cells [st (ByteArray.mk #[]),st (ByteArray.mk #[]),st (ByteArray.mk #[]),st (ByteArray.mk #[]),AV.list LK.nil 0 0 []]] 0=some (st x17,[Ob.cells [st (ByteArray.mk #[]),st (ByteArray.mk #[]),st (ByteArray.mk #[]),st (ByteArray.mk #[]),AV.list LK.nil 0 0 []]]))
 (h4:callv X call false 54 [st x17] [Ob.cells [st (ByteArray.mk #[]),st (ByteArray.mk #[]),st (ByteArray.mk #[]),st (ByteArray.mk #[]),AV.list LK.nil 0 0 []]] 0=some (AV.tup [lro a 2 d,i6 e],[Ob.cells [st (ByteArray.mk #[]),st (ByteArray.mk #[]),st (ByteArray.mk #[]),st (ByteArray.mk #[]),AV.list LK.nil 0 0 []]]))
 (h5:keep [Ob.cells [st (ByteArray.mk #[]),st (ByteArray.mk #[]),st (ByteArray.mk #[]),st (ByteArray.mk #[]),AV.list LK.nil 0 0 []]] (indexAddrv Tryd.prog 25 [Ob.cells [st (ByteArray.mk #[]),st (ByteArray.mk #[]),st (ByteArray.mk #[]),st (ByteArray.mk #[]),AV.list LK.nil 0 0 []]] (lro l9.length 1 (List.map st l9)) (i6 0))=some (AV.eaddr (st g::r22),[Ob.cells [st (ByteArray.mk #[]),st (ByteArray.mk #[]),st (ByteArray.mk #[]),st (ByteArray.mk #[]),AV.list LK.nil 0 0 []]]))
 (h6:keep [Ob.cells [st (ByteArray.mk #[]),st (ByteArray.mk #[]),st (ByteArray.mk #[]),st (ByteArray.mk #[]),AV.list LK.nil 0 0 []]] (indexAddrv Tryd.prog 25 [Ob.cells [st (ByteArray.mk #[]),st (ByteArray.mk #[]),st (ByteArray.mk #[]),st (ByteArray.mk #[]),AV.list LK.nil 0 0 []]] (lro l9.length 1 (List.map st l9)) (i6 1))=some (AV.eaddr (st h::r25),[Ob.cells [st (ByteArray.mk #[]),st (ByteArray.mk #[]),st (ByteArray.mk #[]),st (ByteArray.mk #[]),AV.list LK.nil 0 0 []]]))
 (h7:keep [Ob.cells [st (ByteArray.mk #[]),st (ByteArray.mk #[]),st (ByteArray.mk #[]),st (ByteArray.mk #[]),AV.list LK.nil 0 0 []]] (indexAddrv Tryd.prog 25 [Ob.cells [st (ByteArray.mk #[]),st (ByteArray.mk #[]),st (ByteArray.mk #[]),st (ByteArray.mk #[]),AV.list LK.nil 0 0 []]] (lro l9.length 1 (List.map st l9)) (i6 2))=some (AV.eaddr (st j::r28),[Ob.cells [st (ByteArray.mk #[]),st (ByteArray.mk #[]),st (ByteArray.mk #[]),st (ByteArray.mk #[]),AV.list LK.nil 0 0 []]]))
 (h8:callv X (call0 call) true 56 [st j] [Ob.cells [st (ByteArray.mk #[]),st (ByteArray.mk #[]),st (ByteArray.mk #[]),st (ByteArray.mk #[]),AV.list LK.nil 0 0 []]] 0=some (st x30,[Ob.cells [st (ByteArray.mk #[]),st (ByteArray.mk #[]),st (ByteArray.mk #[]),st (ByteArray.mk #[]),AV.list LK.nil 0 0 []]]))
 (h9:keep [Ob.cells [st (ByteArray.mk #[]),st (ByteArray.mk #[]),st (ByteArray.mk #[]),st (ByteArray.mk #[]),AV.list LK.nil 0 0 []]] (indexAddrv Tryd.prog 25 [Ob.cells [st (ByteArray.mk #[]),st (ByteArray.mk #[]),st (ByteArray.mk #[]),st (ByteArray.mk #[]),AV.list LK.nil 0 0 []]] (lro l9.length 1 (List.map st l9)) (i6 3))=some (AV.eaddr (st k::r32),[Ob.cells [st (ByteArray.mk #[]),st (ByteArray.mk #[]),st (ByteArray.mk #[]),st (ByteArray.mk #[]),AV.list LK.nil 0 0 []]]))
 (h10:callv X (call0 call) true 56 [st k] [Ob.cells [st (ByteArray.mk #[]),st (ByteArray.mk #[]),st (ByteArray.mk #[]),st (ByteArray.mk #[]),AV.list LK.nil 0 0 []]] 0=some (st x34,[Ob.cells [st (ByteArray.mk #[]),st (ByteArray.mk #[]),st (ByteArray.mk #[]),st (ByteArray.mk #[]),AV.list LK.nil 0 0 []]]))
 (h11:(e != 0)=false)
 (h12:callv X call false 21 [AV.agg [st g,st h,st x30,st x34,lro a 2 d]] [Ob.cells [st (ByteArray.mk #[]),st (ByteArray.mk #[]),st (ByteArray.mk #[]),st (ByteArray.mk #[]),AV.list LK.nil 0 0 []],Ob.cells [st g,st h,st x30,st x34,lro a 2 d]] 0=some (st x41,[Ob.cells [st (ByteArray.mk #[]),st (ByteArray.mk #[]),st (ByteArray.mk #[]),st (ByteArray.mk #[]),AV.list LK.nil 0 0 []],Ob.cells [st g,st h,st x30,st x34,lro a 2 d]]))
 (h13:(!ByteArray.toList x41 == ByteArray.toList s0)=false)
 (h14:vend1 [] 0 [Ob.cells [st g,st h,st x30,st x34,lro a 2 d],Ob.cells [st g,st h,st x30,st x34,lro a 2 d]] [AV.agg [st g,st h,st x30,st x34,lro a 2 d],i6 0]=some (rE,sE)):vbody Tryd.prog X call lf fg23 Tryd.f23 (codeOf Tryd.f23) [st s0] [] 0=some (rE,sE) :=
  along_sound (ans:=[(5,Ans.v (lro l9.length 1 (List.map st l9))),(10,Ans.b false),(14,Ans.v (AV.list k16 l16.length 1 (List.map st l16))),(15,Ans.v (st x17)),(16,Ans.v (AV.tup [lro a 2 d,i6 e])),(24,Ans.v (AV.eaddr (st g::r22))),(27,Ans.v (AV.eaddr (st h::r25))),(30,Ans.v (AV.eaddr (st j::r28))),(32,Ans.v (st x30)),(34,Ans.v (AV.eaddr (st k::r32))),(36,Ans.v (st x34)),(43,Ans.b false),(48,Ans.v (st x41)),(52,Ans.b false),(59,Ans.c rE sE)]) (by kernel_rfl) (ai h0 (ai h1 (ai h2 (ai h3 (ai h4 (ai h5 (ai h6 (ai h7 (ai h8 (ai h9 (ai h10 (ai h11 (ai h12 (ai h13 (ai h14 trivial)))))))))))))))
def f23_q0 (s0:ByteArray)(l9:List ByteArray)(a:Int)(x41:ByteArray):Nat :=
  (match decide ((↑l9.length:Int)<4) with
  | true=>0
  | false=>(match (a != 0) with
    | true=>1
    | false=>(match (!ByteArray.toList x41 == ByteArray.toList s0) with
      | true=>1
      | false=>2)))
theorem f23_P0 (s0:ByteArray)(X:Ext)(call:Caller)(lf:Nat)(l9 l16:List ByteArray)(k16:LK)(x17:ByteArray)(a:Nat)(b:List AV)(c:Int)(d:ByteArray)(r22:List AV)(e:ByteArray)(r25:List AV)(g:ByteArray)(r28:List AV)(x30 j:ByteArray)(r32:List AV)(x34 x41:ByteArray)(rE:AV)(sE:List Ob)
 (g0:callv X call false 53 [st s0,st (ByteArray.mk #[32])] [Ob.cells [st (ByteArray.mk #[]),st (ByteArray.mk #[]),st (ByteArray.mk #[]),st (ByteArray.mk #[]),AV.list LK.nil 0 0 []]] 0=some (lro l9.length 1 (List.map st l9),[Ob.cells [st (ByteArray.mk #[]),st (ByteArray.mk #[]),st (ByteArray.mk #[]),st (ByteArray.mk #[]),AV.list LK.nil 0 0 []]]))
 (g1:decide ((↑l9.length:Int)<4)=false→slc Tryd.prog 25 [Ob.cells [st (ByteArray.mk #[]),st (ByteArray.mk #[]),st (ByteArray.mk #[]),st (ByteArray.mk #[]),AV.list LK.nil 0 0 []]] false 0 (lro l9.length 1 (List.map st l9)) (some (i6 4)) none none=some (AV.list k16 l16.length 1 (List.map st l16),[Ob.cells [st (ByteArray.mk #[]),st (ByteArray.mk #[]),st (ByteArray.mk #[]),st (ByteArray.mk #[]),AV.list LK.nil 0 0 []]]))
 (g2:decide ((↑l9.length:Int)<4)=false→callv X call false 55 [AV.list k16 l16.length 1 (List.map st l16),st (ByteArray.mk #[32])] [Ob.cells [st (ByteArray.mk #[]),st (ByteArray.mk #[]),st (ByteArray.mk #[]),st (ByteArray.mk #[]),AV.list LK.nil 0 0 []]] 0=some (st x17,[Ob.cells [st (ByteArray.mk #[]),st (ByteArray.mk #[]),st (ByteArray.mk #[]),st (ByteArray.mk #[]),AV.list LK.nil 0 0 []]]))
 (g3:decide ((↑l9.length:Int)<4)=false→callv X call false 54 [st x17] [Ob.cells [st (ByteArray.mk #[]),st (ByteArray.mk #[]),st (ByteArray.mk #[]),st (ByteArray.mk #[]),AV.list LK.nil 0 0 []]] 0=some (AV.tup [lro a 2 b,i6 c],[Ob.cells [st (ByteArray.mk #[]),st (ByteArray.mk #[]),st (ByteArray.mk #[]),st (ByteArray.mk #[]),AV.list LK.nil 0 0 []]]))
 (g4:decide ((↑l9.length:Int)<4)=false→keep [Ob.cells [st (ByteArray.mk #[]),st (ByteArray.mk #[]),st (ByteArray.mk #[]),st (ByteArray.mk #[]),AV.list LK.nil 0 0 []]] (indexAddrv Tryd.prog 25 [Ob.cells [st (ByteArray.mk #[]),st (ByteArray.mk #[]),st (ByteArray.mk #[]),st (ByteArray.mk #[]),AV.list LK.nil 0 0 []]] (lro l9.length 1 (List.map st l9)) (i6 0))=some (AV.eaddr (st d::r22),[Ob.cells [st (ByteArray.mk #[]),st (ByteArray.mk #[]),st (ByteArray.mk #[]),st (ByteArray.mk #[]),AV.list LK.nil 0 0 []]]))
 (g5:decide ((↑l9.length:Int)<4)=false→keep [Ob.cells [st (ByteArray.mk #[]),st (ByteArray.mk #[]),st (ByteArray.mk #[]),st (ByteArray.mk #[]),AV.list LK.nil 0 0 []]] (indexAddrv Tryd.prog 25 [Ob.cells [st (ByteArray.mk #[]),st (ByteArray.mk #[]),st (ByteArray.mk #[]),st (ByteArray.mk #[]),AV.list LK.nil 0 0 []]] (lro l9.length 1 (List.map st l9)) (i6 1))=some (AV.eaddr (st e::r25),[Ob.cells [st (ByteArray.mk #[]),st (ByteArray.mk #[]),st (ByteArray.mk #[]),st (ByteArray.mk #[]),AV.list LK.nil 0 0 []]]))
 (g6:decide ((↑l9.length:Int)<4)=false→keep [Ob.cells [st (ByteArray.mk #[]),st (ByteArray.mk #[]),st (ByteArray.mk #[]),st (ByteArray.mk #[]),AV.list LK.nil 0 0 []]] (indexAddrv Tryd.prog 25 [Ob.cells [st (ByteArray.mk #[]),st (ByteArray.mk #[]),st (ByteArray.mk #[]),st (ByteArray.mk #[]),AV.list LK.nil 0 0 []]] (lro l9.length 1 (List.map st l9)) (i6 2))=some (AV.eaddr (st g::r28),[Ob.cells [st (ByteArray.mk #[]),st (ByteArray.mk #[]),st (ByteArray.mk #[]),st (ByteArray.mk #[]),AV.list LK.nil 0 0 []]]))
 (g7:decide ((↑l9.length:Int)<4)=false→callv X (call0 call) true 56 [st g] [Ob.cells [st (ByteArray.mk #[]),st (ByteArray.mk #[]),st (ByteArray.mk #[]),st (ByteArray.mk #[]),AV.list LK.nil 0 0 []]] 0=some (st x30,[Ob.cells [st (ByteArray.mk #[]),st (ByteArray.mk #[]),st (ByteArray.mk #[]),st (ByteArray.mk #[]),AV.list LK.nil 0 0 []]]))
 (g8:decide ((↑l9.length:Int)<4)=false→keep [Ob.cells [st (ByteArray.mk #[]),st (ByteArray.mk #[]),st (ByteArray.mk #[]),st (ByteArray.mk #[]),AV.list LK.nil 0 0 []]] (indexAddrv Tryd.prog 25 [Ob.cells [st (ByteArray.mk #[]),st (ByteArray.mk #[]),st (ByteArray.mk #[]),st (ByteArray.mk #[]),AV.list LK.nil 0 0 []]] (lro l9.length 1 (List.map st l9)) (i6 3))=some (AV.eaddr (st j::r32),[Ob.cells [st (ByteArray.mk #[]),st (ByteArray.mk #[]),st (ByteArray.mk #[]),st (ByteArray.mk #[]),AV.list LK.nil 0 0 []]]))
 (g9:decide ((↑l9.length:Int)<4)=false→callv X (call0 call) true 56 [st j] [Ob.cells [st (ByteArray.mk #[]),st (ByteArray.mk #[]),st (ByteArray.mk #[]),st (ByteArray.mk #[]),AV.list LK.nil 0 0 []]] 0=some (st x34,[Ob.cells [st (ByteArray.mk #[]),st (ByteArray.mk #[]),st (ByteArray.mk #[]),st (ByteArray.mk #[]),AV.list LK.nil 0 0 []]]))
 (g10:decide ((↑l9.length:Int)<4)=false→(c != 0)=false→callv X call false 21 [AV.agg [st d,st e,st x30,st x34,lro a 2 b]] [Ob.cells [st (ByteArray.mk #[]),st (ByteArray.mk #[]),st (ByteArray.mk #[]),st (ByteArray.mk #[]),AV.list LK.nil 0 0 []],Ob.cells [st d,st e,st x30,st x34,lro a 2 b]] 0=some (st x41,[Ob.cells [st (ByteArray.mk #[]),st (ByteArray.mk #[]),st (ByteArray.mk #[]),st (ByteArray.mk #[]),AV.list LK.nil 0 0 []],Ob.cells [st d,st e,st x30,st x34,lro a 2 b]]))
 (g11:decide ((↑l9.length:Int)<4)=false→(c != 0)=false→(!ByteArray.toList x41 == ByteArray.toList s0)=false→vend1 [] 0 [Ob.cells [st d,st e,st x30,st x34,lro a 2 b],Ob.cells [st d,st e,st x30,st x34,lro a 2 b]] [AV.agg [st d,st e,st x30,st x34,lro a 2 b],i6 0]=some (rE,sE)) :
    (f23_q0 s0 l9 c x41=0→vbody Tryd.prog X call lf fg23 Tryd.f23 (codeOf Tryd.f23) [st s0] [] 0=some (AV.tup [AV.agg [st (ByteArray.mk #[]),st (ByteArray.mk #[]),st (ByteArray.mk #[]),st (ByteArray.mk #[]),AV.list LK.nil 0 0 []],i6 3],[Ob.cells [st (ByteArray.mk #[]),st (ByteArray.mk #[]),st (ByteArray.mk #[]),st (ByteArray.mk #[]),AV.list LK.nil 0 0 []]]))∧(f23_q0 s0 l9 c x41=1→vbody Tryd.prog X call lf fg23 Tryd.f23 (codeOf Tryd.f23) [st s0] [] 0=some (AV.tup [AV.agg [st (ByteArray.mk #[]),st (ByteArray.mk #[]),st (ByteArray.mk #[]),st (ByteArray.mk #[]),AV.list LK.nil 0 0 []],i6 3],[Ob.cells [st (ByteArray.mk #[]),st (ByteArray.mk #[]),st (ByteArray.mk #[]),st (ByteArray.mk #[]),AV.list LK.nil 0 0 []],Ob.cells [st d,st e,st x30,st x34,lro a 2 b]]))∧(f23_q0 s0 l9 c x41=2→vbody Tryd.prog X call lf fg23 Tryd.f23 (codeOf Tryd.f23) [st s0] [] 0=some (rE,sE)):=by
  unfold f23_q0
  cases c0:decide ((↑l9.length:Int)<4) with
  | true =>
    exact ⟨fun _=>f23_pt s0 X call lf l9 g0 c0,fun h=>absurd (show (0:Nat)=1 from h) (by decide),fun h=>absurd (show (0:Nat)=2 from h) (by decide)⟩
  | false =>
    cases c1:(c != 0) with
    | true =>
      exact ⟨fun h=>absurd (show (1:Nat)=0 from h) (by decide),fun _=>f23_pft s0 X call lf l9 l16 k16 x17 a b c d r22 e r25 g r28 x30 j r32 x34 g0 c0 (g1 c0) (g2 c0) (g3 c0) (g4 c0) (g5 c0) (g6 c0) (g7 c0) (g8 c0) (g9 c0) c1,fun h=>absurd (show (1:Nat)=2 from h) (by decide)⟩
    | false =>
      cases c2:(!ByteArray.toList x41 == ByteArray.toList s0) with
      | true =>
        exact ⟨fun h=>absurd (show (1:Nat)=0 from h) (by decide),fun _=>f23_pfft s0 X call lf l9 l16 k16 x17 a b c d r22 e r25 g r28 x30 j r32 x34 x41 g0 c0 (g1 c0) (g2 c0) (g3 c0) (g4 c0) (g5 c0) (g6 c0) (g7 c0) (g8 c0) (g9 c0) c1 (g10 c0 c1) c2,fun h=>absurd (show (1:Nat)=2 from h) (by decide)⟩
      | false =>
        exact ⟨fun h=>absurd (show (2:Nat)=0 from h) (by decide),fun h=>absurd (show (2:Nat)=1 from h) (by decide),fun _=>f23_pfff s0 X call lf l9 l16 k16 x17 a b c d r22 e r25 g r28 x30 j r32 x34 x41 rE sE g0 c0 (g1 c0) (g2 c0) (g3 c0) (g4 c0) (g5 c0) (g6 c0) (g7 c0) (g8 c0) (g9 c0) c1 (g10 c0 c1) c2 (g11 c0 c1 c2)⟩
end Go.Proofs.Lex
end
/- Lexicon: ParseLine. -/
section
open Go Go.Vm Go.Proofs
namespace Go.Proofs.Lex
def candF (l:List ByteArray) (F:List Feat):Lexm:=⟨nS l 0,nS l 1,undashS (nS l 2),undashS (nS l 3),F⟩
def restS (l:List ByteArray):ByteArray:=⟨(joinB (l.drop 4) blank).toArray⟩
def parseP (s:ByteArray) (l:List ByteArray):Option Lexm:=if l.length < 4 then none else match parseF (restS l) with
  | none=>none
  | some F=>if lineS (candF l F)=s then some (candF l F) else none
def parseL (s:ByteArray):Option Lexm:=parseP s (splitL s blank)
/-- A text that is short enough, and of whose third part ContainsAny tells. -/
def okPar (s:ByteArray):Prop:=s.size < lim∧anyFn [st (undashS (nS (splitL s blank) 2)),st bn]=some (bo (anyBN (undashS (nS (splitL s blank) 2))))
theorem textN_bound {B:Nat} {F:List Feat} (h:∀ f ∈ F,f.name.size ≤ B∧f.value.size ≤ B):∀ i,i ≤ F.length→(textN F i).length ≤ i * (2 * B + 2)
  | 0,_=>Nat.zero_le _
  | i + 1, hi => by
    have ih:=textN_bound h i (by omega)
    have hm:=h (nF F i) (by rw [nF,getD_lt (by omega)]; exact List.getElem_mem _)
    have hc : (cond (decide (0 < i)) (textN F i ++ [32]) []).length ≤ (textN F i).length + 1 := by
      cases decide (0 < i)
      · exact Nat.zero_le _
      · simp
    have e1:(nF F i).name.data.toList.length=(nF F i).name.size:=by simp
    have e2:(nF F i).value.data.toList.length=(nF F i).value.size:=by simp
    simp only [textN,List.length_append,List.length_cons,List.length_nil,e1,e2]
    rw [Nat.succ_mul]
    omega
section
variable [Fixed]
/-- What a parsed record's sizes are. -/
theorem parseF_ok {s:ByteArray} {F:List Feat} (hs:s.size < lim) (h:parseF s=some F):okF F∧F.length ≤ 8∧∀ f ∈ F,f.name.size ≤ lim∧f.value.size ≤ lim:=by
  unfold parseF at h
  split at h
  · simp only [Option.some.injEq] at h
    subst h
    exact ⟨⟨Nat.zero_le _,fun f hf=>by simp at hf⟩,Nat.zero_le _,fun f hf=>by simp at hf⟩
  · unfold partsF at h
    split at h
    · rename_i hc
      simp only [Option.some.injEq] at h
      subst h
      have h8:(featsOf (splitL s blank)).length ≤ 8:=by rw [featsOf,List.length_map]; exact hc.2.1
      refine ⟨okF_parts hs (Nat.le_trans hc.2.1 (by decide)) fun p hp=>hp,h8,fun f hf => ?_⟩
      obtain ⟨p,hp,rfl⟩:=List.mem_map.1 hf
      have h1:=split_le hp
      have h2:=featOf_le p
      omega
    · cases h
theorem okT_small {F:List Feat} (h8:F.length ≤ 8) (h:∀ f ∈ F,f.name.size ≤ lim∧f.value.size ≤ lim):okT F∧(textS F).size ≤ 8 * (2 * lim + 2):=by
  have h1:=textN_bound h F.length (Nat.le_refl _)
  have h2:F.length * (2 * lim + 2) ≤ 8 * (2 * lim + 2):=Nat.mul_le_mul_right _ h8
  have h3:(textF F).length ≤ 8 * (2 * lim + 2):=Nat.le_trans h1 h2
  refine ⟨⟨Nat.le_trans h8 (by decide),?_⟩,?_⟩
  · have : (8 * (2 * lim + 2)) * 2 ≤ big := by decide
    omega
  · show (textF F).toArray.size ≤ _
    simpa using h3
theorem dashS_le {s:ByteArray} {B:Nat} (h:s.size ≤ B) (hB:1 ≤ B):(dashS s).size ≤ B:=by
  unfold dashS
  split
  · exact hB
  · exact h
theorem undashS_le {s:ByteArray} {B:Nat} (h:s.size ≤ B):(undashS s).size ≤ B:=by
  unfold undashS
  split
  · exact Nat.zero_le _
  · exact h
theorem line_len {x:Lexm} {B:Nat} (h1:x.id.size ≤ B) (h2:x.cat.size ≤ B) (h3:x.stem.size ≤ B) (h4:x.par.size ≤ B) (h5:(textS x.feats).size ≤ B) (hB:1 ≤ B):(joinB (lineParts x) blank).length ≤ 5 * (B + 1):=by
  have hl : ∀ y ∈ (lineParts x).map (·.data.toList), y.length ≤ B := by
    intro y hy
    obtain ⟨z,hz,rfl⟩:=List.mem_map.1 hy
    have e:z.data.toList.length=z.size:=by simp
    rw [e]
    unfold lineParts partsL at hz
    have hd3:=dashS_le h3 hB
    have hd4:=dashS_le h4 hB
    split at hz <;> simp only [List.mem_cons,List.not_mem_nil,or_false] at hz
    · rcases hz with rfl | rfl | rfl | rfl <;> assumption
    · rcases hz with rfl | rfl | rfl | rfl | rfl <;> assumption
  have h6:=join_le _ hl
  have hn : ((lineParts x).map (·.data.toList)).length ≤ 5 := by
    rw [List.length_map]
    unfold lineParts partsL
    split <;> simp
  exact Nat.le_trans h6 (Nat.mul_le_mul_right _ hn)
theorem part_le {s:ByteArray} {l:List ByteArray} (hl:splitL s blank=l) {i:Nat} (hi:i < l.length):(nS l i).size ≤ s.size:=split_le (by rw [hl,nS,getD_lt hi]; exact List.getElem_mem hi)
theorem okLine_cand {s:ByteArray} (hp:okPar s) {F:List Feat} (h4 : ¬ (splitL s blank).length < 4) (hF:okF F∧F.length ≤ 8∧∀ f ∈ F,f.name.size ≤ lim∧f.value.size ≤ lim):okLine (candF (splitL s blank) F):=by
  have hs:s.size < lim:=hp.1
  have hb:=lim_big
  have p:∀ i,i < 4→(nS (splitL s blank) i).size ≤ s.size:=fun i hi=>part_le rfl (by omega)
  obtain ⟨hT,hts⟩:=okT_small hF.2.1 hF.2.2
  have hlim:lim ≤ 8 * (2 * lim + 2):=by decide
  refine ⟨?_,?_,?_,hF.1,hp.2,fun _=>hT,fun _ => ?_⟩
  · have:=p 0 (by omega); show (nS (splitL s blank) 0).size ≤ big; omega
  · have:=p 1 (by omega); show (nS (splitL s blank) 1).size ≤ big; omega
  · have:=undashS_le (p 3 (by omega)); show (undashS (nS (splitL s blank) 3)).size ≤ big; omega
  · refine Nat.le_trans (line_len (B := 8 * (2 * lim + 2)) ?_ ?_ ?_ ?_ hts (by decide)) (by decide)
    · have:=p 0 (by omega); show (nS (splitL s blank) 0).size ≤ _; omega
    · have:=p 1 (by omega); show (nS (splitL s blank) 1).size ≤ _; omega
    · have:=undashS_le (p 2 (by omega)); show (undashS (nS (splitL s blank) 2)).size ≤ _; omega
    · have:=undashS_le (p 3 (by omega)); show (undashS (nS (splitL s blank) 3)).size ≤ _; omega
end
section
variable [Fixed] {X:Ext}
abbrev aLE:Arg (Lexm × Int):=Arg.tup2 aL aI
theorem callOn0 {α:Type} {T:Go.Vm.Spec} {f:FuncId} {vs:List AV} {y:α} {B:Arg α} {σ:List Ob} {ro:Nat} {dr:Bool} (h1:X.pureFn f=none) (h2:X.stFn f=none) (ha:X.adopt f=false) (hl:AV.ltAll 0 vs=true) (h:T f vs=some (B.enc y)) :
    callv X (call0 (callerOf T)) dr f vs σ ro=some (B.enc y,σ):=by
  have hp:(B.enc y).pure=true:=B.lt y
  unfold callv
  rw [h1,h2]
  simp only [hl,if_true,call0,callerOf,h,hp,ha,Bool.and_false,Bool.false_eq_true,if_false,B.ro]
theorem slc_from {l:List ByteArray} {σ:List Ob} (h:4 ≤ l.length):slc Tryd.prog 25 σ false 0 (lro l.length 1 (l.map st)) (some (i6 4)) none none=some (.list .ro (l.drop 4).length 1 ((l.drop 4).map st),σ):=by
  unfold slc cutOwn
  simp only
  unfold byValue1
  have ho:AV.owns (lro l.length 1 (l.map st))=[]:=owns_strs l
  rw [ho]
  simp only [Bool.false_eq_true,if_false,if_true]
  unfold slicev
  rw [Tryd.underlying25]
  simp only [cells9,info9]
  simp [boundv,keep]
  rw [if_pos (by omega)]
  simp [List.take_of_length_le]
theorem join55 (hM:XM X) {call:Caller} {l:List ByteArray} (h1:l.length ≤ 140737488355328) (h2:(joinB l blank).length ≤ 140737488355328) (σ:List Ob) :
    callv X call false 55 [.list .ro l.length 1 (l.map st),st blank] σ 0=some (st ⟨(joinB l blank).toArray⟩,σ):=by
  refine call_pure hM.join ?_ ?_ ?_ ?_
  · have := aSs.lt l
    rw [aSs_enc] at this
    have h3:AV.lt 0 (AV.list .ro l.length 1 (l.map st))=true:=this
    show (AV.lt 0 (AV.list .ro l.length 1 (l.map st)) && (AV.lt 0 (st blank) && true))=true
    rw [h3]
    rfl
  · simp only [AV.ownsAll, AV.owns, List.append_nil]
    exact owns_strs l
  · exact thawAll_id _ (by simp only [AV.ownsAll,AV.owns,List.append_nil]; exact owns_strs l)
  · unfold joinFn
    have:aSs.dec (.list .ro l.length 1 (l.map st))=some l:=aSs_dec
    simp only [this]
    rw [if_pos ⟨h1,h2⟩]
end
end Go.Proofs.Lex
end
