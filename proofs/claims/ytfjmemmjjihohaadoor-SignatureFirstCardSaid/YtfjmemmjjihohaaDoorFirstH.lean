/- Part 8 of the texts of this claim: the evaluator, and what it says of the program's functions. -/
import Derived.Test.YtfjmemmjjihohaaDoorFirstG
import Derived.Test.YtfjmemmjjihohaaDoorFirstD
import Derived.Test.YtfjmemmjjihohaaDoorFirstC
set_option linter.unusedSectionVars false
set_option linter.unusedVariables false
set_option linter.unusedSimpArgs false
set_option linter.constructorNameAsVariable false
/- Signature: the law of Valid, walked (printed) -/
section
open Go Go.Vm Go.Proofs
namespace Go.Proofs.Sig
end Go.Proofs.Sig
end
/- Signature: the law of Valid. -/
section
open Go Go.Vm Go.Proofs
namespace Go.Proofs.Sig
variable [Fixed] {X:Ext}
end Go.Proofs.Sig
end
/- Signature: sameness of predicates, predicates found and copied. -/
section
open Go Go.Vm Go.Proofs
namespace Go.Proofs.Sig
variable [Fixed] {X:Ext}
section
variable (hX:ExtOk Tryd.prog X) (hM:XS X) (ha:∀ f,X.adopt f=false)
include hX hM ha
end
end Go.Proofs.Sig
end
/- Signature: the law of lookups, walked (printed) -/
section
open Go Go.Vm Go.Proofs
namespace Go.Proofs.Sig
end Go.Proofs.Sig
end
/- Signature: the law of lookups. -/
section
open Go Go.Vm Go.Proofs
namespace Go.Proofs.Sig
variable [Fixed] {X:Ext}
end Go.Proofs.Sig
end
/- Signature: the reference's cut, with and Text, walked (printed) -/
section
open Go Go.Vm Go.Proofs
namespace Go.Proofs.Sig
end Go.Proofs.Sig
end
/- Signature: the reference's cut, told. -/
section
open Go Go.Vm Go.Proofs
namespace Go.Proofs.Sig
/-- The last piece. -/
def lst {α:Type} (l:List (List α)):List α:=l.getLastD []
theorem snoc_ind {α:Type} {p:List α→Prop} (h0:p []) (h1:∀ l b,p l→p (l ++ [b])):∀ l,p l:=by
  have h : ∀ l : List α, p l.reverse := by
    intro l
    induction l with
    | nil=>exact h0
    | cons b l ih=>rw [List.reverse_cons]; exact h1 _ _ ih
  intro l
  have:=h l.reverse
  rwa [List.reverse_reverse] at this
theorem spl_snoc (c b:UInt8):∀ l:List UInt8,spl c (l ++ [b])=if b=c then spl c l ++ [[]] else (spl c l).dropLast ++ [lst (spl c l) ++ [b]]
  | [] => by
    by_cases h:b=c
    · simp [spl,h]
    · simp [spl,h,lst]
  | a :: l => by
    have ih:=spl_snoc c b l
    obtain ⟨x,r,e⟩:=List.exists_cons_of_ne_nil (spl_ne c l)
    rw [List.cons_append,spl,spl,ih,e]
    by_cases h:b=c
    · simp only [h, if_true, List.cons_append]
      by_cases ha:a=c
      · simp [ha]
      · simp [ha]
    · simp only [h, if_false]
      by_cases ha:a=c
      · simp [ha,lst]
      · cases r with
        | nil=>simp [ha,lst]
        | cons y r=>simp [ha,lst]
theorem ex_mk (s:ByteArray) (i j:Nat):s.extract i j=bytesB ((s.data.toList.take j).drop i):=by
  have : (s.extract i j).data.toList = (s.data.toList.take j).drop i := by
    rw [ByteArray.data_extract,Array.toList_extract]
    simp [List.extract,List.drop_take]
  rw [← this]; rfl
theorem size_list (s:ByteArray):s.size=s.data.toList.length:=by simp
section
variable {X:Ext} {call:Caller} {lf:Nat}
theorem byteN_list {s:ByteArray} {i:Nat} (h:i < s.data.toList.length):byteN s i=s.data.toList[i].toNat:=by
  have h' : i < s.data.size:=by simpa using h
  unfold byteN Array.getD
  rw [dif_pos h']
  rfl
theorem spl_len_le (c:UInt8) (l:List UInt8):(spl c l).length ≤ l.length + 1:=by
  induction l using snoc_ind with
  | h0=>simp [spl]
  | h1 l b ih =>
    rw [spl_snoc]
    split
    · rw [List.length_append,List.length_append]; simp only [List.length_cons,List.length_nil]; omega
    · rw [List.length_append,List.length_append,List.length_dropLast]; simp only [List.length_cons,List.length_nil]; omega
end
/-- A string, cut at each byte c. -/
def cutL (c:UInt8) (s:ByteArray):List ByteArray:=(spl c s.data.toList).map bytesB
variable [Fixed] {X:Ext} {call:Caller} {lf:Nat}
end Go.Proofs.Sig
end
/- Signature: the reference's with, told. -/
section
open Go Go.Vm Go.Proofs
namespace Go.Proofs.Sig
/-- A signature with the symbol of a line's words, if they are one. -/
def withG (x:Sgn) (l:List ByteArray):Sgn :=
  if isK (nS l 0) kSort && ((↑l.length:Int) == 2) then { x with sorts:=x.sorts ++ [nS l 1] }
  else if isK (nS l 0) kCon && ((↑l.length:Int) == 3) then { x with consts:=x.consts ++ [⟨nS l 1,nS l 2⟩] }
  else if isK (nS l 0) kPre && decide ((↑l.length:Int) > 2) then { x with preds:=x.preds ++ [⟨nS l 1,l.drop 2⟩] }
  else x
def withF (x:Sgn) (line:ByteArray):Sgn:=withG x (cutL 32 line)
variable [Fixed] {X:Ext} {call:Caller} {lf:Nat}
end Go.Proofs.Sig
end
/- Signature: the reference's Text, told. -/
section
open Go Go.Vm Go.Proofs
namespace Go.Proofs.Sig
abbrev tailW (ws:List ByteArray):List UInt8:=ws.flatMap fun w=>32::w.data.toList
/-- A line of a text. -/
def lineL (k:ByteArray) (ws:List ByteArray):List UInt8:=k.data.toList ++ (tailW ws ++ [10])
def lnS (s:ByteArray):List UInt8:=lineL kSort [s]
def lnC (c:Cst):List UInt8:=lineL kCon [c.name,c.sort]
def lnP (p:Prd):List UInt8:=lineL kPre (p.name::p.args)
def textL (x:Sgn):List UInt8:=x.sorts.flatMap lnS ++ (x.consts.flatMap lnC ++ x.preds.flatMap lnP)
def textF (x:Sgn):ByteArray:=bytesB (textL x)
variable [Fixed] {X:Ext} {call:Caller} {lf:Nat}
end Go.Proofs.Sig
end
/- Signature: plain laws of the reference's Parse. -/
section
open Go Go.Vm Go.Proofs
namespace Go.Proofs.Sig
theorem spl_join (c:UInt8):∀ (l:List UInt8) {x:List UInt8} {r:List (List UInt8)},spl c l=x::r→l=x ++ r.flatMap (c :: ·)
  | [], x, r, h => by
    simp only [spl,List.cons.injEq] at h
    obtain ⟨rfl,rfl⟩:=h
    rfl
  | b :: l, x, r, h => by
    obtain ⟨y,q,e⟩:=List.exists_cons_of_ne_nil (spl_ne c l)
    have ih:=spl_join c l e
    rw [spl,e] at h
    by_cases hb:b=c
    · simp only [hb, if_true, List.cons.injEq] at h
      obtain ⟨rfl,rfl⟩:=h
      rw [hb,List.flatMap_cons,List.nil_append,List.cons_append,← ih]
    · simp only [hb, if_false, List.cons.injEq] at h
      obtain ⟨rfl,rfl⟩:=h
      rw [List.cons_append,← ih]
/-- A line is its words, with blanks between. -/
theorem line_of {line w:ByteArray} {ws:List ByteArray} (h:cutL 32 line=w::ws):lineL w ws=line.data.toList ++ [10]:=by
  unfold cutL at h
  obtain ⟨x,r,e⟩:=List.exists_cons_of_ne_nil (spl_ne 32 line.data.toList)
  rw [e,List.map_cons,List.cons.injEq] at h
  obtain ⟨rfl,rfl⟩:=h
  rw [spl_join 32 _ e]
  unfold lineL tailW
  rw [List.flatMap_map,List.append_assoc]
  rfl
theorem list2 {l:List ByteArray} (h:((↑l.length:Int) == 2)=true):l=[nS l 0,nS l 1]:=by
  have:l.length=2:=by have:=beq_iff_eq.1 h; omega
  match l,this with
  | [a,b],_=>rfl
theorem list3 {l:List ByteArray} (h:((↑l.length:Int) == 3)=true):l=[nS l 0,nS l 1,nS l 2]:=by
  have:l.length=3:=by have:=beq_iff_eq.1 h; omega
  match l,this with
  | [a,b,c],_=>rfl
theorem listN {l:List ByteArray} (h:decide ((↑l.length:Int) > 2)=true):l=nS l 0::nS l 1::l.drop 2∧l.drop 2 ≠ []:=by
  have:2 < l.length:=by have:=of_decide_eq_true h; omega
  match l,this with
  | a::b::c::r,_=>exact ⟨rfl,by simp⟩
inductive With (x:Sgn) (line:ByteArray):Sgn→Prop
  | none:With x line x
  | sort (s:ByteArray) (h:lnS s=line.data.toList ++ [10]) (hl:cutL 32 line=[kSort,s]):With x line { x with sorts:=x.sorts ++ [s] }
  | con (c:Cst) (h:lnC c=line.data.toList ++ [10]) (hl:cutL 32 line=[kCon,c.name,c.sort]):With x line { x with consts:=x.consts ++ [c] }
  | pre (p:Prd) (h:lnP p=line.data.toList ++ [10]) (hl:cutL 32 line=kPre::p.name::p.args) (hn:p.args ≠ []):With x line { x with preds:=x.preds ++ [p] }
theorem isK_eq {k s:ByteArray} (h:isK k s=true):k=s:=eqB_iff.1 h
theorem with_cases (x:Sgn) (line:ByteArray):With x line (withF x line):=by
  unfold withF
  generalize hl:cutL 32 line=l
  unfold withG
  split
  · rename_i h
    rw [Bool.and_eq_true] at h
    have e:=list2 h.2
    rw [isK_eq h.1] at e
    exact .sort _ (line_of (hl.trans e)) (hl.trans e)
  · split
    · rename_i h
      rw [Bool.and_eq_true] at h
      have e:=list3 h.2
      rw [isK_eq h.1] at e
      exact .con ⟨_,_⟩ (line_of (hl.trans e)) (hl.trans e)
    · split
      · rename_i h
        rw [Bool.and_eq_true] at h
        obtain ⟨e,hn⟩:=listN h.2
        rw [isK_eq h.1] at e
        exact .pre ⟨_,_⟩ (line_of (hl.trans e)) (hl.trans e) hn
      · exact .none
theorem textL_sort (x:Sgn) (s:ByteArray):textL { x with sorts:=x.sorts ++ [s] }=x.sorts.flatMap lnS ++ (lnS s ++ (x.consts.flatMap lnC ++ x.preds.flatMap lnP)):=by
  simp [textL,List.flatMap_append]
theorem textL_con (x:Sgn) (c:Cst):textL { x with consts:=x.consts ++ [c] }=x.sorts.flatMap lnS ++ (x.consts.flatMap lnC ++ (lnC c ++ x.preds.flatMap lnP)):=by
  simp [textL,List.flatMap_append]
theorem textL_pre (x:Sgn) (p:Prd):textL { x with preds:=x.preds ++ [p] }=textL x ++ lnP p:=by
  simp [textL,List.flatMap_append]
/-- What stands after n lines of w bytes. -/
structure OkW (x:Sgn) (n w:Nat):Prop where
  n:x.sorts.length + x.consts.length + x.preds.length ≤ n
  t:(textL x).length ≤ w
  s:∀ s ∈ x.sorts,s.size ≤ mega
  c:∀ c ∈ x.consts,c.name.size ≤ mega∧c.sort.size ≤ mega
  p:∀ p ∈ x.preds,p.name.size ≤ mega∧p.args.length ≤ mega∧∀ a ∈ p.args,a.size ≤ mega
theorem OkW.ok {x:Sgn} {n w:Nat} (h:OkW x n w) (hn:n ≤ mega):okG x=true:=okP_ok ⟨h.n,h.s,h.c,h.p⟩ hn
theorem args_len (l:List ByteArray):l.length ≤ (tailW l).length:=by
  induction l with
  | nil=>simp
  | cons a l ih=>simp only [tailW,List.flatMap_cons,List.length_append,List.length_cons] at ih ⊢; omega
theorem arg_len {l:List ByteArray} {a:ByteArray} (h:a ∈ l):a.size + 1 ≤ (tailW l).length:=by
  induction l with
  | nil=>cases h
  | cons b l ih =>
    simp only [tailW,List.flatMap_cons,List.length_append,List.length_cons] at ih ⊢
    rcases List.mem_cons.1 h with rfl | h
    · rw [size_list]; omega
    · have:=ih h; omega
theorem OkW.step {x:Sgn} {n w:Nat} {line:ByteArray} (h:OkW x n w) (hl:line.data.toList.length ≤ mega):OkW (withF x line) (n + 1) (w + (line.data.toList.length + 1)):=by
  obtain ⟨h1,h2,h3,h4,h5⟩:=h
  have hw:=with_cases x line
  generalize withF x line=y at hw ⊢
  cases hw with
  | none=>exact ⟨by omega,by omega,h3,h4,h5⟩
  | sort s e _ =>
    have el:(lnS s).length=line.data.toList.length + 1:=by rw [e,List.length_append]; rfl
    have es:(lnS s).length=s.data.toList.length + 6:=by simp [lnS,lineL,tailW,kSort]
    refine ⟨by show (x.sorts ++ [s]).length + _ + _ ≤ _; rw [List.length_append]; simp only [List.length_cons,List.length_nil]; omega,?_,fun a ha => ?_,h4,h5⟩
    · rw [textL_sort]
      simp only [textL,List.length_append] at h2 ⊢
      omega
    · rcases List.mem_append.1 ha with ha | ha
      · exact h3 a ha
      · rw [List.mem_singleton.1 ha, size_list]
        omega
  | con c e _ =>
    have el:(lnC c).length=line.data.toList.length + 1:=by rw [e,List.length_append]; rfl
    have es:(lnC c).length=c.name.data.toList.length + c.sort.data.toList.length + 11:=by simp [lnC,lineL,tailW,kCon]; omega
    refine ⟨by show _ + (x.consts ++ [c]).length + _ ≤ _; rw [List.length_append]; simp only [List.length_cons,List.length_nil]; omega,?_,h3,fun a ha => ?_,h5⟩
    · rw [textL_con]
      simp only [textL,List.length_append] at h2 ⊢
      omega
    · rcases List.mem_append.1 ha with ha | ha
      · exact h4 a ha
      · rw [List.mem_singleton.1 ha, size_list, size_list]
        omega
  | pre p e _ _ =>
    have el:(lnP p).length=line.data.toList.length + 1:=by rw [e,List.length_append]; rfl
    have es:(lnP p).length=p.name.data.toList.length + (tailW p.args).length + 11:=by simp [lnP,lineL,tailW,kPre]; omega
    refine ⟨by show _ + _ + (x.preds ++ [p]).length ≤ _; rw [List.length_append]; simp only [List.length_cons,List.length_nil]; omega,?_,h3,h4,fun a ha => ?_⟩
    · rw [textL_pre, List.length_append]
      omega
    · rcases List.mem_append.1 ha with ha | ha
      · exact h5 a ha
      · rw [List.mem_singleton.1 ha, size_list]
        have:=args_len p.args
        refine ⟨by omega,by omega,fun b hb => ?_⟩
        have:=arg_len hb
        omega
end Go.Proofs.Sig
end
/- Signature: the reference's Parse, walked (printed) -/
section
open Go Go.Vm Go.Proofs
namespace Go.Proofs.Sig
end Go.Proofs.Sig
end
/- Signature: the reference's Parse, told. -/
section
open Go Go.Vm Go.Proofs
namespace Go.Proofs.Sig
variable [Fixed] {X:Ext} {call:Caller} {lf:Nat}
structure Calls17 (X:Ext) (call:Caller):Prop where
  h40:∀ s σ,s.size ≤ mega→callv X call false 40 [st s,.int .u8 10] σ 0=some (strsV (cutL 10 s),σ)
  h41:∀ v x line,aG.dec v=some x→AV.lt 0 v=true→okG x=true→line.size ≤ mega→callv X (call0 call) true 41 [v,st line] [] 0=some (.agg (sgnC (withF x line)),[])
  h29:∀ x σ,okG x=true→(textL x).length ≤ 1000000000→callv X call false 29 [.agg (sgnC x)] σ 0=some (st (textF x),σ)
  h15:∀ x σ,okG x=true→callv X call false 15 [.agg (sgnC x)] σ 0=some (bo (validB x),σ)
theorem spl_sum (c:UInt8) (l:List UInt8):((spl c l).flatMap fun x=>x ++ [c])=l ++ [c]:=by
  obtain ⟨x,r,e⟩:=List.exists_cons_of_ne_nil (spl_ne c l)
  have h:=spl_join c l e
  have key : ∀ (r : List (List UInt8)) (x : List UInt8), ((x :: r).flatMap fun x => x ++ [c]) = (x ++ r.flatMap (c :: ·)) ++ [c] := by
    intro r
    induction r with
    | nil=>intro x; simp
    | cons y r ih=>intro x; rw [List.flatMap_cons,ih y]; simp
  rw [e,key,← h]
end Go.Proofs.Sig
end
/- Signature: plain law: Parse answers as the reference's Parse. -/
section
open Go Go.Vm Go.Proofs
namespace Go.Proofs.Sig
variable [Fixed]
end Go.Proofs.Sig
end
/- Signature: sameness of signatures. -/
section
open Go Go.Vm Go.Proofs
namespace Go.Proofs.Sig
variable [Fixed] {X:Ext} {call:Caller} {lf:Nat}
end Go.Proofs.Sig
end
/- Signature: the law of Parse, walked (printed) -/
section
open Go Go.Vm Go.Proofs
namespace Go.Proofs.Sig
end Go.Proofs.Sig
end
/- Signature: cut, with, Text, Same and Parse of the reference in specifications; the law of Parse. -/
section
open Go Go.Vm Go.Proofs
namespace Go.Proofs.Sig
variable [Fixed] {X:Ext}
theorem aR_enc (x:Sgn) (a b:Int):aR.enc (x,a,b) = .tup [.agg (sgnC x),i6 a,i6 b]:=by show AV.tup [aG.enc x,_,_]=_; rw [aG_enc]; rfl
section
variable (hX:ExtOk Tryd.prog X) (hM:XS X) (ha:∀ f,X.adopt f=false)
include hX hM ha
end
end Go.Proofs.Sig
end
/- Signature: plain laws: the first wrong line. -/
section
open Go Go.Vm Go.Proofs
namespace Go.Proofs.Sig
theorem spl_app (c:UInt8):∀ a b:List UInt8,spl c (a ++ c::b)=spl c a ++ spl c b
  | [],b=>by simp [spl]
  | x :: a, b => by
    have ih:=spl_app c a b
    obtain ⟨y,q,e⟩:=List.exists_cons_of_ne_nil (spl_ne c a)
    rw [List.cons_append,spl,spl,ih,e]
    by_cases hx:x=c
    · simp [hx]
    · simp [hx]
/-- The first pieces with their ends. -/
def pref (ps:List (List UInt8)) (m:Nat):List UInt8:=(ps.take m).flatMap fun x=>x ++ [10]
theorem spl_no (c:UInt8):∀ l:List UInt8,∀ x ∈ spl c l,c ∉ x
  | [], x, hx => by
    rw [spl,List.mem_singleton] at hx
    subst hx; simp
  | b :: l, x, hx => by
    have ih:=spl_no c l
    obtain ⟨y,q,e⟩:=List.exists_cons_of_ne_nil (spl_ne c l)
    rw [e] at ih
    rw [spl,e] at hx
    by_cases hb:b=c
    · simp only [hb, if_true] at hx
      rcases List.mem_cons.1 hx with rfl | hx
      · simp
      · exact ih x hx
    · simp only [hb, if_false] at hx
      rcases List.mem_cons.1 hx with rfl | hx
      · intro h
        rcases List.mem_cons.1 h with h | h
        · exact hb h.symm
        · exact ih y (by simp) h
      · exact ih x (List.mem_cons_of_mem _ hx)
theorem spl_one (c:UInt8):∀ x:List UInt8,c ∉ x→spl c x=[x]
  | [],_=>rfl
  | b :: x, h => by
    have hb:b ≠ c:=fun e=>h (by rw [e]; simp)
    rw [spl,spl_one c x (fun hm=>h (List.mem_cons_of_mem _ hm)),if_neg hb]
theorem spl_lines:∀ qs:List (List UInt8),(∀ q ∈ qs,(10:UInt8) ∉ q)→spl 10 (qs.flatMap fun x=>x ++ [10])=qs ++ [[]]
  | [],_=>rfl
  | q :: qs, h => by
    rw [List.flatMap_cons,List.append_assoc,List.singleton_append,spl_app,spl_one 10 q (h q (by simp)),spl_lines qs (fun y hy=>h y (List.mem_cons_of_mem _ hy))]
    rfl
theorem spl_pref (l:List UInt8) (m:Nat):spl 10 (pref (spl 10 l) m)=(spl 10 l).take m ++ [[]] :=
  spl_lines _ fun q hq=>spl_no 10 l q (List.mem_of_mem_take hq)
variable [Fixed]
theorem pref_all (l:List UInt8):pref (spl 10 l) (spl 10 l).length=l ++ [10]:=by
  unfold pref
  rw [List.take_length]
  exact spl_sum 10 l
theorem pref_take (l:List UInt8) {m:Nat} (h:m < (spl 10 l).length):(pref (spl 10 l) m).length ≤ l.length∧l.take (pref (spl 10 l) m).length=pref (spl 10 l) m:=by
  have h1:=pref_all l
  unfold pref at h1 ⊢
  rw [List.take_length] at h1
  have h2:(spl 10 l).flatMap (fun x=>x ++ [10])=((spl 10 l).take m).flatMap (fun x=>x ++ [10]) ++ ((spl 10 l).drop m).flatMap (fun x=>x ++ [10]):=by rw [← List.flatMap_append,List.take_append_drop]
  rw [h1,List.drop_eq_getElem_cons h,List.flatMap_cons] at h2
  have h3:=congrArg List.length h2
  simp only [List.length_append,List.length_cons,List.length_nil] at h3
  have hle:(((spl 10 l).take m).flatMap (fun x=>x ++ [10])).length ≤ l.length:=by omega
  refine ⟨hle,?_⟩
  have h4:=congrArg (List.take (((spl 10 l).take m).flatMap (fun x=>x ++ [10])).length) h2
  rw [List.take_left,List.take_append_of_le_length hle] at h4
  exact h4
theorem parse_kind:∀ (ps:List (List UInt8)) (x:Sgn) (c:Nat),((parseLs x c ps).2.2=0∧(parseLs x c ps).2.1=0) ∨ ∃ k,k < ps.length∧parseLs x c ps=(eG,((↑(c + k + 1):Nat):Int),3)∧(parseLs x c (ps.take k ++ [[]])).2.2=0∧(k + 1 < ps.length→parseLs x c (ps.take (k + 1) ++ [[]])=(eG,((↑(c + k + 1):Nat):Int),3))
  | [],_,_ => .inl ⟨rfl,rfl⟩
  | [l], x, c => by
    by_cases h:l=[]
    · left; subst h; exact ⟨rfl,rfl⟩
    · right
      exact ⟨0,by simp,if_neg h,rfl,fun h=>by simp at h⟩
  | l :: m :: rest, x, c => by
    cases hr:readF x (bytesB l) with
    | none =>
      right
      refine ⟨0,by simp,by rw [parseLs,hr],rfl,fun _ => ?_⟩
      show parseLs x c (l::([]:List UInt8)::[])=_
      rw [parseLs,hr]
    | some x' =>
      have e:∀ q qs,parseLs x c (l::q::qs)=parseLs x' (c + 1) (q::qs):=fun q qs=>by rw [parseLs,hr]
      rcases parse_kind (m::rest) x' (c + 1) with h | ⟨k,hk,h1,h2,h3⟩
      · left; rw [e]; exact h
      · right
        refine ⟨k + 1,by rw [List.length_cons]; omega,by rw [e,h1]; congr 2; omega,?_,fun hk2 => ?_⟩
        · rw [List.take_succ_cons, List.cons_append]
          cases k with
          | zero=>rw [List.take_zero,List.nil_append,e]; rfl
          | succ k=>rw [List.take_succ_cons,List.cons_append,e]; rw [List.take_succ_cons,List.cons_append] at h2; exact h2
        · have := h3 (by rw [List.length_cons] at hk2; omega)
          rw [List.take_succ_cons,List.take_succ_cons,List.cons_append,List.cons_append,e]
          rw [List.take_succ_cons,List.cons_append] at this
          rw [this]; congr 2; omega
end Go.Proofs.Sig
end
/- Signature: the law of the first wrong line, walked (printed) -/
section
open Go Go.Vm Go.Proofs
namespace Go.Proofs.Sig
def fg5:Nat→List Nat
  | 1008=>[7,8]
  | _=>[]
theorem f5_pt (s0:ByteArray)(X:Ext)(call:Caller)(lf:Nat)
 (h0:cvq X call false 12 [] [] (bo true))
 (h1:decide ((↑(ByteArray.size s0):Int)>400)=true)
 (h2:cvq X call false 12 [] [] (bo true)):vbody Tryd.prog X call lf fg5 Tryd.f5 (codeOf Tryd.f5) [st s0] [] 0=some (bo true,[]) :=
  along_sound (ans:=[(3,Ans.v (bo true)),(11,Ans.b true),(15,Ans.v (bo true))]) (by kernel_rfl) (ai h0 (ai h1 (ai h2 trivial)))
theorem f5_pftt (s0:ByteArray)(x1:Sgn)(j2 j3:Int)(X:Ext)(call:Caller)(lf:Nat)
 (h0:cvq X call false 12 [] [] (bo true))
 (h1:decide ((↑(ByteArray.size s0):Int)>400)=false)
 (h2:cvq X call false 16 [st s0] [] (AV.tup [AV.agg (gQ x1),i6 j2,i6 j3]))
 (h3:(j3 == 0)=true)
 (h4:(j2 == 0)=true):vbody Tryd.prog X call lf fg5 Tryd.f5 (codeOf Tryd.f5) [st s0] [] 0=some (bo true,[Ob.cells (gQ x1)]) :=
  along_sound (ans:=[(3,Ans.v (bo true)),(11,Ans.b false),(16,Ans.v (AV.tup [AV.agg (gQ x1),i6 j2,i6 j3])),(27,Ans.b true),(31,Ans.b true)]) (by kernel_rfl) (ai h0 (ai h1 (ai h2 (ai h3 (ai h4 trivial)))))
def f5_F0 (s0:ByteArray)(x1:Sgn)(j2 j3:Int)(b6 b7 b8:Nat→Int)(i0:Nat):St :=
  stOf 95 [36,37,38,39,40,41,42,43,44,45,46,47,48,49,50,51,52,53,54,55,56,57,58] [(0,st s0),(2,bo false),(3,AV.ref 0 0),(4,i6 j2),(5,i6 j3),(6,i6 (b6 i0)),(7,i6 (b7 i0)),(8,i6 (b8 i0)),(9,i6 (↑i0:Int)),(16,bo true),(17,bo false),(18,bo false),(19,st s0),(20,i6 (↑(ByteArray.size s0):Int)),(21,bo false),(22,bo false),(24,AV.tup [AV.agg (gQ x1),i6 j2,i6 j3]),(25,st s0),(26,AV.tup [AV.agg (gQ x1),i6 j2,i6 j3]),(27,AV.agg (gQ x1)),(28,i6 j2),(29,i6 j3),(30,i6 j3),(31,bo false),(34,st s0),(35,i6 (↑(ByteArray.size s0):Int))] [Ob.cells (gQ x1)]
def f5_S0 (s0:ByteArray)(x1:Sgn)(j2 j3:Int):St :=
  stOf 95 [] [(0,st s0),(2,bo false),(3,AV.ref 0 0),(4,i6 j2),(5,i6 j3),(6,i6 1),(7,i6 0),(8,i6 (↑(ByteArray.size s0):Int)),(9,i6 0),(16,bo true),(17,bo false),(18,bo false),(19,st s0),(20,i6 (↑(ByteArray.size s0):Int)),(21,bo false),(22,bo false),(24,AV.tup [AV.agg (gQ x1),i6 j2,i6 j3]),(25,st s0),(26,AV.tup [AV.agg (gQ x1),i6 j2,i6 j3]),(27,AV.agg (gQ x1)),(28,i6 j2),(29,i6 j3),(30,i6 j3),(31,bo false),(34,st s0),(35,i6 (↑(ByteArray.size s0):Int))] [Ob.cells (gQ x1)]
abbrev f5_D0:List Nat:=[41,40,58,57,56,55,54,53,52,51,50,49,48,47,46,45,44,43,42,39,38,37,36]
theorem f5_L0 (s0:ByteArray)(x1:Sgn)(j2 j3:Int)(b6 b7 b8:Nat→Int)(X:Ext)(call:Caller)(lf n:Nat)(x:Ex) (S' : St)
 (e0:b6 0=1)
 (e1:b7 0=0)
 (e2:b8 0=(↑(ByteArray.size s0):Int))
 (hn:n<lf)
 (hs:∀ j,j<n→∃ Sx,vexec Tryd.prog X call lf 0 fg5 (loopN Tryd.f5 0) (f5_F0 s0 x1 j2 j3 b6 b7 b8 j)=some (Ex.normal,Sx)∧forget f5_D0 Sx=(f5_F0 s0 x1 j2 j3 b6 b7 b8 (j + 1)))
 (he:vexec Tryd.prog X call lf 0 fg5 (loopN Tryd.f5 0) (f5_F0 s0 x1 j2 j3 b6 b7 b8 n)=some (x,S'))
 (hx:x ≠ Ex.normal):vexec Tryd.prog X call lf 0 fg5 (Go.Code.loop (loopN Tryd.f5 0)) (f5_S0 s0 x1 j2 j3)=some (x,S') :=
  loop_runK (by kernel_rfl) (fun j=>(f5_F0 s0 x1 j2 j3 b6 b7 b8 j)) n hn (by show forget f5_D0 (f5_S0 s0 x1 j2 j3)=(f5_F0 s0 x1 j2 j3 b6 b7 b8 0); unfold f5_F0; rw [e0,e1,e2]; show _=_; kernel_rfl) hs he hx
theorem f5_s0_tttt (s0:ByteArray)(x1:Sgn)(j2 j3:Int)(b6 b7 b8:Nat→Int)(X:Ext)(call:Caller)(lf i0:Nat)(n44:Int)
 (h0:decide ((↑i0:Int)<(↑(ByteArray.size s0):Int))=true)
 (h1:kpq [Ob.cells (gQ x1)] (indexv Tryd.prog 9 (st s0) (i6 (↑i0:Int))) (AV.int IntKind.u8 n44))
 (h2:(n44 == 10)=true)
 (h3:(w6 (b6 i0 + 1) == j2)=true)
 (h4:(w6 (b6 i0 + 1) == w6 (j2 + 1))=true)
 (e0:b6 (i0 + 1)=w6 (b6 i0 + 1))
 (e1:b7 (i0 + 1)=w6 ((↑i0:Int) + 1))
 (e2:b8 (i0 + 1)=w6 ((↑i0:Int) + 1))
 (e3:(↑(i0 + 1):Int)=w6 ((↑i0:Int) + 1)):∃ Sx,vexec Tryd.prog X call lf 0 fg5 (loopN Tryd.f5 0) (f5_F0 s0 x1 j2 j3 b6 b7 b8 i0)=some (Ex.normal,Sx)∧forget f5_D0 Sx=(f5_F0 s0 x1 j2 j3 b6 b7 b8 (i0 + 1)) :=
  ⟨stOf 95 [] [(0,st s0),(2,bo false),(3,AV.ref 0 0),(4,i6 j2),(5,i6 j3),(6,i6 (w6 (b6 i0 + 1))),(7,i6 (w6 ((↑i0:Int) + 1))),(8,i6 (w6 ((↑i0:Int) + 1))),(9,i6 (w6 ((↑i0:Int) + 1))),(16,bo true),(17,bo false),(18,bo false),(19,st s0),(20,i6 (↑(ByteArray.size s0):Int)),(21,bo false),(22,bo false),(24,AV.tup [AV.agg (gQ x1),i6 j2,i6 j3]),(25,st s0),(26,AV.tup [AV.agg (gQ x1),i6 j2,i6 j3]),(27,AV.agg (gQ x1)),(28,i6 j2),(29,i6 j3),(30,i6 j3),(31,bo false),(34,st s0),(35,i6 (↑(ByteArray.size s0):Int)),(36,i6 (↑i0:Int)),(37,st s0),(38,i6 (↑(ByteArray.size s0):Int)),(39,bo true),(40,i6 (↑i0:Int)),(41,i6 (w6 ((↑i0:Int) + 1))),(42,st s0),(43,i6 (↑i0:Int)),(44,AV.int IntKind.u8 n44),(45,bo true),(46,i6 (b6 i0)),(47,i6 (w6 (b6 i0 + 1))),(48,i6 (w6 (b6 i0 + 1))),(49,i6 j2),(50,bo true),(51,i6 (↑i0:Int)),(52,i6 (w6 ((↑i0:Int) + 1))),(53,i6 (w6 (b6 i0 + 1))),(54,i6 j2),(55,i6 (w6 (j2 + 1))),(56,bo true),(57,i6 (↑i0:Int)),(58,i6 (w6 ((↑i0:Int) + 1)))] [Ob.cells (gQ x1)],around_sound (ans:=[(4,Ans.b true),(9,Ans.v (AV.int IntKind.u8 n44)),(10,Ans.b true),(19,Ans.b true),(29,Ans.b true)]) (by kernel_rfl) (ai h0 (ai h1 (ai h2 (ai h3 (ai h4 trivial))))),by unfold f5_F0; rw [e0,e1,e2,e3]; show _=_; kernel_rfl⟩
theorem f5_s0_tttf (s0:ByteArray)(x1:Sgn)(j2 j3:Int)(b6 b7 b8:Nat→Int)(X:Ext)(call:Caller)(lf i0:Nat)(n44:Int)
 (h0:decide ((↑i0:Int)<(↑(ByteArray.size s0):Int))=true)
 (h1:kpq [Ob.cells (gQ x1)] (indexv Tryd.prog 9 (st s0) (i6 (↑i0:Int))) (AV.int IntKind.u8 n44))
 (h2:(n44 == 10)=true)
 (h3:(w6 (b6 i0 + 1) == j2)=true)
 (h4:(w6 (b6 i0 + 1) == w6 (j2 + 1))=false)
 (e0:b6 (i0 + 1)=w6 (b6 i0 + 1))
 (e1:b7 (i0 + 1)=w6 ((↑i0:Int) + 1))
 (e2:b8 (i0 + 1)=b8 i0)
 (e3:(↑(i0 + 1):Int)=w6 ((↑i0:Int) + 1)):∃ Sx,vexec Tryd.prog X call lf 0 fg5 (loopN Tryd.f5 0) (f5_F0 s0 x1 j2 j3 b6 b7 b8 i0)=some (Ex.normal,Sx)∧forget f5_D0 Sx=(f5_F0 s0 x1 j2 j3 b6 b7 b8 (i0 + 1)) :=
  ⟨stOf 95 [57,58] [(0,st s0),(2,bo false),(3,AV.ref 0 0),(4,i6 j2),(5,i6 j3),(6,i6 (w6 (b6 i0 + 1))),(7,i6 (w6 ((↑i0:Int) + 1))),(8,i6 (b8 i0)),(9,i6 (w6 ((↑i0:Int) + 1))),(16,bo true),(17,bo false),(18,bo false),(19,st s0),(20,i6 (↑(ByteArray.size s0):Int)),(21,bo false),(22,bo false),(24,AV.tup [AV.agg (gQ x1),i6 j2,i6 j3]),(25,st s0),(26,AV.tup [AV.agg (gQ x1),i6 j2,i6 j3]),(27,AV.agg (gQ x1)),(28,i6 j2),(29,i6 j3),(30,i6 j3),(31,bo false),(34,st s0),(35,i6 (↑(ByteArray.size s0):Int)),(36,i6 (↑i0:Int)),(37,st s0),(38,i6 (↑(ByteArray.size s0):Int)),(39,bo true),(40,i6 (↑i0:Int)),(41,i6 (w6 ((↑i0:Int) + 1))),(42,st s0),(43,i6 (↑i0:Int)),(44,AV.int IntKind.u8 n44),(45,bo true),(46,i6 (b6 i0)),(47,i6 (w6 (b6 i0 + 1))),(48,i6 (w6 (b6 i0 + 1))),(49,i6 j2),(50,bo true),(51,i6 (↑i0:Int)),(52,i6 (w6 ((↑i0:Int) + 1))),(53,i6 (w6 (b6 i0 + 1))),(54,i6 j2),(55,i6 (w6 (j2 + 1))),(56,bo false)] [Ob.cells (gQ x1)],around_sound (ans:=[(4,Ans.b true),(9,Ans.v (AV.int IntKind.u8 n44)),(10,Ans.b true),(19,Ans.b true),(29,Ans.b false)]) (by kernel_rfl) (ai h0 (ai h1 (ai h2 (ai h3 (ai h4 trivial))))),by unfold f5_F0; rw [e0,e1,e2,e3]; show _=_; kernel_rfl⟩
theorem f5_s0_ttft (s0:ByteArray)(x1:Sgn)(j2 j3:Int)(b6 b7 b8:Nat→Int)(X:Ext)(call:Caller)(lf i0:Nat)(n44:Int)
 (h0:decide ((↑i0:Int)<(↑(ByteArray.size s0):Int))=true)
 (h1:kpq [Ob.cells (gQ x1)] (indexv Tryd.prog 9 (st s0) (i6 (↑i0:Int))) (AV.int IntKind.u8 n44))
 (h2:(n44 == 10)=true)
 (h3:(w6 (b6 i0 + 1) == j2)=false)
 (h4:(w6 (b6 i0 + 1) == w6 (j2 + 1))=true)
 (e0:b6 (i0 + 1)=w6 (b6 i0 + 1))
 (e1:b7 (i0 + 1)=b7 i0)
 (e2:b8 (i0 + 1)=w6 ((↑i0:Int) + 1))
 (e3:(↑(i0 + 1):Int)=w6 ((↑i0:Int) + 1)):∃ Sx,vexec Tryd.prog X call lf 0 fg5 (loopN Tryd.f5 0) (f5_F0 s0 x1 j2 j3 b6 b7 b8 i0)=some (Ex.normal,Sx)∧forget f5_D0 Sx=(f5_F0 s0 x1 j2 j3 b6 b7 b8 (i0 + 1)) :=
  ⟨stOf 95 [51,52] [(0,st s0),(2,bo false),(3,AV.ref 0 0),(4,i6 j2),(5,i6 j3),(6,i6 (w6 (b6 i0 + 1))),(7,i6 (b7 i0)),(8,i6 (w6 ((↑i0:Int) + 1))),(9,i6 (w6 ((↑i0:Int) + 1))),(16,bo true),(17,bo false),(18,bo false),(19,st s0),(20,i6 (↑(ByteArray.size s0):Int)),(21,bo false),(22,bo false),(24,AV.tup [AV.agg (gQ x1),i6 j2,i6 j3]),(25,st s0),(26,AV.tup [AV.agg (gQ x1),i6 j2,i6 j3]),(27,AV.agg (gQ x1)),(28,i6 j2),(29,i6 j3),(30,i6 j3),(31,bo false),(34,st s0),(35,i6 (↑(ByteArray.size s0):Int)),(36,i6 (↑i0:Int)),(37,st s0),(38,i6 (↑(ByteArray.size s0):Int)),(39,bo true),(40,i6 (↑i0:Int)),(41,i6 (w6 ((↑i0:Int) + 1))),(42,st s0),(43,i6 (↑i0:Int)),(44,AV.int IntKind.u8 n44),(45,bo true),(46,i6 (b6 i0)),(47,i6 (w6 (b6 i0 + 1))),(48,i6 (w6 (b6 i0 + 1))),(49,i6 j2),(50,bo false),(53,i6 (w6 (b6 i0 + 1))),(54,i6 j2),(55,i6 (w6 (j2 + 1))),(56,bo true),(57,i6 (↑i0:Int)),(58,i6 (w6 ((↑i0:Int) + 1)))] [Ob.cells (gQ x1)],around_sound (ans:=[(4,Ans.b true),(9,Ans.v (AV.int IntKind.u8 n44)),(10,Ans.b true),(19,Ans.b false),(25,Ans.b true)]) (by kernel_rfl) (ai h0 (ai h1 (ai h2 (ai h3 (ai h4 trivial))))),by unfold f5_F0; rw [e0,e1,e2,e3]; show _=_; kernel_rfl⟩
theorem f5_s0_ttff (s0:ByteArray)(x1:Sgn)(j2 j3:Int)(b6 b7 b8:Nat→Int)(X:Ext)(call:Caller)(lf i0:Nat)(n44:Int)
 (h0:decide ((↑i0:Int)<(↑(ByteArray.size s0):Int))=true)
 (h1:kpq [Ob.cells (gQ x1)] (indexv Tryd.prog 9 (st s0) (i6 (↑i0:Int))) (AV.int IntKind.u8 n44))
 (h2:(n44 == 10)=true)
 (h3:(w6 (b6 i0 + 1) == j2)=false)
 (h4:(w6 (b6 i0 + 1) == w6 (j2 + 1))=false)
 (e0:b6 (i0 + 1)=w6 (b6 i0 + 1))
 (e1:b7 (i0 + 1)=b7 i0)
 (e2:b8 (i0 + 1)=b8 i0)
 (e3:(↑(i0 + 1):Int)=w6 ((↑i0:Int) + 1)):∃ Sx,vexec Tryd.prog X call lf 0 fg5 (loopN Tryd.f5 0) (f5_F0 s0 x1 j2 j3 b6 b7 b8 i0)=some (Ex.normal,Sx)∧forget f5_D0 Sx=(f5_F0 s0 x1 j2 j3 b6 b7 b8 (i0 + 1)) :=
  ⟨stOf 95 [51,52,57,58] [(0,st s0),(2,bo false),(3,AV.ref 0 0),(4,i6 j2),(5,i6 j3),(6,i6 (w6 (b6 i0 + 1))),(7,i6 (b7 i0)),(8,i6 (b8 i0)),(9,i6 (w6 ((↑i0:Int) + 1))),(16,bo true),(17,bo false),(18,bo false),(19,st s0),(20,i6 (↑(ByteArray.size s0):Int)),(21,bo false),(22,bo false),(24,AV.tup [AV.agg (gQ x1),i6 j2,i6 j3]),(25,st s0),(26,AV.tup [AV.agg (gQ x1),i6 j2,i6 j3]),(27,AV.agg (gQ x1)),(28,i6 j2),(29,i6 j3),(30,i6 j3),(31,bo false),(34,st s0),(35,i6 (↑(ByteArray.size s0):Int)),(36,i6 (↑i0:Int)),(37,st s0),(38,i6 (↑(ByteArray.size s0):Int)),(39,bo true),(40,i6 (↑i0:Int)),(41,i6 (w6 ((↑i0:Int) + 1))),(42,st s0),(43,i6 (↑i0:Int)),(44,AV.int IntKind.u8 n44),(45,bo true),(46,i6 (b6 i0)),(47,i6 (w6 (b6 i0 + 1))),(48,i6 (w6 (b6 i0 + 1))),(49,i6 j2),(50,bo false),(53,i6 (w6 (b6 i0 + 1))),(54,i6 j2),(55,i6 (w6 (j2 + 1))),(56,bo false)] [Ob.cells (gQ x1)],around_sound (ans:=[(4,Ans.b true),(9,Ans.v (AV.int IntKind.u8 n44)),(10,Ans.b true),(19,Ans.b false),(25,Ans.b false)]) (by kernel_rfl) (ai h0 (ai h1 (ai h2 (ai h3 (ai h4 trivial))))),by unfold f5_F0; rw [e0,e1,e2,e3]; show _=_; kernel_rfl⟩
theorem f5_s0_tf (s0:ByteArray)(x1:Sgn)(j2 j3:Int)(b6 b7 b8:Nat→Int)(X:Ext)(call:Caller)(lf i0:Nat)(n44:Int)
 (h0:decide ((↑i0:Int)<(↑(ByteArray.size s0):Int))=true)
 (h1:kpq [Ob.cells (gQ x1)] (indexv Tryd.prog 9 (st s0) (i6 (↑i0:Int))) (AV.int IntKind.u8 n44))
 (h2:(n44 == 10)=false)
 (e0:b6 (i0 + 1)=b6 i0)
 (e1:b7 (i0 + 1)=b7 i0)
 (e2:b8 (i0 + 1)=b8 i0)
 (e3:(↑(i0 + 1):Int)=w6 ((↑i0:Int) + 1)):∃ Sx,vexec Tryd.prog X call lf 0 fg5 (loopN Tryd.f5 0) (f5_F0 s0 x1 j2 j3 b6 b7 b8 i0)=some (Ex.normal,Sx)∧forget f5_D0 Sx=(f5_F0 s0 x1 j2 j3 b6 b7 b8 (i0 + 1)) :=
  ⟨stOf 95 [46,47,48,49,50,51,52,53,54,55,56,57,58] [(0,st s0),(2,bo false),(3,AV.ref 0 0),(4,i6 j2),(5,i6 j3),(6,i6 (b6 i0)),(7,i6 (b7 i0)),(8,i6 (b8 i0)),(9,i6 (w6 ((↑i0:Int) + 1))),(16,bo true),(17,bo false),(18,bo false),(19,st s0),(20,i6 (↑(ByteArray.size s0):Int)),(21,bo false),(22,bo false),(24,AV.tup [AV.agg (gQ x1),i6 j2,i6 j3]),(25,st s0),(26,AV.tup [AV.agg (gQ x1),i6 j2,i6 j3]),(27,AV.agg (gQ x1)),(28,i6 j2),(29,i6 j3),(30,i6 j3),(31,bo false),(34,st s0),(35,i6 (↑(ByteArray.size s0):Int)),(36,i6 (↑i0:Int)),(37,st s0),(38,i6 (↑(ByteArray.size s0):Int)),(39,bo true),(40,i6 (↑i0:Int)),(41,i6 (w6 ((↑i0:Int) + 1))),(42,st s0),(43,i6 (↑i0:Int)),(44,AV.int IntKind.u8 n44),(45,bo false)] [Ob.cells (gQ x1)],around_sound (ans:=[(4,Ans.b true),(9,Ans.v (AV.int IntKind.u8 n44)),(10,Ans.b false)]) (by kernel_rfl) (ai h0 (ai h1 (ai h2 trivial))),by unfold f5_F0; rw [e0,e1,e2,e3]; show _=_; kernel_rfl⟩
def f5_S1 (s0:ByteArray)(x1:Sgn)(j2 j3:Int)(b6 b7 b8:Nat→Int)(i0:Nat):St :=
  stOf 95 [40,41,42,43,44,45,46,47,48,49,50,51,52,53,54,55,56,57,58] [(0,st s0),(2,bo false),(3,AV.ref 0 0),(4,i6 j2),(5,i6 j3),(6,i6 (b6 i0)),(7,i6 (b7 i0)),(8,i6 (b8 i0)),(9,i6 (↑i0:Int)),(16,bo true),(17,bo false),(18,bo false),(19,st s0),(20,i6 (↑(ByteArray.size s0):Int)),(21,bo false),(22,bo false),(24,AV.tup [AV.agg (gQ x1),i6 j2,i6 j3]),(25,st s0),(26,AV.tup [AV.agg (gQ x1),i6 j2,i6 j3]),(27,AV.agg (gQ x1)),(28,i6 j2),(29,i6 j3),(30,i6 j3),(31,bo false),(34,st s0),(35,i6 (↑(ByteArray.size s0):Int)),(36,i6 (↑i0:Int)),(37,st s0),(38,i6 (↑(ByteArray.size s0):Int)),(39,bo false)] [Ob.cells (gQ x1)]
theorem f5_r0_f (s0:ByteArray)(x1:Sgn)(j2 j3:Int)(b6 b7 b8:Nat→Int)(X:Ext)(call:Caller)(lf i0:Nat)
 (h0:decide ((↑i0:Int)<(↑(ByteArray.size s0):Int))=false):vexec Tryd.prog X call lf 0 fg5 (loopN Tryd.f5 0) (f5_F0 s0 x1 j2 j3 b6 b7 b8 i0)=some (Ex.exit 0,(f5_S1 s0 x1 j2 j3 b6 b7 b8 i0)) :=
  around_sound (ans:=[(4,Ans.b false)]) (by kernel_rfl) (ai h0 trivial)
theorem f5_pfflfttttt (s0:ByteArray)(x1:Sgn)(j2 j3:Int)(b6 b7 b8:Nat→Int)(x4:Sgn)(j5 j6:Int)(x7:Sgn)(j8 j9:Int)(X:Ext)(call:Caller)(lf i0:Nat)(x62 x70:ByteArray)
 (h0:cvq X call false 12 [] [] (bo true))
 (h1:decide ((↑(ByteArray.size s0):Int)>400)=false)
 (h2:cvq X call false 16 [st s0] [] (AV.tup [AV.agg (gQ x1),i6 j2,i6 j3]))
 (h3:(j3 == 0)=false)
 (h4:vexec Tryd.prog X call lf 0 fg5 (Code.loop (loopN Tryd.f5 0)) (f5_S0 s0 x1 j2 j3)=some (Ex.exit 0,(f5_S1 s0 x1 j2 j3 b6 b7 b8 i0)))
 (h5:slc Tryd.prog 9 [Ob.cells (gQ x1)] false 0 (st s0) none (some (i6 (b7 i0))) none=some (st x62,[Ob.cells (gQ x1)]))
 (h6:cvq X call false 16 [st x62] [Ob.cells (gQ x1)] (AV.tup [AV.agg (gQ x4),i6 j5,i6 j6]))
 (h7:slc Tryd.prog 9 [Ob.cells (gQ x1),Ob.cells (gQ x4)] false 0 (st s0) none (some (i6 (b8 i0))) none=some (st x70,[Ob.cells (gQ x1),Ob.cells (gQ x4)]))
 (h8:cvq X call false 16 [st x70] [Ob.cells (gQ x1),Ob.cells (gQ x4)] (AV.tup [AV.agg (gQ x7),i6 j8,i6 j9]))
 (h9:decide (j2 ≥ 1)=true)
 (h10:decide (j2 ≤ b6 i0)=true)
 (h11:(j6 == 0)=true)
 (h12:(j9 == 3)=true)
 (h13:(j8 == j2)=true):vbody Tryd.prog X call lf fg5 Tryd.f5 (codeOf Tryd.f5) [st s0] [] 0=some (bo true,[Ob.cells (gQ x1),Ob.cells (gQ x4),Ob.cells (gQ x7)]) :=
  along_sound (ans:=[(3,Ans.v (bo true)),(11,Ans.b false),(16,Ans.v (AV.tup [AV.agg (gQ x1),i6 j2,i6 j3])),(27,Ans.b false),(37,Ans.l (Ex.exit 0) (f5_S1 s0 x1 j2 j3 b6 b7 b8 i0)),(41,Ans.v (st x62)),(42,Ans.v (AV.tup [AV.agg (gQ x4),i6 j5,i6 j6])),(54,Ans.v (st x70)),(55,Ans.v (AV.tup [AV.agg (gQ x7),i6 j8,i6 j9])),(66,Ans.b true),(73,Ans.b true),(79,Ans.b true),(85,Ans.b true),(93,Ans.b true)]) (by kernel_rfl) (ai h0 (ai h1 (ai h2 (ai h3 (ai h4 (ai h5 (ai h6 (ai h7 (ai h8 (ai h9 (ai h10 (ai h11 (ai h12 (ai h13 trivial))))))))))))))
def f5_o0 (s0:ByteArray)(j2:Int)(b6:Nat→Int)(i0:Nat)(n44:Int):Nat :=
  (match decide ((↑i0:Int)<(↑(ByteArray.size s0):Int)) with
  | true=>(match (n44 == 10) with
    | true=>(match (w6 (b6 i0 + 1) == j2) with
      | true=>(match (w6 (b6 i0 + 1) == w6 (j2 + 1)) with
        | true=>0
        | false=>0)
      | false=>(match (w6 (b6 i0 + 1) == w6 (j2 + 1)) with
        | true=>0
        | false=>0))
    | false=>0)
  | false=>1)
theorem f5_B0 (s0:ByteArray)(x1:Sgn)(j2 j3:Int)(b6 b7 b8:Nat→Int)(X:Ext)(call:Caller)(lf i0:Nat)(n44:Int)
 (g0:decide ((↑i0:Int)<(↑(ByteArray.size s0):Int))=true→kpq [Ob.cells (gQ x1)] (indexv Tryd.prog 9 (st s0) (i6 (↑i0:Int))) (AV.int IntKind.u8 n44))
 (e0:decide ((↑i0:Int)<(↑(ByteArray.size s0):Int))=true→(n44 == 10)=true→(w6 (b6 i0 + 1) == j2)=true→(w6 (b6 i0 + 1) == w6 (j2 + 1))=true→b6 (i0 + 1)=w6 (b6 i0 + 1))
 (e1:decide ((↑i0:Int)<(↑(ByteArray.size s0):Int))=true→(n44 == 10)=true→(w6 (b6 i0 + 1) == j2)=true→(w6 (b6 i0 + 1) == w6 (j2 + 1))=true→b7 (i0 + 1)=w6 ((↑i0:Int) + 1))
 (e2:decide ((↑i0:Int)<(↑(ByteArray.size s0):Int))=true→(n44 == 10)=true→(w6 (b6 i0 + 1) == j2)=true→(w6 (b6 i0 + 1) == w6 (j2 + 1))=true→b8 (i0 + 1)=w6 ((↑i0:Int) + 1))
 (e3:decide ((↑i0:Int)<(↑(ByteArray.size s0):Int))=true→(↑(i0 + 1):Int)=w6 ((↑i0:Int) + 1))
 (e4:decide ((↑i0:Int)<(↑(ByteArray.size s0):Int))=true→(n44 == 10)=true→(w6 (b6 i0 + 1) == j2)=true→(w6 (b6 i0 + 1) == w6 (j2 + 1))=false→b6 (i0 + 1)=w6 (b6 i0 + 1))
 (e5:decide ((↑i0:Int)<(↑(ByteArray.size s0):Int))=true→(n44 == 10)=true→(w6 (b6 i0 + 1) == j2)=true→(w6 (b6 i0 + 1) == w6 (j2 + 1))=false→b7 (i0 + 1)=w6 ((↑i0:Int) + 1))
 (e6:decide ((↑i0:Int)<(↑(ByteArray.size s0):Int))=true→(n44 == 10)=true→(w6 (b6 i0 + 1) == j2)=true→(w6 (b6 i0 + 1) == w6 (j2 + 1))=false→b8 (i0 + 1)=b8 i0)
 (e7:decide ((↑i0:Int)<(↑(ByteArray.size s0):Int))=true→(n44 == 10)=true→(w6 (b6 i0 + 1) == j2)=false→(w6 (b6 i0 + 1) == w6 (j2 + 1))=true→b6 (i0 + 1)=w6 (b6 i0 + 1))
 (e8:decide ((↑i0:Int)<(↑(ByteArray.size s0):Int))=true→(n44 == 10)=true→(w6 (b6 i0 + 1) == j2)=false→(w6 (b6 i0 + 1) == w6 (j2 + 1))=true→b7 (i0 + 1)=b7 i0)
 (e9:decide ((↑i0:Int)<(↑(ByteArray.size s0):Int))=true→(n44 == 10)=true→(w6 (b6 i0 + 1) == j2)=false→(w6 (b6 i0 + 1) == w6 (j2 + 1))=true→b8 (i0 + 1)=w6 ((↑i0:Int) + 1))
 (e10:decide ((↑i0:Int)<(↑(ByteArray.size s0):Int))=true→(n44 == 10)=true→(w6 (b6 i0 + 1) == j2)=false→(w6 (b6 i0 + 1) == w6 (j2 + 1))=false→b6 (i0 + 1)=w6 (b6 i0 + 1))
 (e11:decide ((↑i0:Int)<(↑(ByteArray.size s0):Int))=true→(n44 == 10)=true→(w6 (b6 i0 + 1) == j2)=false→(w6 (b6 i0 + 1) == w6 (j2 + 1))=false→b7 (i0 + 1)=b7 i0)
 (e12:decide ((↑i0:Int)<(↑(ByteArray.size s0):Int))=true→(n44 == 10)=true→(w6 (b6 i0 + 1) == j2)=false→(w6 (b6 i0 + 1) == w6 (j2 + 1))=false→b8 (i0 + 1)=b8 i0)
 (e13:decide ((↑i0:Int)<(↑(ByteArray.size s0):Int))=true→(n44 == 10)=false→b6 (i0 + 1)=b6 i0)
 (e14:decide ((↑i0:Int)<(↑(ByteArray.size s0):Int))=true→(n44 == 10)=false→b7 (i0 + 1)=b7 i0)
 (e15:decide ((↑i0:Int)<(↑(ByteArray.size s0):Int))=true→(n44 == 10)=false→b8 (i0 + 1)=b8 i0) :
    (f5_o0 s0 j2 b6 i0 n44=0→∃ Sx,vexec Tryd.prog X call lf 0 fg5 (loopN Tryd.f5 0) (f5_F0 s0 x1 j2 j3 b6 b7 b8 i0)=some (Ex.normal,Sx)∧forget f5_D0 Sx=(f5_F0 s0 x1 j2 j3 b6 b7 b8 (i0 + 1)))∧(f5_o0 s0 j2 b6 i0 n44=1→vexec Tryd.prog X call lf 0 fg5 (loopN Tryd.f5 0) (f5_F0 s0 x1 j2 j3 b6 b7 b8 i0)=some (Ex.exit 0,(f5_S1 s0 x1 j2 j3 b6 b7 b8 i0))):=by
  unfold f5_o0
  cases c0:decide ((↑i0:Int)<(↑(ByteArray.size s0):Int)) with
  | true =>
    cases c1:(n44 == 10) with
    | true =>
      cases c2:(w6 (b6 i0 + 1) == j2) with
      | true =>
        cases c3:(w6 (b6 i0 + 1) == w6 (j2 + 1)) with
        | true =>
          exact ⟨fun _=>f5_s0_tttt s0 x1 j2 j3 b6 b7 b8 X call lf i0 n44 c0 (g0 c0) c1 c2 c3 (e0 c0 c1 c2 c3) (e1 c0 c1 c2 c3) (e2 c0 c1 c2 c3) (e3 c0),fun h=>nq h⟩
        | false =>
          exact ⟨fun _=>f5_s0_tttf s0 x1 j2 j3 b6 b7 b8 X call lf i0 n44 c0 (g0 c0) c1 c2 c3 (e4 c0 c1 c2 c3) (e5 c0 c1 c2 c3) (e6 c0 c1 c2 c3) (e3 c0),fun h=>nq h⟩
      | false =>
        cases c3:(w6 (b6 i0 + 1) == w6 (j2 + 1)) with
        | true =>
          exact ⟨fun _=>f5_s0_ttft s0 x1 j2 j3 b6 b7 b8 X call lf i0 n44 c0 (g0 c0) c1 c2 c3 (e7 c0 c1 c2 c3) (e8 c0 c1 c2 c3) (e9 c0 c1 c2 c3) (e3 c0),fun h=>nq h⟩
        | false =>
          exact ⟨fun _=>f5_s0_ttff s0 x1 j2 j3 b6 b7 b8 X call lf i0 n44 c0 (g0 c0) c1 c2 c3 (e10 c0 c1 c2 c3) (e11 c0 c1 c2 c3) (e12 c0 c1 c2 c3) (e3 c0),fun h=>nq h⟩
    | false =>
      exact ⟨fun _=>f5_s0_tf s0 x1 j2 j3 b6 b7 b8 X call lf i0 n44 c0 (g0 c0) c1 (e13 c0 c1) (e14 c0 c1) (e15 c0 c1) (e3 c0),fun h=>nq h⟩
  | false =>
    exact ⟨fun h=>nq h,fun _=>f5_r0_f s0 x1 j2 j3 b6 b7 b8 X call lf i0 c0⟩
end Go.Proofs.Sig
end
/- Signature: the law of the first wrong line. -/
section
open Go Go.Vm Go.Proofs
namespace Go.Proofs.Sig
/-- What the loop has counted: the lines, where the line n begins, where it ends. -/
def cB (t:ByteArray) (n:Nat):Nat→Nat × Nat × Nat
  | 0=>(1,0,t.size)
  | i + 1=>if byteN t i=10 then ((cB t n i).1 + 1,if (cB t n i).1 + 1=n then i + 1 else (cB t n i).2.1,if (cB t n i).1 + 1=n + 1 then i + 1 else (cB t n i).2.2) else cB t n i
theorem cB10 {t:ByteArray} {n i:Nat} (h:byteN t i=10):cB t n (i + 1)=((cB t n i).1 + 1,if (cB t n i).1 + 1=n then i + 1 else (cB t n i).2.1,if (cB t n i).1 + 1=n + 1 then i + 1 else (cB t n i).2.2):=if_pos h
theorem cB0 {t:ByteArray} {n i:Nat} (h : ¬ byteN t i=10):cB t n (i + 1)=cB t n i:=if_neg h
theorem slcT {s:ByteArray} {k:Nat} {dr:Bool} {σ:List Ob} (h:k ≤ s.size):slc Tryd.prog 9 σ dr 0 (st s) none (some (i6 (k:Int))) none=some (st (bytesB (s.data.toList.take k)),σ):=by
  have e:s.extract 0 k=bytesB (s.data.toList.take k):=by rw [ex_mk,List.drop_zero]
  rw [← e]
  unfold slc cutOwn byValue1 slicev
  rw [Tryd.underlying9]
  have h2:(k:Int) ≤ (s.size:Int):=by omega
  cases dr <;> simp [AV.owns,boundv,keep,h]
variable [Fixed] {X:Ext}
theorem hit_pref {l:List UInt8} {i:Nat} (hi:i < l.length) (h:l[i]=10):(pref (spl 10 l) (spl 10 (l.take i)).length).length=i + 1:=by
  have e : spl 10 l = spl 10 (l.take i) ++ spl 10 (l.drop (i + 1)) := by
    rw [← spl_app,← h,← List.drop_eq_getElem_cons hi,List.take_append_drop]
  unfold pref
  rw [e,List.take_left,spl_sum,List.length_append,List.length_take]
  simp only [List.length_cons,List.length_nil]
  omega
theorem cB_inv {t:ByteArray} {n:Nat} (hn:1 ≤ n):∀ i,i ≤ t.size→(cB t n i).1=(spl 10 (t.data.toList.take i)).length∧((cB t n i).1 < n→(cB t n i).2.1=0)∧(n ≤ (cB t n i).1→(cB t n i).2.1=(pref (spl 10 t.data.toList) (n - 1)).length)∧((cB t n i).1 < n + 1→(cB t n i).2.2=t.size)∧(n + 1 ≤ (cB t n i).1→(cB t n i).2.2=(pref (spl 10 t.data.toList) n).length)
  | 0, _ => by
    refine ⟨rfl,fun _=>rfl,fun h => ?_,fun _=>rfl,fun h => ?_⟩
    · have : n = 1 := by have : n ≤ 1 := h; omega
      subst this; rfl
    · have : n + 1 ≤ 1 := h
      omega
  | i + 1, hi => by
    obtain ⟨h1,h2,h3,h4,h5⟩:=cB_inv (t:=t) hn i (by omega)
    have hl:=size_list t
    have hil:i < t.data.toList.length:=by omega
    have hs:=spl_snoc 10 t.data.toList[i] (t.data.toList.take i)
    rw [← List.take_succ_eq_append_getElem hil] at hs
    by_cases hb:byteN t i=10
    · have hb8 : t.data.toList[i] = 10 := UInt8.toNat_inj.1 (by rw [← byteN_list hil, hb]; rfl)
      have hp:=hit_pref hil hb8
      rw [← h1] at hp
      rw [if_pos hb8] at hs
      rw [cB10 hb]
      refine ⟨by rw [hs,List.length_append,h1]; rfl,fun h => ?_,fun h => ?_,fun h => ?_,fun h => ?_⟩
      · simp only at h ⊢
        rw [if_neg (by omega)]; exact h2 (by omega)
      · simp only at h ⊢
        by_cases e:(cB t n i).1 + 1=n
        · rw [if_pos e,← hp]; congr 2; omega
        · rw [if_neg e]; exact h3 (by omega)
      · simp only at h ⊢
        rw [if_neg (by omega)]; exact h4 (by omega)
      · simp only at h ⊢
        by_cases e:(cB t n i).1 + 1=n + 1
        · rw [if_pos e,← hp]; congr 2; omega
        · rw [if_neg e]; exact h5 (by omega)
    · have hb8 : ¬ t.data.toList[i] = 10 := fun e => hb (by rw [byteN_list hil, e]; rfl)
      rw [if_neg hb8] at hs
      have hne:=List.length_pos_iff.2 (spl_ne 10 (t.data.toList.take i))
      rw [cB0 hb]
      refine ⟨by rw [hs,List.length_append,List.length_dropLast,h1]; simp only [List.length_cons,List.length_nil]; omega,h2,h3,h4,h5⟩
section
variable (hX:ExtOk Tryd.prog X) (hM:XS X) (ha:∀ f,X.adopt f=false)
include hX hM ha
theorem law5 (t:ByteArray):CallAt Tryd.prog 5 [st t] [] 0 (bo true) []:=by
  have hC:CallOk Tryd.prog (callerOf S4):=callerOf_ok (S4_ok hX hM ha)
  have hbig:big=140737488355328:=rfl
  have c12:=cAt hM ha (call:=callerOf S4) (B:=aB) (dr:=false) (σ:=[]) rfl rfl (caller_at S4_12)
  suffices hv : ∃ σ', vbody Tryd.prog X (callerOf S4) 1000 fg5 Tryd.f5 (codeOf Tryd.f5) [st t] [] 0 = some (bo true, σ') by
    obtain ⟨σ',hv⟩:=hv
    exact run_res (B:=aB) (y:=true) hX hC (hM.dom 5 rfl rfl) Tryd.func5 (by kernel_rfl) hv rfl
  cases hs:decide ((↑t.size:Int) > 400) with
  | true=>exact ⟨_,f5_pt t X (callerOf S4) 1000 c12 hs c12⟩
  | false =>
    have ht4:t.size ≤ 400:=by have:=of_decide_eq_false hs; omega
    have hmega:mega=1000000:=rfl
    have ht:t.size ≤ mega:=by omega
    have hl:=size_list t
    have c16 : ∀ (s : ByteArray) (σ : List Ob), s.size ≤ mega → callv X (callerOf S4) false 16 [st s] σ 0 = some (.tup [.agg (sgnC (parseF s).1), i6 (parseF s).2.1, i6 (parseF s).2.2], σ) := fun s σ h => by
      have:=cAt hM ha (call:=callerOf S4) (B:=aR) (dr:=false) (σ:=σ) rfl rfl (caller_at (S4_S3 (S3_16 h) rfl))
      rw [show parseF s=((parseF s).1,(parseF s).2.1,(parseF s).2.2) from rfl,aR_enc] at this
      exact this
    rcases parse_kind (spl 10 t.data.toList) eG 0 with ⟨e0,n0⟩ | ⟨k,hk,h1,h2,h3⟩
    · have e0 : (parseF t).2.2 = 0 := e0
      have n0:(parseF t).2.1=0:=n0
      have:=c16 t [] ht
      exact ⟨_,f5_pftt t _ _ _ X (callerOf S4) 1000 c12 hs this (by rw [e0]; rfl) (by rw [n0]; rfl)⟩
    · have h1 : parseF t = (eG, ((↑(0 + k + 1) : Nat) : Int), 3) := h1
      rw [Nat.zero_add] at h1
      rw [Nat.zero_add] at h3
      have hps:=spl_len_le 10 t.data.toList
      let n:=k + 1
      have c:=c16 t [] ht
      rw [h1] at c
      have hcl : ∀ i, i ≤ t.size → (cB t n i).1 ≤ 401 := fun i hi => by
        rw [(cB_inv (n:=n) (by omega) i hi).1]
        have:=spl_len_le 10 (t.data.toList.take i)
        have hh:(t.data.toList.take i).length ≤ i:=List.length_take_le _ _
        omega
      have hw : ∀ i, i ≤ t.size → w6 (((cB t n i).1 : Int) + 1) = (((cB t n i).1 + 1 : Nat) : Int) := fun i hi => by
        have:=hcl i hi
        rw [w6_id (by omega) (by omega)]; rfl
      have hwn : w6 ((↑n : Int) + 1) = ((n + 1 : Nat) : Int) := by
        rw [w6_id (by omega) (by show ((k + 1:Nat):Int) + 1 ≤ _; omega)]; rfl
      have k1 : ∀ {i : Nat}, ((byteN t i : Int) == 10) = decide (byteN t i = 10) := fun {i} => by
        rw [Bool.eq_iff_iff,beq_iff_eq,decide_eq_true_iff]; omega
      have k2 : ∀ i, i ≤ t.size → (w6 (((cB t n i).1 : Int) + 1) == (↑n : Int)) = decide ((cB t n i).1 + 1 = n) := fun i hi => by
        rw [hw i hi,Bool.eq_iff_iff,beq_iff_eq,decide_eq_true_iff]; omega
      have k3 : ∀ i, i ≤ t.size → (w6 (((cB t n i).1 : Int) + 1) == w6 ((↑n : Int) + 1)) = decide ((cB t n i).1 + 1 = n + 1) := fun i hi => by
        rw [hw i hi,hwn,Bool.eq_iff_iff,beq_iff_eq,decide_eq_true_iff]; omega
      have B0 := fun i => f5_B0 t eG (↑n) 3 (fun i => ((cB t n i).1 : Int)) (fun i => ((cB t n i).2.1 : Int)) (fun i => ((cB t n i).2.2 : Int)) X (callerOf S4) 1000 i (byteN t i : Int)
        (fun h=>at_byte (dlt h))
        (fun h h1 h2 h3 => by
          rw [k1] at h1
          show ((cB t n (i + 1)).1:Int)=_
          rw [cB10 (of_decide_eq_true h1)]
          exact (hw i (by have:=dlt h; omega)).symm)
        (fun h h1 h2 h3 => by
          rw [k1] at h1
          show ((cB t n (i + 1)).2.1:Int)=_
          rw [cB10 (of_decide_eq_true h1)]
          rw [k2 i (by have:=dlt h; omega)] at h2
          rw [if_pos (of_decide_eq_true h2)]
          exact up (dlt h) (by omega))
        (fun h h1 h2 h3 => by
          rw [k1] at h1
          show ((cB t n (i + 1)).2.2:Int)=_
          rw [cB10 (of_decide_eq_true h1)]
          rw [k3 i (by have:=dlt h; omega)] at h3
          rw [if_pos (of_decide_eq_true h3)]
          exact up (dlt h) (by omega))
        (fun h=>up (dlt h) (by omega))
        (fun h h1 h2 h3 => by
          rw [k1] at h1
          show ((cB t n (i + 1)).1:Int)=_
          rw [cB10 (of_decide_eq_true h1)]
          exact (hw i (by have:=dlt h; omega)).symm)
        (fun h h1 h2 h3 => by
          rw [k1] at h1
          show ((cB t n (i + 1)).2.1:Int)=_
          rw [cB10 (of_decide_eq_true h1)]
          rw [k2 i (by have:=dlt h; omega)] at h2
          rw [if_pos (of_decide_eq_true h2)]
          exact up (dlt h) (by omega))
        (fun h h1 h2 h3 => by
          rw [k1] at h1
          show ((cB t n (i + 1)).2.2:Int)=_
          rw [cB10 (of_decide_eq_true h1)]
          rw [k3 i (by have:=dlt h; omega)] at h3
          rw [if_neg (of_decide_eq_false h3)])
        (fun h h1 h2 h3 => by
          rw [k1] at h1
          show ((cB t n (i + 1)).1:Int)=_
          rw [cB10 (of_decide_eq_true h1)]
          exact (hw i (by have:=dlt h; omega)).symm)
        (fun h h1 h2 h3 => by
          rw [k1] at h1
          show ((cB t n (i + 1)).2.1:Int)=_
          rw [cB10 (of_decide_eq_true h1)]
          rw [k2 i (by have:=dlt h; omega)] at h2
          rw [if_neg (of_decide_eq_false h2)])
        (fun h h1 h2 h3 => by
          rw [k1] at h1
          show ((cB t n (i + 1)).2.2:Int)=_
          rw [cB10 (of_decide_eq_true h1)]
          rw [k3 i (by have:=dlt h; omega)] at h3
          rw [if_pos (of_decide_eq_true h3)]
          exact up (dlt h) (by omega))
        (fun h h1 h2 h3 => by
          rw [k1] at h1
          show ((cB t n (i + 1)).1:Int)=_
          rw [cB10 (of_decide_eq_true h1)]
          exact (hw i (by have:=dlt h; omega)).symm)
        (fun h h1 h2 h3 => by
          rw [k1] at h1
          show ((cB t n (i + 1)).2.1:Int)=_
          rw [cB10 (of_decide_eq_true h1)]
          rw [k2 i (by have:=dlt h; omega)] at h2
          rw [if_neg (of_decide_eq_false h2)])
        (fun h h1 h2 h3 => by
          rw [k1] at h1
          show ((cB t n (i + 1)).2.2:Int)=_
          rw [cB10 (of_decide_eq_true h1)]
          rw [k3 i (by have:=dlt h; omega)] at h3
          rw [if_neg (of_decide_eq_false h3)])
        (fun h h1 => by
          rw [k1] at h1
          show ((cB t n (i + 1)).1:Int)=_
          rw [cB0 (of_decide_eq_false h1)])
        (fun h h1 => by
          rw [k1] at h1
          show ((cB t n (i + 1)).2.1:Int)=_
          rw [cB0 (of_decide_eq_false h1)])
        (fun h h1 => by
          rw [k1] at h1
          show ((cB t n (i + 1)).2.2:Int)=_
          rw [cB0 (of_decide_eq_false h1)])
      have ho : ∀ i, (i < t.size → f5_o0 t (↑n) (fun i => ((cB t n i).1 : Int)) i (byteN t i : Int) = 0) ∧ (t.size ≤ i → f5_o0 t (↑n) (fun i => ((cB t n i).1 : Int)) i (byteN t i : Int) = 1) := fun i => by
        unfold f5_o0
        refine ⟨fun a => ?_,fun a => ?_⟩
        · rw [dt a]
          cases ((byteN t i:Int) == 10) with
          | false=>rfl
          | true =>
            cases (w6 (((cB t n i).1:Int) + 1) == (↑n:Int)) <;> cases (w6 (((cB t n i).1:Int) + 1) == w6 ((↑n:Int) + 1)) <;> rfl
        · rw [df a]
      have L:=f5_L0 t eG (↑n) 3 (fun i=>((cB t n i).1:Int)) (fun i=>((cB t n i).2.1:Int)) (fun i=>((cB t n i).2.2:Int)) X (callerOf S4) 1000 t.size _ _ rfl rfl rfl (by omega) (fun j hj=>(B0 j).1 ((ho j).1 hj)) ((B0 _).2 ((ho _).2 (Nat.le_refl _))) (by simp)
      obtain ⟨v1,_,v3,v4,v5⟩:=cB_inv (t:=t) (n:=n) (by omega) t.size (Nat.le_refl _)
      have hfull:t.data.toList.take t.size=t.data.toList:=by rw [hl,List.take_length]
      rw [hfull] at v1
      have e7:=v3 (by omega)
      rw [show n - 1=k from rfl] at e7
      obtain ⟨p1,p2⟩:=pref_take t.data.toList hk
      have hb7:(cB t n t.size).2.1 ≤ t.size:=by omega
      have hb7s:∀ σ,slc Tryd.prog 9 σ false 0 (st t) none (some (i6 ((cB t n t.size).2.1:Int))) none=some (st (bytesB (t.data.toList.take (cB t n t.size).2.1)),σ):=fun σ=>slcT hb7
      have hb8 : (cB t n t.size).2.2 ≤ t.size ∧ parseF (bytesB (t.data.toList.take (cB t n t.size).2.2)) = (eG, ((↑(k + 1) : Nat) : Int), 3) := by
        by_cases hlast:k + 1 < (spl 10 t.data.toList).length
        · have e8 := v5 (by omega)
          obtain ⟨q1,q2⟩:=pref_take t.data.toList hlast
          rw [e8]
          refine ⟨by show (pref _ (k + 1)).length ≤ _; omega,?_⟩
          show parseLs eG 0 (spl 10 (t.data.toList.take (pref _ (k + 1)).length))=_
          rw [q2,spl_pref]
          exact h3 hlast
        · have e8 := v4 (by omega)
          rw [e8,hfull]
          exact ⟨Nat.le_refl _,h1⟩
      have hok7 : (parseF (bytesB (t.data.toList.take (cB t n t.size).2.1))).2.2 = 0 := by
        rw [e7]
        show (parseLs eG 0 (spl 10 (t.data.toList.take (pref _ k).length))).2.2=0
        rw [p2,spl_pref]
        exact h2
      have hsz : ∀ j, j ≤ t.size → (bytesB (t.data.toList.take j)).size ≤ mega := fun j hj => by
        rw [bytesB_size]
        have hh:(t.data.toList.take j).length ≤ j:=List.length_take_le _ _
        omega
      have ca:=c16 _ [Ob.cells (sgnC eG)] (hsz _ hb7)
      have cb:=c16 _ [Ob.cells (sgnC eG),Ob.cells (sgnC (parseF (bytesB (t.data.toList.take (cB t n t.size).2.1))).1)] (hsz _ hb8.1)
      rw [hb8.2] at cb
      exact ⟨_,f5_pfflfttttt t eG (↑n) 3 (fun i=>((cB t n i).1:Int)) (fun i=>((cB t n i).2.1:Int)) (fun i=>((cB t n i).2.2:Int)) _ _ _ eG (↑n) 3 X (callerOf S4) 1000 t.size _ _ c12 hs c rfl L (hb7s _) ca (slcT hb8.1) cb (decide_eq_true (by omega)) (decide_eq_true (by show (↑n:Int) ≤ ((cB t n t.size).1:Int); omega)) (by rw [hok7]; rfl) rfl (by simp)⟩
end
end Go.Proofs.Sig
end
