/- Parts. -/
import Derived.Test.YtjkajidbdmbbaaaGreatI05
set_option linter.unusedSimpArgs false
set_option linter.unusedVariables false
set_option maxRecDepth 100000
set_option maxHeartbeats 16000000
namespace Go.Proofs.YtjkajidbdmbbaaaGreat
section
namespace Rf
open Rn Ref
def likeL:List Int->List Int->Bool
 | [],[]=>true
 | x::a,y::b=>(decide (x=-1) || decide (x=y)) && likeL a b
 | _,_=>false
def likeM:List (List Int)->List (List Int)->Bool
 | [],[]=>true
 | x::a,y::b=>likeL x y && likeM a b
 | _,_=>false
def permits (s t:Out):Bool :=
 if s.kind=1 then true
 else if s.kind=2 then decide (t.kind=2)
 else if s.kind≠0\/t.kind≠0 then false
 else if s.ret.p=false/\s.ret≠t.ret then false
 else likeM s.mem t.mem
def permitsAll (s t:List Out):Bool:=s.any (fun x=>decide (x.kind=1)) || t.all fun y=>s.any fun x=>permits x y
def argsOf:List Int->Int->List Int
 | [],_=>[]
 | n::r,k=>k%Wd.sz n::argsOf r (k / Wd.sz n)
def input (f:Fn)(k:Int):Inp:=⟨(argsOf f.params.reverse k).reverse,f.slots.map fun n=>List.replicate n.toNat 0⟩
def atI (f g:Fn)(i:Inp):Option Bool :=
 match Rn.all f i,Rn.all g i with
 | some s,some t=>some (permitsAll s t)
 | _,_=>none
def first (f g:Fn):Nat->Nat->Option Nat
 | 0,_=>none
 | n+1,k=>if atI f g (input f k)=some true then first f g n (k+1) else some k
def sumF (fl:Int):Fn:=⟨[4,4],4,[],[[⟨1,4,fl,[0,1],0,[]⟩,⟨31,0,0,[2],0,[]⟩]]⟩
def bitsOf:List Int->Int
 | []=>0
 | w::r=>w+bitsOf r
def prodSz:List Int->Int
 | []=>1
 | w::r=>Wd.sz w*prodSz r
theorem argsOf_snoc (w:Int):∀(l:List Int)(k:Int),argsOf (l++[w]) k=argsOf l k++[k / prodSz l%Wd.sz w]
 | [],k=>by simp[argsOf,prodSz]
 | n::r,k=>by rw[List.cons_append,argsOf,argsOf,argsOf_snoc w r,List.cons_append,prodSz,Int.ediv_ediv_of_nonneg (Int.le_of_lt (Wd.sz_pos n))]
theorem prod_bits:∀l:List Int,(∀w∈l,0<=w)->0<=bitsOf l/\prodSz l=Wd.sz (bitsOf l)
 | [],_=>⟨Int.le_refl 0,rfl⟩
 | w::r,h=>by
  obtain⟨g,j⟩:=prod_bits r fun x hx=>h x (by simp[hx])
  have d:=h w (by simp);refine⟨by unfold bitsOf;omega,?_⟩;rw[prodSz,j,bitsOf];unfold Wd.sz;rw[Int.toNat_add d g,Int.pow_add]
theorem prod_append:∀a b:List Int,prodSz (a++b)=prodSz a*prodSz b
 | [],b=>by simp[prodSz]
 | w::r,b=>by rw[List.cons_append,prodSz,prodSz,prod_append r b,Int.mul_assoc]
theorem prod_rev:∀l:List Int,prodSz l.reverse=prodSz l
 | []=>rfl
 | w::r=>by rw[List.reverse_cons,prod_append,prod_rev r,prodSz,prodSz,prodSz,Int.mul_one,Int.mul_comm]
def argsP (k:Int):List Int->List Int
 | []=>[]
 | w::r=>k / Wd.sz (bitsOf r)%Wd.sz w::argsP k r
theorem argsP_eq (k:Int):∀l:List Int,(∀w∈l,0<=w)->argsP k l=(argsOf l.reverse k).reverse
 | [],_=>rfl
 | w::r,h=>by
  have g:=prod_bits r fun x d=>h x (by simp[d])
  rw[List.reverse_cons,argsOf_snoc,List.reverse_append,prod_rev,g.2,argsP,argsP_eq k r fun x d=>h x (by simp[d])];rfl
end Rf
end
section
namespace Rn
open Ref
end Rn
end
section
def Ref.alikeB (f g:Fn):Bool:=decide (f.params=g.params) && (f.ret == g.ret) && decide (f.slots=g.slots)
def Ref.alikeE (f g:Fn):Int:=if Ref.validate f=0 then Ref.validate g else Ref.validate f
def Ref.alikeR (f g:Fn):Bool:=if Ref.alikeE f g=0 then Ref.alikeB f g else false
namespace Rf
open Rn Ref
def alikeX (f g:Fn):Int:=if alikeE f g≠0 then alikeE f g else if alikeB f g=false then 5 else 0
def allE (f:Fn)(i:Inp):Int:=if validInput f i≠0 then validInput f i else if all f i=none then 3 else 0
def bothE (f g:Fn)(i:Inp):Int:=if alikeX f g≠0 then alikeX f g else if allE f i≠0 then allE f i else allE g i
def outsOf (f:Fn)(i:Inp):List Out:=(all f i).getD []
def atB (f g:Fn)(i:Inp):Bool:=permitsAll (outsOf f i) (outsOf g i)
def inputsE (f:Fn):Int:=if validate f≠0 then validate f else if 8<bitsOf f.params then 3 else 0
def inputsN (f:Fn):Int:=if inputsE f=0 then Wd.sz (bitsOf f.params) else 0
def firstFrom (f g:Fn):Nat->Nat->Int × Bool × Int
 | 0,_=>(0,false,0)
 | n+1,k=>if bothE f g (input f k)≠0 then (0,false,bothE f g (input f k)) else if atB f g (input f k)=true then firstFrom f g n (k+1) else (k,true,0)
def firstR (f g:Fn):Int × Bool × Int :=
 if alikeX f g≠0 then (0,false,alikeX f g) else if inputsE f≠0 then (0,false,inputsE f) else firstFrom f g (inputsN f).toNat 0
theorem k_yes:firstR (sumF 2) (sumF 0)=(0,false,0):=by decide +kernel
theorem k_no:firstR (sumF 0) (sumF 2)=(23,true,0):=by decide +kernel
theorem k_inputs:inputsE (sumF 0)=0/\inputsN (sumF 0)=256:=by decide +kernel
end Rf
end
