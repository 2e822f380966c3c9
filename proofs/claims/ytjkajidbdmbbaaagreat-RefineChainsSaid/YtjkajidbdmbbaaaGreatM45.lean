/- Parts. -/
import Derived.Test.YtjkajidbdmbbaaaGreatM05
set_option linter.unusedSimpArgs false
set_option linter.unusedVariables false
set_option maxRecDepth 100000
set_option maxHeartbeats 16000000
namespace Go.Proofs.YtjkajidbdmbbaaaGreat
section
namespace Rf
open Rn Ref
def likeL:List Int->List Int->Bool
 | [],[]=>true
 | x::a,y::b=>(decide (x=-1) || decide (x=y)) && likeL a b
 | _,_=>false
def likeM:List (List Int)->List (List Int)->Bool
 | [],[]=>true
 | x::a,y::b=>likeL x y && likeM a b
 | _,_=>false
def permits (s t:Out):Bool :=
 if s.kind=1 then true
 else if s.kind=2 then decide (t.kind=2)
 else if s.kind≠0\/t.kind≠0 then false
 else if s.ret.p=false/\s.ret≠t.ret then false
 else likeM s.mem t.mem
def permitsAll (s t:List Out):Bool:=s.any (fun x=>decide (x.kind=1)) || t.all fun y=>s.any fun x=>permits x y
theorem likeL_trans:∀{a b c:List Int},likeL a b=true->likeL b c=true->likeL a c=true
 | [],[],[],_,_=>rfl
 | [],[],_::_,_,h=>by simp[likeL]at h
 | [],_::_,_,h,_=>by simp[likeL]at h
 | _::_,[],_,h,_=>by simp[likeL]at h
 | _::_,_::_,[],_,h=>by simp[likeL]at h
 | x::a,y::b,z::c,h,k=>by
  simp only[likeL,sX,Bool.or_eq_true,decide_eq_true_eq]at h k ⊢
  exact⟨by omega,likeL_trans h.2 k.2⟩
theorem likeM_trans:∀{a b c:List (List Int)},likeM a b=true->likeM b c=true->likeM a c=true
 | [],[],[],_,_=>rfl
 | [],[],_::_,_,h=>by simp[likeM]at h
 | [],_::_,_,h,_=>by simp[likeM]at h
 | _::_,[],_,h,_=>by simp[likeM]at h
 | _::_,_::_,[],_,h=>by simp[likeM]at h
 | x::a,y::b,z::c,h,k=>by
  simp only[likeM,sX]at h k ⊢
  exact⟨likeL_trans h.1 k.1,likeM_trans h.2 k.2⟩
theorem permits_undef {s t:Out}(h:permits s t=true)(ht:t.kind=1):s.kind=1:=by
 unfold permits at h;split at h
 ·assumption
 ·split at h
  ·simp at h;omega
  ·split at h
   ·cases h
   ·omega
theorem permits_trans {s t u:Out}(h:permits s t=true)(k:permits t u=true):permits s u=true:=by
 by_cases d:s.kind=1
 ·unfold permits;rw[sU d]
 by_cases g:s.kind=2
 ·unfold permits at h;rw[sV d,sU g]at h;have y:t.kind=2:=by simpa using h
  unfold permits at k;rw[sV (by omega),sU y]at k;unfold permits;rw[sV d,sU g,k]
 unfold permits at h;rw[sV d,sV g]at h;split at h
 ·cases h
 ·rename_i l;split at h
  ·cases h
  ·rename_i p;have t0:t.kind=0:=Classical.byContradiction fun q=>l (.inr q);have z:s.kind=0:=Classical.byContradiction fun q=>l (.inl q);unfold permits at k;rw[sV (by omega),sV (by omega)]at k;split at k
   ·cases k
   ·rename_i d1;split at k
    ·cases k
    ·rename_i d2;have A:u.kind=0:=Classical.byContradiction fun q=>d1 (.inr q);unfold permits;rw[sV d,sV g,sV (by omega),sV,likeM_trans h k];rintro⟨j,m⟩;have r:s.ret=t.ret:=Classical.byContradiction fun q=>p ⟨j,q⟩;rw[r]at j m;exact d2 ⟨j,m⟩
theorem permitsAll_trans {s t u:List Out}(h:permitsAll s t=true)(k:permitsAll t u=true):permitsAll s u=true:=by
 unfold permitsAll at *;simp only[Bool.or_eq_true,tt,sP,decide_eq_true_eq]at *;rcases h with h|h
 ·exact .inl h
 ·rcases k with ⟨y,g,e⟩|k
  ·obtain⟨x,d,p⟩:=h y g;exact .inl ⟨x,d,permits_undef p e⟩
  ·refine .inr fun z j=>?_;obtain⟨y,g,p⟩:=k z j;obtain⟨x,d,q⟩:=h y g;exact⟨x,d,permits_trans q p⟩
theorem likeL_refl:∀a:List Int,likeL a a=true
 | []=>rfl
 | x::a=>by simp[likeL,likeL_refl a]
theorem likeM_refl:∀a:List (List Int),likeM a a=true
 | []=>rfl
 | x::a=>by simp[likeM,likeL_refl x,likeM_refl a]
theorem permits_refl {s:Out}(h:0<=s.kind/\s.kind<=2):permits s s=true:=by
 unfold permits;by_cases g:s.kind=1
 ·rw[sU g]
 rw[sV g];by_cases d:s.kind=2
 ·rw[sU d];simpa using d
 rw[sV d,sV (by omega),sV (by simp),likeM_refl]
def argsOf:List Int->Int->List Int
 | [],_=>[]
 | n::r,k=>k%Wd.sz n::argsOf r (k / Wd.sz n)
def input (f:Fn)(k:Int):Inp:=⟨(argsOf f.params.reverse k).reverse,f.slots.map fun n=>List.replicate n.toNat 0⟩
def atI (f g:Fn)(i:Inp):Option Bool :=
 match Rn.all f i,Rn.all g i with
 | some s,some t=>some (permitsAll s t)
 | _,_=>none
def first (f g:Fn):Nat->Nat->Option Nat
 | 0,_=>none
 | n+1,k=>if atI f g (input f k)=some true then first f g n (k+1) else some k
def sumF (fl:Int):Fn:=⟨[4,4],4,[],[[⟨1,4,fl,[0,1],0,[]⟩,⟨31,0,0,[2],0,[]⟩]]⟩
def bitsOf:List Int->Int
 | []=>0
 | w::r=>w+bitsOf r
def prodSz:List Int->Int
 | []=>1
 | w::r=>Wd.sz w*prodSz r
theorem argsOf_snoc (w:Int):∀(l:List Int)(k:Int),argsOf (l++[w]) k=argsOf l k++[k / prodSz l%Wd.sz w]
 | [],k=>by simp[argsOf,prodSz]
 | n::r,k=>by rw[List.cons_append,argsOf,argsOf,argsOf_snoc w r,List.cons_append,prodSz,Int.ediv_ediv_of_nonneg (Int.le_of_lt (Wd.sz_pos n))]
theorem prod_bits:∀l:List Int,(∀w∈l,0<=w)->0<=bitsOf l/\prodSz l=Wd.sz (bitsOf l)
 | [],_=>⟨Int.le_refl 0,rfl⟩
 | w::r,h=>by
  obtain⟨g,j⟩:=prod_bits r fun x hx=>h x (by simp[hx])
  have d:=h w (by simp);refine⟨by unfold bitsOf;omega,?_⟩;rw[prodSz,j,bitsOf];unfold Wd.sz;rw[Int.toNat_add d g,Int.pow_add]
theorem prod_append:∀a b:List Int,prodSz (a++b)=prodSz a*prodSz b
 | [],b=>by simp[prodSz]
 | w::r,b=>by rw[List.cons_append,prodSz,prodSz,prod_append r b,Int.mul_assoc]
theorem prod_rev:∀l:List Int,prodSz l.reverse=prodSz l
 | []=>rfl
 | w::r=>by rw[List.reverse_cons,prod_append,prod_rev r,prodSz,prodSz,prodSz,Int.mul_one,Int.mul_comm]
def argsP (k:Int):List Int->List Int
 | []=>[]
 | w::r=>k / Wd.sz (bitsOf r)%Wd.sz w::argsP k r
theorem argsP_eq (k:Int):∀l:List Int,(∀w∈l,0<=w)->argsP k l=(argsOf l.reverse k).reverse
 | [],_=>rfl
 | w::r,h=>by
  have g:=prod_bits r fun x d=>h x (by simp[d])
  rw[List.reverse_cons,argsOf_snoc,List.reverse_append,prod_rev,g.2,argsP,argsP_eq k r fun x d=>h x (by simp[d])];rfl
end Rf
end
section
namespace Rn
open Ref
end Rn
end
section
def Ref.alikeB (f g:Fn):Bool:=decide (f.params=g.params) && (f.ret == g.ret) && decide (f.slots=g.slots)
def Ref.alikeE (f g:Fn):Int:=if Ref.validate f=0 then Ref.validate g else Ref.validate f
def Ref.alikeR (f g:Fn):Bool:=if Ref.alikeE f g=0 then Ref.alikeB f g else false
namespace Rf
open Rn Ref
def alikeX (f g:Fn):Int:=if alikeE f g≠0 then alikeE f g else if alikeB f g=false then 5 else 0
def allE (f:Fn)(i:Inp):Int:=if validInput f i≠0 then validInput f i else if all f i=none then 3 else 0
def bothE (f g:Fn)(i:Inp):Int:=if alikeX f g≠0 then alikeX f g else if allE f i≠0 then allE f i else allE g i
def outsOf (f:Fn)(i:Inp):List Out:=(all f i).getD []
def atB (f g:Fn)(i:Inp):Bool:=permitsAll (outsOf f i) (outsOf g i)
theorem alikeX_zero {f g:Fn}(h:alikeX f g=0):validate f=0/\validate g=0/\f.params=g.params/\f.ret=g.ret/\f.slots=g.slots:=by
 unfold alikeX alikeE at h;by_cases d:validate f=0
 ·by_cases j:validate g=0
  ·rw[sU d,sV (by simp[j])]at h
   cases h3:alikeB f g with
   | false=>rw[h3]at h;simp at h
   | true =>
    unfold alikeB at h3;simp only[sX,decide_eq_true_eq,beq_iff_eq]at h3;exact⟨d,j,h3.1.1,h3.1.2,h3.2⟩
  ·rw[sU d,sU j]at h;exact absurd h j
 ·rw[sV d,sU d]at h;exact absurd h d
theorem alikeX_of {f g:Fn}(h:validate f=0/\validate g=0/\f.params=g.params/\f.ret=g.ret/\f.slots=g.slots):alikeX f g=0:=by obtain⟨d,j,l,m,p⟩:=h;unfold alikeX alikeE alikeB;simp[d,j,l,m,p]
theorem alikeX_trans {f g h:Fn}(h1:alikeX f g=0)(h2:alikeX g h=0):alikeX f h=0:=by obtain⟨d,r,a3,a4,j⟩:=alikeX_zero h1;obtain⟨t,l,m,p,q⟩:=alikeX_zero h2;exact alikeX_of ⟨d,l,a3.trans m,a4.trans p,j.trans q⟩
theorem bothE_zero {f g:Fn}{i:Inp}(h:bothE f g i=0):alikeX f g=0/\allE f i=0/\allE g i=0:=by
 unfold bothE at h;by_cases d:alikeX f g=0
 ·by_cases j:allE f i=0
  ·simp[d,j]at h;exact⟨d,j,h⟩
  ·rw[sV (by simp[d]),sU j]at h;exact absurd h j
 ·rw[sU d]at h;exact absurd h d
theorem bothE_of {f g:Fn}{i:Inp}(h1:alikeX f g=0)(h2:allE f i=0)(h3:allE g i=0):bothE f g i=0:=by unfold bothE;simp[h1,h2,h3]
theorem bothE_trans {f g h:Fn}{i:Inp}(h1:bothE f g i=0)(h2:bothE g h i=0):bothE f h i=0:=by obtain⟨d,j,a3⟩:=bothE_zero h1;obtain⟨l,p,m⟩:=bothE_zero h2;exact bothE_of (alikeX_trans d l) j m
theorem atB_trans {f g h:Fn}{i:Inp}(h1:atB f g i=true)(h2:atB g h i=true):atB f h i=true:=permitsAll_trans h1 h2
def inputsE (f:Fn):Int:=if validate f≠0 then validate f else if 8<bitsOf f.params then 3 else 0
def inputsN (f:Fn):Int:=if inputsE f=0 then Wd.sz (bitsOf f.params) else 0
def firstFrom (f g:Fn):Nat->Nat->Int × Bool × Int
 | 0,_=>(0,false,0)
 | n+1,k=>if bothE f g (input f k)≠0 then (0,false,bothE f g (input f k)) else if atB f g (input f k)=true then firstFrom f g n (k+1) else (k,true,0)
def firstR (f g:Fn):Int × Bool × Int :=
 if alikeX f g≠0 then (0,false,alikeX f g) else if inputsE f≠0 then (0,false,inputsE f) else firstFrom f g (inputsN f).toNat 0
theorem k_yes:firstR (sumF 2) (sumF 0)=(0,false,0):=by decide +kernel
theorem k_no:firstR (sumF 0) (sumF 2)=(23,true,0):=by decide +kernel
theorem k_inputs:inputsE (sumF 0)=0/\inputsN (sumF 0)=256:=by decide +kernel
end Rf
end
