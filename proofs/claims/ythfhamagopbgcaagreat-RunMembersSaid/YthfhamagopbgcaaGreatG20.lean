/- Parts: Sb Sc Sd Se Sf Sj Sg Sh. -/
import Derived.Test.YthfhamagopbgcaaGreatG19
namespace Go.Proofs.YthfhamagopbgcaaGreat
set_option linter.unusedSimpArgs false
set_option linter.unusedVariables false
namespace Rn
open Ref

/-- Numbers that memory can hold. -/
def Im (f:Fn):Prop:=∀ l ∈ f.blocks,∀ x ∈ l,0≤x.imm∧x.imm<4294967296
def MemW (n:Int):Prop:=n=8∨n=16∨n=32
inductive Shp (f:Fn) (x:Ins):Prop
 | const (ho:x.op=0) (ha:x.args=[]) (hw:Wd.Wid x.width) (hi:Wd.Word x.width x.imm)
 | arith (ho:1≤x.op∧x.op≤13) (a b:Int) (ha:x.args=[a,b]) (ka:kind f a=x.width) (kb:kind f b=x.width) (hw:Wd.Wid x.width) (hf:0≤x.flags∧x.flags≤7)
 | cmp (ho:x.op=14) (a b:Int) (ha:x.args=[a,b]) (kb:kind f b=kind f a) (hk:Wd.Wid (kind f a)) (hw:x.width=1) (hi:0≤x.imm∧x.imm≤9)
 | select (ho:x.op=15) (a b c:Int) (ha:x.args=[a,b,c]) (ka:kind f a=1) (kb:kind f b=x.width) (kc:kind f c=x.width) (hw:Wd.Wid x.width∨x.width=33)
 | ext (ho:x.op=16∨x.op=17∨x.op=18) (a:Int) (ha:x.args=[a]) (hk:Wd.Wid (kind f a)) (hw:Wd.Wid x.width) (hd:if x.op=18 then x.width<kind f a else kind f a<x.width)
 | lanes (ho:x.op=19∨x.op=20) (a b:Int) (ha:x.args=[a,b]) (ka:kind f a=x.width) (kb:kind f b=x.width) (hw:Wd.Wid x.width) (h1:1≤x.imm) (h2:x.imm<x.width) (h3:x.width % x.imm=0)
 | freeze (ho:x.op=21) (a:Int) (ha:x.args=[a]) (ka:kind f a=x.width) (hw:Wd.Wid x.width)
 | poison (ho:x.op=22) (ha:x.args=[]) (hw:Wd.Wid x.width)
 | any (ho:x.op=23) (ha:x.args=[]) (hw:Wd.Wid x.width)
 | addr (ho:x.op=24) (ha:x.args=[]) (hw:x.width=33) (hi:0≤x.imm∧x.imm<f.slots.length)
 | gep (ho:x.op=25) (a b:Int) (ha:x.args=[a,b]) (ka:kind f a=33) (kb:Wd.Wid (kind f b)) (hw:x.width=33) (hf:x.flags=0∨x.flags=8)
 | load (ho:x.op=26) (a:Int) (ha:x.args=[a]) (ka:kind f a=33) (hw:MemW x.width)
 | store (ho:x.op=27) (a b:Int) (ha:x.args=[a,b]) (ka:kind f a=33) (kb:MemW (kind f b)) (hw:x.width=0)
 | phi (ho:x.op=28) (hl:x.args.length=x.to.length) (hk:∀ v ∈ x.args,kind f v=x.width) (hw:Wd.Wid x.width∨x.width=33)
 | jump (ho:x.op=29) (ha:x.args=[]) (t:Int) (ht:x.to=[t]) (hw:x.width=0)
 | branch (ho:x.op=30) (a:Int) (ha:x.args=[a]) (ka:kind f a=1) (t u:Int) (ht:x.to=[t,u]) (hw:x.width=0)
 | ret0 (ho:x.op=31) (ha:x.args=[]) (hr:f.ret=0) (hw:x.width=0)
 | ret (ho:x.op=31) (a:Int) (ha:x.args=[a]) (ka:kind f a=f.ret) (hr:Wd.Wid f.ret) (hw:x.width=0)
 | trap (ho:x.op=32) (ha:x.args=[]) (hw:x.width=0)
theorem wid_of {n:Int} (h:isWidth n=true):Wd.Wid n:=by
 unfold isWidth at h
 simp only [Bool.and_eq_true,decide_eq_true_eq] at h
 exact h
theorem len0 {l:List Int} (h:(l.length:Int)=0):l=[]:=List.eq_nil_of_length_eq_zero (by omega)
theorem len1 {l:List Int} (h:(l.length:Int)=1):∃ a,l=[a]:=by
 match l with
 | []=>simp at h
 | [a]=>exact ⟨a,rfl⟩
 | _::_::_=>simp at h;omega
theorem len2 {l:List Int} (h:(l.length:Int)=2):∃ a b,l=[a,b]:=by
 match l with
 | []=>simp at h
 | [_]=>simp at h
 | [a,b]=>exact ⟨a,b,rfl⟩
 | _::_::_::_=>simp at h;omega
theorem len3 {l:List Int} (h:(l.length:Int)=3):∃ a b c,l=[a,b,c]:=by
 match l with
 | []=>simp at h
 | [_]=>simp at h
 | [_,_]=>simp at h
 | [a,b,c]=>exact ⟨a,b,c,rfl⟩
 | _::_::_::_::_=>simp at h;omega
theorem word_of {n x:Int} (h:isWordOf n x=true) (h0:0≤x):Wd.Word n x:=by
 unfold isWordOf at h
 simp only [Bool.and_eq_true,decide_eq_true_eq] at h
 exact ⟨h0,h.2⟩
theorem shp {f:Fn} (hv:Val f) (hi:Im f) {l:List Ins} (hl:l ∈ f.blocks) {x:Ins} (hx:x ∈ l):Shp f x:=by
 obtain ⟨s1,s2,s3,s4⟩:=(argument_iff f x).1 (hv.arg l hl x hx)
 obtain ⟨c1,c2,c3⟩:=(counts_iff _ _).1 s2
 obtain ⟨t1,t2⟩:=(typed_iff f x).1 (hv.typ l hl x hx)
 obtain ⟨i1,i2⟩:=hi l hl x hx
 have hr:=hv.ret
 clear s2 hl hx hv hi
 by_cases o0:x.op=0
 ·have q:Ref.shape f x=(0,0,isWidth x.width && decide (x.flags=0) && isWordOf x.width x.imm):=by unfold Ref.shape;rw [if_pos o0]
  rw [q] at s1 c1 c2 c3
  simp at s1
  exact .const o0 (len0 (c1 (by simp))) (wid_of s1.1.1) (word_of s1.2 i1)
 by_cases o14:x.op=14
 ·
  simp [Ref.shape,o14] at s1 c1 c2 c3
  obtain ⟨a,b,ha⟩:=len2 (by omega:(x.args.length:Int)=2)
  simp [typedKinds,o14,ha] at t2
  exact .cmp o14 a b ha t2.2 (wid_of t2.1) s1.1.1 ⟨i1,s1.2⟩
 by_cases o15:x.op=15
 ·simp [Ref.shape,o15] at s1 c1 c2 c3
  obtain ⟨a,b,c,ha⟩:=len3 (by omega:(x.args.length:Int)=3)
  simp [typedKinds,o15,ha] at t2
  exact .select o15 a b c ha t2.1.1 t2.1.2 t2.2 (s1.1.imp wid_of id)
 by_cases o16:x.op=16∨x.op=17∨x.op=18∨x.op=21
 ·simp [Ref.shape,o0,o14,o15,o16] at s1 c1 c2 c3
  obtain ⟨a,ha⟩:=len1 (by omega:(x.args.length:Int)=1)
  rcases o16 with h | h | h | h
  ·simp [typedKinds,h,ha] at t2
   exact .ext (.inl h) a ha (wid_of t2.1) (wid_of s1.1) (by rw [if_neg (by omega)];exact t2.2)
  ·simp [typedKinds,h,ha] at t2
   exact .ext (.inr (.inl h)) a ha (wid_of t2.1) (wid_of s1.1) (by rw [if_neg (by omega)];exact t2.2)
  ·simp [typedKinds,h,ha] at t2
   exact .ext (.inr (.inr h)) a ha (wid_of t2.1) (wid_of s1.1) (by rw [if_pos h];exact t2.2)
  ·simp [typedKinds,h,ha] at t2
   exact .freeze h a ha t2 (wid_of s1.1)
 by_cases o19:x.op=19∨x.op=20
 ·have q:Ref.shape f x=(2,0,isWidth x.width && decide (x.flags=0) && decide (1≤x.imm) && decide (x.imm<x.width) && decide (x.width % x.imm=0)):=by
   simp only [Ref.shape,o0,o14,o15,o16,o19,if_false,if_true]
  rw [q] at s1 c1 c2 c3
  simp at s1 c1 c2 c3
  obtain ⟨a,b,ha⟩:=len2 (by omega:(x.args.length:Int)=2)
  have q2:typedKinds f x (x.args.map (kind f))=(x.args.map (kind f)).all fun z=>decide (z=x.width):=by
   unfold typedKinds
   repeat rw [if_neg (by omega)]
  rw [q2,ha] at t2
  simp at t2
  exact .lanes o19 a b ha t2.1 t2.2 (wid_of s1.1.1.1.1) s1.1.1.2 s1.1.2 s1.2
 by_cases o22:x.op=22∨x.op=23
 ·simp only [Ref.shape,o0,o14,o15,o16,o19,o22,if_false,if_true,Bool.and_eq_true] at s1 c1 c2 c3
  rcases o22 with h | h
  ·exact .poison h (len0 (c1 (by decide))) (wid_of s1.1)
  ·exact .any h (len0 (c1 (by decide))) (wid_of s1.1)
 by_cases o24:x.op=24
 ·simp [Ref.shape,o24] at s1 c1 c2 c3
  exact .addr o24 c1 s1.1.1 ⟨i1,s1.2⟩
 by_cases o25:x.op=25
 ·simp [Ref.shape,o25] at s1 c1 c2 c3
  obtain ⟨a,b,ha⟩:=len2 (by omega:(x.args.length:Int)=2)
  simp [typedKinds,o25,ha] at t2
  exact .gep o25 a b ha t2.1 (wid_of t2.2) s1.1.1 s1.2
 by_cases o26:x.op=26
 ·simp [Ref.shape,o26] at s1 c1 c2 c3
  obtain ⟨a,ha⟩:=len1 (by omega:(x.args.length:Int)=1)
  simp [typedKinds,o26,ha] at t2
  exact .load o26 a ha t2 (by unfold MemW;omega)
 by_cases o27:x.op=27
 ·simp [Ref.shape,o27] at s1 c1 c2 c3
  obtain ⟨a,b,ha⟩:=len2 (by omega:(x.args.length:Int)=2)
  simp [typedKinds,o27,ha,isMem] at t2
  exact .store o27 a b ha t2.1 (by unfold MemW;omega) s1.1
 by_cases o28:x.op=28
 ·simp [Ref.shape,o28] at s1 c1 c2 c3
  rw [typedKinds_phi f o28] at t2
  simp at t2
  exact .phi o28 c2 t2 (s1.1.1.imp wid_of id)
 by_cases o29:x.op=29
 ·simp [Ref.shape,o29] at s1 c1 c2 c3
  obtain ⟨t,ht⟩:=len1 (by omega:(x.to.length:Int)=1)
  exact .jump o29 c1 t ht s1.1
 by_cases o30:x.op=30
 ·simp [Ref.shape,o30] at s1 c1 c2 c3
  obtain ⟨a,ha⟩:=len1 (by omega:(x.args.length:Int)=1)
  obtain ⟨t,u,ht⟩:=len2 (by omega:(x.to.length:Int)=2)
  simp [typedKinds,o30,ha] at t2
  exact .branch o30 a ha t2 t u ht s1.1
 by_cases o31:x.op=31
 ·simp [Ref.shape,o31] at s1 c1 c2 c3
  by_cases hr0:0<f.ret
  ·rw [if_pos hr0] at c1
   obtain ⟨a,ha⟩:=len1 (by omega:(x.args.length:Int)=1)
   simp [typedKinds,o31,ha] at t2
   exact .ret o31 a ha t2 ⟨by omega,hr.2⟩ s1.1
  ·rw [if_neg hr0] at c1
   exact .ret0 o31 (len0 (by omega)) (by omega) s1.1
 by_cases o32:x.op=32
 ·simp [Ref.shape,o32] at s1 c1 c2 c3
  exact .trap o32 c1 s1.1
 by_cases o1:1≤x.op∧x.op≤13
 ·have q:Ref.shape f x=(2,0,isWidth x.width && decide (x.imm=0) && Ref.arith x):=by
   unfold Ref.shape
   repeat rw [if_neg (by omega)]
   rw [if_pos o1]
  rw [q] at s1 c1 c2 c3
  simp at s1 c1 c2 c3
  obtain ⟨a,b,ha⟩:=len2 (by omega:(x.args.length:Int)=2)
  have q2:typedKinds f x (x.args.map (kind f))=(x.args.map (kind f)).all fun z=>decide (z=x.width):=by
   unfold typedKinds
   repeat rw [if_neg (by omega)]
  rw [q2,ha] at t2
  simp at t2
  refine .arith o1 a b ha t2.1 t2.2 (wid_of s1.1.1) ?_
  have:=s1.2
  unfold Ref.arith arith0 at this
  split at this
  ·simp at this;omega
  split at this
  ·simp at this;omega
  ·simp at this;omega
 ·exfalso
  have q:Ref.shape f x=(0,0,false):=by
   unfold Ref.shape
   repeat rw [if_neg (by omega)]
  rw [q] at s1
  simp at s1
end Rn
end Go.Proofs.YthfhamagopbgcaaGreat
namespace Go.Proofs.YthfhamagopbgcaaGreat
set_option linter.unusedSimpArgs false
set_option linter.unusedVariables false
namespace Rn
open Ref

/-- A value of a kind. -/
def VOK (f:Fn) (k:Int) (v:V):Prop :=
 (v.p=true→v.s=0∧v.n=0)∧(v.p=false→(k=33→1≤v.s∧v.s≤f.slots.length∧0≤v.n∧v.n<4294967296)∧(k≠33→v.s=0∧Wd.Word k v.n))
theorem Wid33 {k:Int} (h:Wd.Wid k):k≠33:=by have:=h.2;omega
theorem VOK.num {f:Fn} {k:Int} {v:V} (h:VOK f k v) (hk:Wd.Wid k):v.s=0∧Wd.Word k v.n:=by
 cases hp:v.p with
 | false=>exact (h.2 hp).2 (Wid33 hk)
 | true=>obtain ⟨h1,h2⟩:=h.1 hp;exact ⟨h1,by rw [h2];exact ⟨Int.le_refl 0,Wd.sz_pos k⟩⟩
theorem VOK.ptr {f:Fn} {v:V} (h:VOK f 33 v) (hp:v.p=false):1≤v.s∧v.s≤f.slots.length∧0≤v.n∧v.n<4294967296:=(h.2 hp).1 rfl
theorem VOK.u32 {f:Fn} {k:Int} {v:V} (h:VOK f k v) (hk:Wd.Wid k∨k=33):0≤v.n∧v.n<4294967296:=by
 rcases hk with hk | rfl
 ·have:=(h.num hk).2
  have h2:=Wd.sz_32 hk
  exact ⟨this.1,by have:=this.2;omega⟩
 ·cases hp:v.p with
  | true=>rw [(h.1 hp).2];decide
  | false=>exact ⟨(h.ptr hp).2.2.1,(h.ptr hp).2.2.2⟩
theorem vok_poison (f:Fn) (k:Int):VOK f k poison:=⟨fun _=>⟨rfl,rfl⟩,(fun h=>by cases h)⟩
theorem vok_word (f:Fn) {k n:Int} (hk:Wd.Wid k) (h:Wd.Word k n):VOK f k (word n):=⟨(fun h=>by cases h),fun _=>⟨fun h=>absurd h (Wid33 hk),fun _=>⟨rfl,h⟩⟩⟩
def Had (s:St) (v:Nat):Prop:=s.had.getD v false=true
/-- What a run keeps. -/
structure Inv (f:Fn) (s:St):Prop where
 len:s.vals.length=count f
 hlen:s.had.length=count f
 ok:∀ v:Nat,Had s v→VOK f (kind f v) (s.get v)∧kind f v≠0
 zero:∀ v:Nat,¬ Had s v→s.get v=zero
 mem:s.mem.map (fun r=>(r.length:Int))=f.slots
 bytes:∀ r ∈ s.mem,∀ b ∈ r,-1≤b∧b≤255
 par:∀ v:Nat,v<f.params.length→Had s v
def AllHad (f:Fn) (s:St) (a:Nat) (l:List Ins):Prop:=∀ j x,l[j]?=some x→x.width≠0→Had s (number f a+j)
/-- Where a run is within a block. -/
structure Mid (f:Fn) (b i:Nat) (l:List Ins) (s:St):Prop extends Inv f s where
 rch:rc (graph f) (-1) b
 dom:∀ a m,f.blocks[a]?=some m→a≠b→dominates (graph f) a b=true→AllHad f s a m
 here:∀ j x,j<i→l[j]?=some x→x.width≠0→Had s (number f b+j)

section
variable {f:Fn} {b i:Nat} {l:List Ins} {s:St}
theorem had_set {s:St} {v u:Nat} {x:V} (h:Had s u):Had (s.set v x) u:=by
 unfold Had St.set at *
 rw [List.getD_eq_getElem?_getD] at *
 by_cases e:v=u
 ·subst e
  have hl:v<s.had.length:=by
   rcases Nat.lt_or_ge v s.had.length with h1 | h1
   ·exact h1
   ·rw [List.getElem?_eq_none h1] at h;simp at h
  rw [List.getElem?_set_self hl];rfl
 ·rw [List.getElem?_set_ne e];exact h
theorem had_set' {s:St} {v u:Nat} {x:V} (h:Had (s.set v x) u):u=v∨Had s u:=by
 by_cases e:v=u
 ·exact .inl e.symm
 ·refine .inr ?_
  unfold Had St.set at *
  rw [List.getD_eq_getElem?_getD] at *
  rwa [List.getElem?_set_ne e] at h
theorem had_self {s:St} {v:Nat} {x:V} (h:v<s.had.length):Had (s.set v x) v:=by
 unfold Had St.set
 rw [List.getD_eq_getElem?_getD,List.getElem?_set_self h];rfl
theorem get_set_self {s:St} {v:Nat} {x:V} (h:v<s.vals.length):(s.set v x).get v=x:=by
 unfold St.get St.set
 rw [Int.toNat_natCast,List.getD_eq_getElem?_getD,List.getElem?_set_self h];rfl
theorem get_set_ne {s:St} {v u:Nat} {x:V} (h:v≠u):(s.set v x).get u=s.get u:=by
 unfold St.get St.set
 rw [Int.toNat_natCast,List.getD_eq_getElem?_getD,List.getElem?_set_ne h,← List.getD_eq_getElem?_getD]
/-- What stays of a run's state where no value is set. -/
structure Like (s s':St):Prop where
 vals:s'.vals=s.vals
 had:s'.had=s.had
 lens:s'.mem.map (fun r=>(r.length:Int))=s.mem.map (fun r=>(r.length:Int))
 bytes:(∀ r ∈ s.mem,∀ b ∈ r,-1≤b∧b≤255)→∀ r ∈ s'.mem,∀ b ∈ r,-1≤b∧b≤255
theorem Like.refl (s:St):Like s s:=⟨rfl,rfl,rfl,fun h=>h⟩
theorem Inv.like {s s':St} (h:Inv f s) (k:Like s s'):Inv f s' where
 len:=by rw [k.vals];exact h.len
 hlen:=by rw [k.had];exact h.hlen
 ok:=fun v hv=>by
  have:s'.get v=s.get v:=by unfold St.get;rw [k.vals]
  rw [this];exact h.ok v (by unfold Had at *;rwa [k.had] at hv)
 zero:=fun v hv=>by
  have:s'.get v=s.get v:=by unfold St.get;rw [k.vals]
  rw [this];exact h.zero v (by unfold Had at *;rwa [k.had] at hv)
 mem:=by rw [k.lens];exact h.mem
 bytes:=k.bytes h.bytes
 par:=fun v hv=>by unfold Had;rw [k.had];exact h.par v hv
theorem Mid.like {s s':St} (h:Mid f b i l s) (k:Like s s'):Mid f b i l s' where
 toInv:=h.toInv.like k
 rch:=h.rch
 dom:=fun a m h1 h2 h3 j x hj hx=>by unfold Had;rw [k.had];exact h.dom a m h1 h2 h3 j x hj hx
 here:=fun j x h1 h2 h3=>by unfold Had;rw [k.had];exact h.here j x h1 h2 h3
theorem like_tick (s:St):Like s s.tick:=⟨rfl,rfl,rfl,fun h=>h⟩
theorem like_chose (s:St) (n:Int):Like s (s.chose n):=⟨rfl,rfl,rfl,fun h=>h⟩
theorem Mid.skip (h:Mid f b i l s) {x:Ins} (hx:l[i]?=some x) (hw:x.width=0):Mid f b (i+1) l s where
 toInv:=h.toInv
 rch:=h.rch
 dom:=h.dom
 here:=fun j y h1 h2 h3=>by
  rcases Nat.lt_or_ge j i with hj | hj
  ·exact h.here j y hj h2 h3
  ·have:j=i:=by omega
   subst this
   rw [hx] at h2;injection h2 with h2;subst h2;exact absurd hw h3
theorem Mid.set (h:Mid f b i l s) (hl:f.blocks[b]?=some l) {x:Ins} (hx:l[i]?=some x) {y:V} (hw:x.width≠0) (hy:VOK f x.width y):Mid f b (i+1) l (s.set (number f b+i) y):=by
 have hi:=(List.getElem?_eq_some_iff.1 hx).1
 have hc:=number_count f hl
 have hk:=kind_at f hl hx
 refine { len:=?_,hlen:=?_,ok:=?_,zero:=?_,mem:=h.mem,bytes:=h.bytes,par:=fun v hv=>had_set (h.par v hv),rch:=h.rch,dom:=?_,here:=?_ }
 ·show (s.vals.set _ _).length=_;rw [List.length_set];exact h.len
 ·show (s.had.set _ _).length=_;rw [List.length_set];exact h.hlen
 ·intro v hv
  by_cases e:number f b+i=v
  ·subst e
   rw [hk,get_set_self (by rw [h.len];omega)]
   exact ⟨hy,hw⟩
  ·rw [get_set_ne e]
   exact h.ok v ((had_set' hv).resolve_left fun q=>e q.symm)
 ·intro v hv
  by_cases e:number f b+i=v
  ·subst e
   exact absurd (had_self (by rw [h.hlen];omega)) hv
  ·rw [get_set_ne e]
   exact h.zero v fun q=>hv (had_set q)
 ·exact fun a m h1 h2 h3 j z hj hz=>had_set (h.dom a m h1 h2 h3 j z hj hz)
 ·intro j z h1 h2 h3
  rcases Nat.lt_or_ge j i with hj | hj
  ·exact had_set (h.here j z hj h2 h3)
  ·have:j=i:=by omega
   subst this
   exact had_self (by rw [h.hlen];omega)
theorem kind_pos {f:Fn} {v:Int} (h:0<kind f v):0≤v∧v<count f:=kind_in (by omega)
/-- What is stated to be there has been computed. -/
theorem there_had (h:Mid f b i l s) (hl:f.blocks[b]?=some l) {v place:Int} (ht:there f (graph f) v b place=true) (hp:place=i∨(place=-1∧i=l.length)) (hk:0<kind f v):Had s v.toNat:=by
 obtain ⟨h0,h1⟩:=kind_pos hk
 rcases home_of f h0 h1 with ⟨q1,q2⟩ | ⟨a,j,m,x,q1,q2,rfl⟩
 ·exact h.par _ (by omega)
 ·have hj:=(List.getElem?_eq_some_iff.1 q2).1
  rw [kind_at f q1 q2] at hk
  unfold there at ht
  rw [whereIs_at f q1 hj] at ht
  dsimp only at ht
  rw [if_neg (by omega)] at ht
  rw [Int.toNat_natCast]
  by_cases e:a=b
  ·subst e
   rw [hl] at q1;injection q1 with q1;subst q1
   rw [if_pos rfl] at ht
   simp at ht
   exact h.here j x (by omega) q2 (by omega)
  ·rw [if_neg (by omega)] at ht
   exact h.dom a m q1 e ht j x q2 (by omega)
theorem arg_there (hv:Val f) (h:Mid f b i l s) (hl:f.blocks[b]?=some l) {x:Ins} (hx:l[i]?=some x) (ho:x.op≠28) {v:Int} (hm:v ∈ x.args) (hk:0<kind f v):VOK f (kind f v) (s.get v):=by
 obtain ⟨h0,h1⟩:=kind_pos hk
 obtain ⟨k,hk1⟩:=List.getElem?_of_mem hm
 have hst:=hv.st b l hl h.rch i x hx k v hk1
 unfold argOk at hst
 rw [if_neg ho] at hst
 have:=(h.ok _ (there_had h hl hst (.inl rfl) hk)).1
 rwa [show ((v.toNat:Nat):Int)=v by omega] at this
end
end Rn
end Go.Proofs.YthfhamagopbgcaaGreat
namespace Go.Proofs.YthfhamagopbgcaaGreat
set_option linter.unusedSimpArgs false
set_option linter.unusedVariables false
namespace Rn
open Ref

def PickOk (pick:Pick):Prop:=∀ k n,Wd.Wid n→Wd.Word n (pick k n)
theorem given_ok (picks:List Int):PickOk (given picks):=fun k n hn=>by
 unfold given
 split
 ·exact Wd.mod_word _
 ·exact ⟨Int.le_refl 0,Wd.sz_pos n⟩
theorem numB_range:∀ (l:List Int),(∀ b ∈ l,0≤b∧b≤255)→0≤numB l∧numB l<256 ^ l.length
 | [],_=>⟨Int.le_refl 0,by decide⟩
 | b::r,h=>by
  obtain ⟨h1,h2⟩:=numB_range r fun z hz=>h z (by simp [hz])
  have h3:=h b (by simp)
  unfold numB
  rw [List.length_cons,Int.pow_succ]
  omega
theorem mem_bytes {n:Int} (h:MemW n):(256:Int) ^ (n / 8).toNat=Wd.sz n∧Wd.Wid n∧1≤n / 8∧n / 8≤4:=by
 rcases h with rfl | rfl | rfl <;> exact ⟨by decide,by unfold Wd.Wid;decide,by decide,by decide⟩
theorem overlay_len {l bs:List Int} {a:Nat} (h:a+bs.length≤l.length):(overlay l a bs).length=l.length:=by
 unfold overlay
 simp;omega
theorem bytesOf_len (x:V):∀ (k:Nat) (z:Int),(bytesOf x k z).length=k
 | 0,_=>rfl
 | k+1,z=>by unfold bytesOf;rw [List.length_cons,bytesOf_len x k]
theorem bytesOf_range (x:V):∀ (k:Nat) (z:Int),∀ b ∈ bytesOf x k z,-1≤b∧b≤255
 | 0,_,b,h=>by simp [bytesOf] at h
 | k+1,z,b,h=>by
  unfold bytesOf at h
  rcases List.mem_cons.1 h with rfl | h
  ·split <;> omega
  ·exact bytesOf_range x k _ b h
theorem map_set_same {α:Type} (g:List Int→α) (m:List (List Int)) (k:Nat) (r:List Int) (h:g r=g (m.getD k [])):(m.set k r).map g=m.map g:=by
 rw [List.map_set]
 apply List.ext_getElem?
 intro i
 by_cases e:k=i
 ·subst e
  rcases Nat.lt_or_ge k m.length with hk | hk
  ·rw [List.getElem?_set_self (by simpa using hk),h,List.getElem?_map,List.getElem?_eq_getElem hk,List.getD_eq_getElem?_getD,List.getElem?_eq_getElem hk];rfl
  ·rw [List.getElem?_eq_none (by simpa using hk),List.getElem?_eq_none (by simpa using hk)]
 ·rw [List.getElem?_set_ne e]
theorem store_like {s:St} {p x:V} {n:Nat} {m:List (List Int)} (h:store s.mem p x n=some m):Like s { s with mem:=m }:=by
 unfold store at h
 split at h
 ·cases h
 next hc =>
  injection h with h
  subst h
  have hb:=bytesOf_len x n x.n
  refine ⟨rfl,rfl,map_set_same _ _ _ _ (by rw [overlay_len (by omega)]),fun hr r hm b hb'=>?_⟩
  rcases List.mem_or_eq_of_mem_set hm with q | rfl
  ·exact hr r q b hb'
  ·unfold overlay at hb'
   have old:∀ c,c ∈ s.mem.getD (p.s-1).toNat []→-1≤c∧c≤255:=fun c hc'=>by
    rw [List.getD_eq_getElem?_getD] at hc'
    cases e:s.mem[(p.s-1).toNat]? with
    | none=>rw [e] at hc';simp at hc'
    | some row=>rw [e] at hc';exact hr row (List.mem_of_getElem? e) c hc'
   rcases List.mem_append.1 hb' with q | q
   ·rcases List.mem_append.1 q with q | q
    ·exact old b (List.mem_of_mem_take q)
    ·exact bytesOf_range _ _ _ b q
   ·exact old b (List.mem_of_mem_drop q)
theorem bytesAt_range {mem:List (List Int)} (hr:∀ r ∈ mem,∀ b ∈ r,-1≤b∧b≤255) {p:V} {n:Nat} {bs:List Int} (h:bytesAt mem p n=some bs):bs.length=n∧∀ b ∈ bs,-1≤b∧b≤255:=by
 unfold bytesAt at h
 split at h
 ·cases h
 next hc =>
  injection h with h
  subst h
  refine ⟨by rw [List.length_take,List.length_drop];omega,fun b hb=>?_⟩
  have hb:=List.mem_of_mem_drop (List.mem_of_mem_take hb)
  rw [List.getD_eq_getElem?_getD] at hb
  cases e:mem[(p.s-1).toNat]? with
  | none=>rw [e] at hb;simp at hb
  | some row=>rw [e] at hb;exact hr row (List.mem_of_getElem? e) b hb
theorem load_ok (f:Fn) {mem:List (List Int)} (hr:∀ r ∈ mem,∀ b ∈ r,-1≤b∧b≤255) {p y:V} {w:Int} (hw:MemW w) (h:load mem p (w / 8).toNat=some y):VOK f w y:=by
 obtain ⟨e1,e2,e3,e4⟩:=mem_bytes hw
 unfold load at h
 cases hb:bytesAt mem p (w / 8).toNat with
 | none=>rw [hb] at h;cases h
 | some bs =>
  rw [hb] at h
  injection h with h
  subst h
  obtain ⟨b1,b2⟩:=bytesAt_range hr hb
  show VOK f w (if (bs.any fun b=>decide (b<0))=true then Rn.poison else word (numB bs))
  split
  ·exact vok_poison f w
  next hn =>
   have hn:∀ b ∈ bs,0≤b∧b≤255:=fun b hb=>by
    have:=b2 b hb
    simp only [List.any_eq_true,decide_eq_true_eq,not_exists,not_and,Int.not_lt] at hn
    exact ⟨hn b hb,this.2⟩
   have:=numB_range bs hn
   rw [b1,e1] at this
   exact vok_word f e2 this
theorem arith_ok (f:Fn) {o fl n:Int} {a b y:V} (hn:Wd.Wid n) (ha:Wd.Word n a.n) (hb:Wd.Word n b.n) (h:arith o fl n a b=some y):VOK f n y:=by
 unfold arith at h
 split at h
 ·cases h
 split at h
 ·injection h with h;subst h;exact vok_poison f n
 cases ho:Wd.op o n a.n b.n with
 | none=>rw [ho] at h;injection h with h;subst h;exact vok_poison f n
 | some z =>
  rw [ho] at h
  dsimp only at h
  split at h
  ·injection h with h;subst h;exact vok_poison f n
  ·injection h with h;subst h;exact vok_word f hn (Wd.op_word hn ha hb ho)
theorem ext_word {o m n x:Int} (hm:Wd.Wid m) (hx:Wd.Word m x) (ho:o=16∨o=17∨o=18) (hd:if o=18 then n<m else m<n):Wd.Word n (Wd.ext o m n x):=by
 unfold Wd.ext
 by_cases h:o=16
 ·rw [if_pos h]
  rw [if_neg (by omega)] at hd
  exact ⟨hx.1,Int.lt_of_lt_of_le hx.2 (Wd.sz_le (by omega))⟩
 ·rw [if_neg h]
  split <;> exact Wd.mod_word _
theorem lanes_word {o l n a b:Int} (h1:1≤l) (h2:l<n) (h3:n % l=0):Wd.Word n (Wd.lanes o l (n / l).toNat a b):=by
 have h:=Wd.lanes_range o l (n / l).toNat a b
 obtain ⟨m,rfl⟩:=Int.eq_ofNat_of_zero_le (show 0≤l by omega)
 rw [Wd.sz_pow] at h
 have e:((m * (n / (m:Int)).toNat:Nat):Int)=n:=by
  have q:=Int.mul_ediv_add_emod n (m:Int)
  have q2:0≤n / (m:Int):=Int.ediv_nonneg (by omega) (by omega)
  rw [Int.natCast_mul,Int.toNat_of_nonneg q2]
  omega
 rw [e] at h
 exact h
theorem gep_ok {f:Fn} {fl k:Int} {p b:V} (hp:VOK f 33 p) (hpp:p.p=false):VOK f 33 (gep f.slots fl k p b):=by
 unfold gep
 obtain ⟨h1,h2,h3,h4⟩:=hp.ptr hpp
 split
 ·exact vok_poison f 33
 ·exact ⟨(fun h=>by cases h),fun _=>⟨fun _=>⟨h1,h2,Int.emod_nonneg _ (by decide),Int.emod_lt_of_pos _ (by decide)⟩,fun h=>absurd rfl h⟩⟩
/-- What an instruction leaves, by the way it ends. -/
def After (f:Fn) (b i:Nat) (l:List Ins) (x:Ins) (s:St):Res × St→Prop
 | (.val y,s')=>x.width≠0∧VOK f x.width y∧Mid f b i l s'
 | (.on,s')=>x.width=0∧Mid f b i l s'
 | (.go t,s')=>x.width=0∧s'=s∧t ∈ x.to
 | (.fin _,s')=>s'=s
section
variable {f:Fn} {b i:Nat} {l:List Ins} {s:St} {pick:Pick}
theorem exec_ok (hv:Val f) (hi:Im f) (hpk:PickOk pick) (h:Mid f b i l s) (hl:f.blocks[b]?=some l) {x:Ins} (hx:l[i]?=some x) (ho:x.op≠28):After f b i l x s (exec f pick x s):=by
 have hlm:=List.mem_of_getElem? hl
 have hxm:=List.mem_of_getElem? hx
 have ar:∀ v ∈ x.args,0<kind f v→VOK f (kind f v) (s.get v):=fun v hm hk=>arg_there hv h hl hx ho hm hk
 have ne:∀ {n:Int},Wd.Wid n→n≠0:=fun h=>by have:=h.1;omega
 have pos:∀ {n:Int},Wd.Wid n→0<n:=fun h=>by have:=h.1;omega
 cases shp hv hi hlm hxm with
 | const o ha hw him =>
  simp [exec,o,ha,plain,After]
  exact ⟨ne hw,vok_word f hw him,h⟩
 | arith o a c ha ka kc hw hf =>
  have e1:=ar a (by simp [ha]) (by rw [ka];exact pos hw)
  have e2:=ar c (by simp [ha]) (by rw [kc];exact pos hw)
  rw [ka] at e1
  rw [kc] at e2
  have q:exec f pick x s=match arith x.op x.flags x.width (s.get a) (s.get c) with | none=>(.fin undefd,s) | some v=>(.val v,s):=by
   unfold exec
   dsimp only
   repeat rw [if_neg (by omega)]
   rw [if_pos o,ha];rfl
  rw [q]
  cases hr:arith x.op x.flags x.width (s.get a) (s.get c) with
  | none=>exact rfl
  | some v=>exact ⟨ne hw,arith_ok f hw (e1.num hw).2 (e2.num hw).2 hr,h⟩
 | cmp o a c ha kc hk hw him =>
  simp only [exec,o,ha,plain,List.map_cons,List.map_nil]
  simp
  split
  ·exact ⟨by omega,vok_poison f _,h⟩
  ·refine ⟨by omega,?_,h⟩
   rw [hw]
   refine vok_word f (by unfold Wd.Wid;decide) ?_
   split <;> exact ⟨by decide,by decide⟩
 | select o a c d ha ka kc kd hw =>
  have hw0:0<x.width:=hw.elim pos (fun q=>by omega)
  have e1:=ar a (by simp [ha]) (by omega)
  have e2:=ar c (by simp [ha]) (by omega)
  have e3:=ar d (by simp [ha]) (by omega)
  rw [ka] at e1
  rw [kc] at e2
  rw [kd] at e3
  simp [exec,o,ha]
  split
  ·exact ⟨by omega,vok_poison f _,h⟩
  ·have:=(e1.num (by unfold Wd.Wid;decide)).2
   have s1:Wd.sz 1=2:=by decide
   obtain ⟨n1,n2⟩:=this
   rw [s1] at n2
   rcases (by omega:(s.get a).n=0∨(s.get a).n=1) with q | q
   ·rw [q];exact ⟨by omega,e3,h⟩
   ·rw [q];exact ⟨by omega,e2,h⟩
 | ext o a ha hk hw hd =>
  have e1:=ar a (by simp [ha]) (pos hk)
  have e2:=ext_word hk (e1.num hk).2 o hd
  have q:exec f pick x s=if (s.get a).p=true then (.val poison,s) else (.val (word (Wd.ext x.op (kind f a) x.width (s.get a).n)),s):=by
   unfold exec plain
   dsimp only
   rcases o with o | o | o <;> simp [o,ha]
  rw [q]
  split
  ·exact ⟨ne hw,vok_poison f _,h⟩
  ·exact ⟨ne hw,vok_word f hw e2,h⟩
 | lanes o a c ha ka kc hw h1 h2 h3 =>
  have q:exec f pick x s=if (s.get a).p=true∨(s.get c).p=true then (.val poison,s) else (.val (word (Wd.lanes x.op x.imm (x.width / x.imm).toNat (s.get a).n (s.get c).n)),s):=by
   unfold exec plain
   dsimp only
   rcases o with o | o <;> simp [o,ha]
  rw [q]
  split
  ·exact ⟨ne hw,vok_poison f _,h⟩
  ·exact ⟨ne hw,vok_word f hw (lanes_word h1 h2 h3),h⟩
 | freeze o a ha ka hw =>
  have e1:=ar a (by simp [ha]) (by rw [ka];exact pos hw)
  rw [ka] at e1
  simp [exec,o,ha]
  split
  ·exact ⟨ne hw,vok_word f hw (hpk _ _ hw),h.like (like_chose _ _)⟩
  ·exact ⟨ne hw,e1,h⟩
 | poison o ha hw =>
  simp [exec,o,ha]
  exact ⟨ne hw,vok_poison f _,h⟩
 | any o ha hw =>
  simp [exec,o,ha]
  exact ⟨ne hw,vok_word f hw (hpk _ _ hw),h.like (like_chose _ _)⟩
 | addr o ha hw him =>
  simp [exec,o,ha,plain]
  refine ⟨by omega,?_,h⟩
  rw [hw]
  exact ⟨(fun h=>by cases h),fun _=>⟨fun _=>⟨by show 1≤x.imm+1;omega,by show x.imm+1≤_;omega,by show (0:Int)≤0;omega,by show (0:Int)<_;omega⟩,fun h=>absurd rfl h⟩⟩
 | gep o a c ha ka kc hw hf =>
  have e1:=ar a (by simp [ha]) (by omega)
  rw [ka] at e1
  simp [exec,o,ha,plain]
  split
  ·exact ⟨by omega,vok_poison f _,h⟩
  next hn =>
   refine ⟨by omega,?_,h⟩
   rw [hw]
   exact gep_ok e1 (by cases hp:(s.get a).p with | false=>rfl | true=>simp [hp] at hn)
 | load o a ha ka hw =>
  have q:exec f pick x s=match load s.mem (s.get a) (x.width / 8).toNat with | none=>(.fin undefd,s) | some v=>(.val v,s):=by
   unfold exec
   simp [o,ha]
   rfl
  rw [q]
  cases hr:load s.mem (s.get a) (x.width / 8).toNat with
  | none=>exact rfl
  | some v=>exact ⟨ne (mem_bytes hw).2.1,load_ok f h.bytes hw hr,h⟩
 | store o a c ha ka kc hw =>
  have q:exec f pick x s=match store s.mem (s.get a) (s.get c) (kind f c / 8).toNat with | none=>(.fin undefd,s) | some m=>(.on,{ s with mem:=m }):=by
   unfold exec
   simp [o,ha]
   rfl
  rw [q]
  cases hr:store s.mem (s.get a) (s.get c) (kind f c / 8).toNat with
  | none=>exact rfl
  | some m=>exact ⟨hw,h.like (store_like hr)⟩
 | phi o=>exact absurd o ho
 | jump o ha t ht hw =>
  simp [exec,o,ha,ht]
  exact ⟨hw,rfl,by simp [ht]⟩
 | branch o a ha ka t u ht hw =>
  have e1:=ar a (by simp [ha]) (by omega)
  rw [ka] at e1
  obtain ⟨n1,n2⟩:=(e1.num (by unfold Wd.Wid;decide)).2
  have s1:Wd.sz 1=2:=by decide
  rw [s1] at n2
  simp [exec,o,ha,ht]
  split
  ·exact rfl
  ·rcases (by omega:(s.get a).n=0∨(s.get a).n=1) with q | q
   ·rw [q];exact ⟨hw,rfl,by simp [ht]⟩
   ·rw [q];exact ⟨hw,rfl,by simp [ht]⟩
 | ret0 o ha hr hw=>simp [exec,o,ha];exact rfl
 | ret o a ha ka hr hw=>simp [exec,o,ha];exact rfl
 | trap o ha hw=>simp [exec,o,ha];exact rfl
end
end Rn
end Go.Proofs.YthfhamagopbgcaaGreat
namespace Go.Proofs.YthfhamagopbgcaaGreat
set_option linter.unusedSimpArgs false
set_option linter.unusedVariables false
namespace Rn
open Ref

/-- The Phis of a block stand ahead of all else. -/
theorem phis_front:∀ (l:List Ins) (p:Bool),laidFrom l p=true→(p=true→∀ i x,l[i]?=some x→(x.op=28↔i<(phis l).length))∧(p=false→∀ x ∈ l,x.op≠28)
 | [],p,_=>⟨fun _ i x h=>by simp at h,fun _ x h=>by simp at h⟩
 | y::r,p,h=>by
  rw [laidFrom] at h
  simp only [Bool.and_eq_true,Bool.or_eq_true,decide_eq_true_eq] at h
  obtain ⟨⟨h1,h2⟩,h3⟩:=h
  obtain ⟨q1,q2⟩:=phis_front r _ h3
  by_cases hy:y.op=28
  ·have hp:p=true:=h2.resolve_left fun q=>q hy
   refine ⟨fun _ i x hx=>?_,fun q=>by rw [hp] at q;cases q⟩
   have e:(phis (y::r)).length=(phis r).length+1:=by simp [phis,List.takeWhile_cons,hy]
   rw [e]
   cases i with
   | zero=>simp at hx;subst hx;simp [hy]
   | succ i=>have:=q1 (by simpa using hy) i x (by simpa using hx);omega
  ·have hr:=q2 (by simpa using hy)
   refine ⟨fun _ i x hx=>?_,fun _ x hx=>?_⟩
   ·have e:(phis (y::r)).length=0:=by simp [phis,List.takeWhile_cons,hy]
    rw [e]
    have:x.op≠28:=by
     cases i with
     | zero=>simp at hx;subst hx;exact hy
     | succ i=>exact hr x (List.mem_of_getElem? (by simpa using hx))
    omega
   ·rcases List.mem_cons.1 hx with rfl | hx
    ·exact hy
    ·exact hr x hx
theorem val_laid {f:Fn} (hv:Val f) {l:List Ins} (hl:l ∈ f.blocks):l≠[]∧laidFrom l true=true:=by
 have:=hv.laid l hl
 unfold Ref.laid at this
 rw [Bool.and_eq_true] at this
 refine ⟨fun h=>?_,this.2⟩
 rw [h] at this;simp at this
theorem phi_iff {f:Fn} (hv:Val f) {l:List Ins} (hl:l ∈ f.blocks) {i:Nat} {x:Ins} (hx:l[i]?=some x):x.op=28↔i<(phis l).length :=
 (phis_front l true (val_laid hv hl).2).1 rfl i x hx
theorem last_iff {f:Fn} (hv:Val f) {l:List Ins} (hl:l ∈ f.blocks) {i:Nat} {x:Ins} (hx:l[i]?=some x):isLast x.op=true↔i+1=l.length:=by
 have hi:=(List.getElem?_eq_some_iff.1 hx).1
 have e:l=l.take i++x::l.drop (i+1):=by
  conv=>lhs;rw [← List.take_append_drop i l]
  rw [List.drop_eq_getElem_cons hi,(List.getElem?_eq_some_iff.1 hx).2]
 have:=laid_at (l.take i) true x (l.drop (i+1)) (by rw [← e];exact (val_laid hv hl).2)
 rw [this,List.isEmpty_iff,List.drop_eq_nil_iff]
 omega
theorem phis_mem {l:List Ins} {x:Ins} (h:x ∈ phis l):x ∈ l∧x.op=28:=by
 refine ⟨List.takeWhile_subset _ h,?_⟩
 have:=List.all_takeWhile (p:=fun x:Ins=>decide (x.op=28)) (l:=l)
 rw [List.all_eq_true] at this
 simpa using this x h
/-- Where a run enters a block. -/
structure Ent (f:Fn) (b:Nat) (frm:Int) (l:List Ins) (s:St):Prop extends Mid f b 0 l s where
 phi:∀ x ∈ phis l,frm ∈ x.to∧x.args.length=x.to.length∧(0≤x.args.getD (x.to.idxOf frm) 0∧x.args.getD (x.to.idxOf frm) 0<count f)∧VOK f x.width (phiRead s frm x)∧x.width≠0
section
variable {f:Fn} {b:Nat} {l:List Ins} {s:St}
theorem enter (hA:RcAll) (hv:Val f) (hi:Im f) (h:Mid f b l.length l s) (hl:f.blocks[b]?=some l) {t:Nat} {m:List Ins} (ht:(t:Int) ∈ (graph f).getD b []) (hm:f.blocks[t]?=some m):Ent f t b m s:=by
 have hrt:rc (graph f) (-1) t:=by
  have:=(hv.rc hA (-1)).step b t h.rch ht (by omega)
  rwa [Int.toNat_natCast] at this
 refine { toInv:=h.toInv,rch:=hrt,dom:=?_,here:=fun j x hj=>by omega,phi:=?_ }
 ·intro a k hk hne hd
  by_cases e:a=b
  ·subst e
   rw [hl] at hk;injection hk with hk;subst hk
   exact fun j x hj hx=>h.here j x (List.getElem?_eq_some_iff.1 hj).1 hj hx
  ·refine h.dom a k hk e ?_
   unfold dominates at hd ⊢
   rw [Bool.or_eq_true] at hd ⊢
   right
   have hd:=hd.resolve_left (by simp;omega)
   cases hb:(reached (graph f) (a:Int)).getD (b:Int).toNat false with
   | false=>rfl
   | true =>
    rw [Int.toNat_natCast] at hb
    have:=(hv.rc hA (a:Int)).step b t hb ht (by omega)
    unfold rc at this
    rw [Int.toNat_natCast] at this
    rw [Int.toNat_natCast,this] at hd
    cases hd
 ·intro x hx
  obtain ⟨hxm,ho⟩:=phis_mem hx
  obtain ⟨p1,p2,p3,p4⟩:=phi_parts hv hm hxm ho
  have hmem:(b:Int) ∈ x.to:=by
   rw [hv.phi t m hm x hxm ho,mem_before]
   refine ⟨b,(graph f).getD b [],getD_graph hv (List.getElem?_eq_some_iff.1 hl).1,ht,rfl⟩
  have hk:=List.idxOf_lt_length_of_mem hmem
  obtain ⟨k,hke⟩:∃ k,x.to.idxOf (b:Int)=k:=⟨_,rfl⟩
  have htk:x.to[k]?=some (b:Int):=by
   subst hke
   rw [List.getElem?_eq_getElem hk]
   exact congrArg some (List.getElem_idxOf hk)
  rw [hke] at hk
  obtain ⟨v,hvk⟩:∃ v,x.args[k]?=some v:=⟨_,List.getElem?_eq_getElem (by omega)⟩
  have hg:x.args.getD k 0=v:=by rw [List.getD_eq_getElem?_getD,hvk];rfl
  obtain ⟨hkd,hw⟩:kind f v=x.width∧(Wd.Wid x.width∨x.width=33):=by
   cases shp hv hi (List.mem_of_getElem? hm) hxm with
   | phi o q1 q2 q3=>exact ⟨q2 v (List.mem_of_getElem? hvk),q3⟩
   | _=>all_goals omega
  have hwp:0<x.width:=hw.elim (fun q=>by have:=q.1;omega) (fun q=>by omega)
  have hc:=kind_pos (f:=f) (v:=v) (by omega)
  obtain ⟨i,hxi⟩:=List.getElem?_of_mem hxm
  have hst:=hv.st t m hm hrt i x hxi k v hvk
  unfold argOk at hst
  rw [if_pos ho,show x.to.getD k 0=(b:Int) by rw [List.getD_eq_getElem?_getD,htk];rfl,Int.toNat_natCast,Bool.or_eq_true] at hst
  have hst:=hst.resolve_left (by rw [show (reached (graph f) (-1)).getD b false=true from h.rch];simp)
  have hok:=(h.ok _ (there_had h hl hst (.inr ⟨rfl,rfl⟩) (by omega))).1
  rw [show ((v.toNat:Nat):Int)=v by omega,hkd] at hok
  rw [hke,hg]
  refine ⟨hmem,p1,hc,?_,by omega⟩
  unfold phiRead
  rw [hke,hg]
  exact hok
/-- Behind the last instruction of a block. -/
theorem leave (hA:RcAll) (hv:Val f) (hi:Im f) {i:Nat} (h:Mid f b i l s) (hl:f.blocks[b]?=some l) {x:Ins} (hx:l[i]?=some x) (ho:x.op≠28) (hw:x.width=0) {t:Int} (ht:t ∈ x.to):∃ m,0≤t∧f.blocks[t.toNat]?=some m∧Ent f t.toNat b m s∧i+1=l.length:=by
 have hlm:=List.mem_of_getElem? hl
 have hxm:=List.mem_of_getElem? hx
 have hg:=to_graph hv hl hxm ho ht
 have hla:=to_last hv hlm hxm ho ht
 have hb:=((argument_iff f x).1 (hv.arg l hlm x hxm)).2.2.1 t ht
 have hil:i+1=l.length:=by
  refine (last_iff hv hlm hx).1 ?_
  obtain ⟨z,z1,z2⟩:=laid_last l true (val_laid hv hlm).1 (val_laid hv hlm).2
  rw [hla] at z1;injection z1 with z1;rw [z1];exact z2
 obtain ⟨m,hm⟩:∃ m,f.blocks[t.toNat]?=some m:=⟨_,List.getElem?_eq_getElem (by omega)⟩
 refine ⟨m,hb.1,hm,?_,hil⟩
 have h2:=h.skip hx hw
 rw [hil] at h2
 exact enter hA hv hi h2 hl (by rw [Int.toNat_of_nonneg hb.1];exact hg) hm
/-- A Phi is set. -/
theorem phi_set (hv:Val f) {frm:Int} {s0:St} (he:Ent f b frm l s0) {i:Nat} (h:Mid f b i l s) (hl:f.blocks[b]?=some l) {x:Ins} (hx:l[i]?=some x) (ho:i<(phis l).length) :
  Mid f b (i+1) l (s.set (Ref.number f b+i) (((phis l).map (phiRead s0 frm)).getD i zero)):=by
 have hp:(phis l)[i]?=some x:=by
  have:phis l <+: l:=List.takeWhile_prefix _
  rw [List.prefix_iff_getElem?] at this
  have q:=this i ho
  rw [List.getElem?_eq_getElem ho]
  rw [hx] at q;exact q.symm
 have hq:=he.phi x (List.mem_of_getElem? hp)
 have e:((phis l).map (phiRead s0 frm)).getD i zero=phiRead s0 frm x:=by
  rw [List.getD_eq_getElem?_getD,List.getElem?_map,hp];rfl
 rw [e]
 exact h.set hl hx hq.2.2.2.2 hq.2.2.2.1
theorem phis_le (l:List Ins):(phis l).length≤l.length:=(List.takeWhile_prefix _).length_le
end
/-! ### The beginning -/
theorem valid_input {f:Fn} {i:Inp} (h:validInput f i=0):Val f∧i.args.length=f.params.length∧i.mem.map (fun r=>(r.length:Int))=f.slots∧(∀ v:Nat,∀ w a,f.params[v]?=some w→i.args[v]?=some a→a<Wd.sz w)∧∀ r ∈ i.mem,∀ b ∈ r,-1≤b∧b≤255:=by
 unfold validInput at h
 split at h
 next h1=>exact absurd h h1
 next h1 =>
  split at h
  ·cases h
  next h2 =>
   split at h
   ·cases h
   next h3 =>
    split at h
    ·cases h
    next h4 =>
     simp only [List.any_eq_true,not_exists,not_and,decide_eq_true_eq,Bool.or_eq_true,not_or] at h3 h4
     have hlen:i.args.length=f.params.length∧i.mem.length=f.slots.length:=by omega
     refine ⟨(val_iff f).1 (Decidable.not_not.1 h1),hlen.1,?_,?_,?_⟩
     ·apply List.ext_getElem?
      intro k
      rw [List.getElem?_map]
      rcases Nat.lt_or_ge k i.mem.length with hk | hk
      ·have h5:=h4 (f.slots[k]'(by omega),i.mem[k]) (by
          rw [List.mem_iff_getElem?]
          exact ⟨k,by rw [List.getElem?_zip_eq_some];exact ⟨List.getElem?_eq_getElem (by omega),List.getElem?_eq_getElem hk⟩⟩)
       rw [List.getElem?_eq_getElem hk,List.getElem?_eq_getElem (by omega)]
       have:=h5.1
       simp at this
       exact congrArg some this
      ·rw [List.getElem?_eq_none hk,List.getElem?_eq_none (by omega)];rfl
     ·intro v w a hw ha
      have:=h3 (w,a) (by
        rw [List.mem_iff_getElem?]
        exact ⟨v,by rw [List.getElem?_zip_eq_some];exact ⟨hw,ha⟩⟩)
      dsimp only at this
      omega
     ·intro r hr b hb
      obtain ⟨k,hk⟩:=List.getElem?_of_mem hr
      have hk':=(List.getElem?_eq_some_iff.1 hk).1
      have h5:=(h4 (f.slots[k]'(by omega),r) (by
          rw [List.mem_iff_getElem?]
          exact ⟨k,by rw [List.getElem?_zip_eq_some];exact ⟨List.getElem?_eq_getElem (by omega),hk⟩⟩)).2 b hb
      omega
theorem start_had (f:Fn) (i:Inp) (v:Nat):Had (start f i) v↔v<i.args.length:=by
 unfold Had start
 rw [List.getD_eq_getElem?_getD,List.getElem?_append,List.getElem?_map,List.length_map]
 split
 next h=>simp [List.getElem?_eq_getElem h,h]
 next h =>
  rw [List.getElem?_replicate]
  split <;> simp <;> omega
theorem start_get (f:Fn) (i:Inp) (v:Nat):(start f i).get v=if v<i.args.length then word (i.args.getD v 0) else zero:=by
 unfold St.get start
 rw [Int.toNat_natCast,List.getD_eq_getElem?_getD,List.getElem?_append,List.getElem?_map,List.length_map]
 split
 next h=>simp [List.getElem?_eq_getElem h]
 next h =>
  rw [List.getElem?_replicate]
  split <;> rfl
theorem start_ent (hA:RcAll) {f:Fn} {i:Inp} (h:validInput f i=0) (ha:∀ a ∈ i.args,0≤a):∃ l,f.blocks[0]?=some l∧Ent f 0 (-1) l (start f i):=by
 obtain ⟨hv,h1,h2,h3,h4⟩:=valid_input h
 obtain ⟨l,hl⟩:∃ l,f.blocks[0]?=some l:=⟨_,List.getElem?_eq_getElem (by have:=hv.size;omega)⟩
 have hc:f.params.length≤count f:=by unfold count Ref.number;omega
 refine ⟨l,hl,{ len:=?_,hlen:=?_,ok:=?_,zero:=?_,mem:=h2,bytes:=h4,par:=fun v hv=>(start_had f i v).2 (by omega),rch:=(hv.rc hA (-1)).root (by decide),dom:=?_,here:=fun j x hj=>by omega,phi:=?_ }⟩
 ·simp [start];omega
 ·simp [start];omega
 ·intro v hvh
  have hlt:=(start_had f i v).1 hvh
  obtain ⟨w,hw⟩:∃ w,f.params[v]?=some w:=⟨_,List.getElem?_eq_getElem (by omega)⟩
  obtain ⟨a,hav⟩:∃ a,i.args[v]?=some a:=⟨_,List.getElem?_eq_getElem (by omega)⟩
  have hk:kind f (v:Int)=w:=by
   unfold kind
   rw [if_neg (by omega),if_pos (by omega),Int.toNat_natCast,List.getD_eq_getElem?_getD,hw];rfl
  have hwid:Wd.Wid w:=wid_of (List.all_eq_true.1 hv.head.1 w (List.mem_of_getElem? hw))
  rw [start_get,if_pos hlt,List.getD_eq_getElem?_getD,hav,hk]
  exact ⟨vok_word f hwid ⟨ha a (List.mem_of_getElem? hav),h3 v w a hw hav⟩,by have:=hwid.1;omega⟩
 ·intro v hvh
  rw [start_get,if_neg fun q=>hvh ((start_had f i v).2 q)]
 ·intro a m hm hne hd
  exfalso
  unfold dominates at hd
  rw [Bool.or_eq_true] at hd
  have hd:=hd.resolve_left (by simp;omega)
  have:=(hv.rc hA (a:Int)).root (by omega)
  unfold rc at this
  rw [show ((0:Nat):Int).toNat=0 from rfl,this] at hd
  cases hd
 ·intro x hx
  exfalso
  obtain ⟨hxm,ho⟩:=phis_mem hx
  obtain ⟨p1,p2,p3,p4⟩:=phi_parts hv hl hxm ho
  have:=hv.phi 0 l hl x hxm ho
  rw [show ((0:Nat):Int)=0 from rfl,hv.entry] at this
  rw [this] at p1
  simp at p1
  rw [p1] at p2;simp at p2
end Rn
end Go.Proofs.YthfhamagopbgcaaGreat
namespace Go.Proofs.YthfhamagopbgcaaGreat
set_option linter.unusedSimpArgs false
set_option linter.unusedVariables false
namespace Rn
open Ref

/-- The choices made only grow. -/
theorem exec_widths (f:Fn) (pick:Pick) (x:Ins) (s:St):(exec f pick x s).2.widths=s.widths∨(exec f pick x s).2.widths=s.widths++[x.width]:=by
 unfold exec
 dsimp only
 by_cases h1:x.op=29
 ·rw [if_pos h1];exact .inl rfl
 rw [if_neg h1]
 by_cases h2:x.op=30
 ·rw [if_pos h2];split <;> exact .inl rfl
 rw [if_neg h2]
 by_cases h3:x.op=31
 ·rw [if_pos h3];exact .inl rfl
 rw [if_neg h3]
 by_cases h4:x.op=32
 ·rw [if_pos h4];exact .inl rfl
 rw [if_neg h4]
 by_cases h5:x.op=26
 ·rw [if_pos h5];split <;> exact .inl rfl
 rw [if_neg h5]
 by_cases h6:x.op=27
 ·rw [if_pos h6];split <;> exact .inl rfl
 rw [if_neg h6]
 by_cases h7:x.op=21
 ·rw [if_pos h7]
  split
  ·exact .inr rfl
  ·exact .inl rfl
 rw [if_neg h7]
 by_cases h8:x.op=23
 ·rw [if_pos h8];exact .inr rfl
 rw [if_neg h8]
 by_cases h9:x.op=15
 ·rw [if_pos h9];split <;> exact .inl rfl
 rw [if_neg h9]
 by_cases h10:1≤x.op∧x.op≤13
 ·rw [if_pos h10];split <;> exact .inl rfl
 rw [if_neg h10]
 split <;> exact .inl rfl
theorem exec_prefix (f:Fn) (pick:Pick) (x:Ins) (s:St):s.widths <+: (exec f pick x s).2.widths:=by
 rcases exec_widths f pick x s with h | h
 ·rw [h];exact List.prefix_refl _
 ·rw [h];exact List.prefix_append _ _
theorem exec_det {pick pick':Pick} {K:Nat} (h:∀ j,j<K→∀ n,pick j n=pick' j n) (f:Fn) (x:Ins) (s:St) :
  exec f pick x s=exec f pick' x s∨(K≤s.widths.length∧(exec f pick x s).2.widths=s.widths++[x.width]∧(exec f pick' x s).2.widths=s.widths++[x.width]):=by
 rcases Nat.lt_or_ge s.widths.length K with hk | hk
 ·left
  have e:∀ n,chosen pick s n=chosen pick' s n:=fun n=>by unfold chosen;rw [h _ hk]
  unfold exec
  dsimp only
  simp only [e]
 ·by_cases hc:x.op=23∨(x.op=21∧((x.args.map s.get).getD 0 zero).p=true)
  ·right
   refine ⟨hk,?_,?_⟩
   ·unfold exec
    dsimp only
    rcases hc with o | ⟨o,p⟩
    ·simp [o,St.chose]
    ·simp only [o,p];simp [St.chose]
   ·unfold exec
    dsimp only
    rcases hc with o | ⟨o,p⟩
    ·simp [o,St.chose]
    ·simp only [o,p];simp [St.chose]
  ·left
   unfold exec
   dsimp only
   by_cases o1:x.op=21
   ·have hp:¬ ((x.args.map s.get).getD 0 zero).p=true:=fun q=>hc (.inr ⟨o1,q⟩)
    rw [if_neg (by omega),if_neg (by omega),if_neg (by omega),if_neg (by omega),if_neg (by omega),if_neg (by omega),if_pos o1,if_neg hp,if_neg (by omega),if_neg (by omega),if_neg (by omega),if_neg (by omega),if_neg (by omega),if_neg (by omega),if_pos o1,if_neg hp]
   ·have o2:x.op≠23:=fun q=>hc (.inl q)
    simp [o1,o2]
/-- Two ends are one, or both runs have made more than K choices, and the first K + 1 were of the same widths. -/
def Det (K:Nat) {α:Type} (r r':α × St):Prop:=r=r'∨∃ ws:List Int,K<ws.length∧ws <+: r.2.widths∧ws <+: r'.2.widths
theorem runIns_prefix (f:Fn) (pick:Pick) (reads:List V):∀ (l:List Ins) (i v:Nat) (s:St),s.widths <+: (runIns f pick reads l i v s).2.widths
 | [],i,v,s=>List.prefix_refl _
 | x::r,i,v,s=>by
  unfold runIns
  split
  ·exact List.prefix_refl _
  ·split
   ·exact runIns_prefix f pick reads r (i+1) (v+1) (s.tick.set v (reads.getD i zero))
   ·have hp:=exec_prefix f pick x s.tick
    split
    next y s' e=>rw [e] at hp;exact hp.trans (runIns_prefix f pick reads r (i+1) (v+1) (s'.set v y))
    next s' e=>rw [e] at hp;exact hp.trans (runIns_prefix f pick reads r (i+1) (v+1) s')
    next t s' e=>rw [e] at hp;exact hp
    next o s' e=>rw [e] at hp;exact hp
theorem step_prefix (f:Fn) (pick:Pick) (reads:List V) (x:Ins) (r:List Ins) (i v:Nat) (s:St) (h1:s.steps≠400) (h2:¬ i<reads.length):(exec f pick x s.tick).2.widths <+: (runIns f pick reads (x::r) i v s).2.widths:=by
 rw [runIns,if_neg h1,if_neg h2]
 split
 next y s' e=>rw [e];exact runIns_prefix f pick reads r (i+1) (v+1) (s'.set v y)
 next s' e=>rw [e];exact runIns_prefix f pick reads r (i+1) (v+1) s'
 next t s' e=>rw [e];exact List.prefix_refl _
 next o s' e=>rw [e];exact List.prefix_refl _
theorem runIns_det {pick pick':Pick} {K:Nat} (h:∀ j,j<K→∀ n,pick j n=pick' j n) (f:Fn) (reads:List V):∀ (l:List Ins) (i v:Nat) (s:St),Det K (runIns f pick reads l i v s) (runIns f pick' reads l i v s)
 | [],i,v,s=>.inl rfl
 | x::r,i,v,s=>by
  by_cases h1:s.steps=400
  ·left
   rw [runIns,runIns,if_pos h1,if_pos h1]
  by_cases h2:i<reads.length
  ·rw [runIns,runIns,if_neg h1,if_neg h1,if_pos h2,if_pos h2]
   exact runIns_det h f reads r (i+1) (v+1) _
  rcases exec_det h f x s.tick with e | ⟨hk,e1,e2⟩
  ·rw [runIns,runIns,if_neg h1,if_neg h1,if_neg h2,if_neg h2,e]
   cases hq:exec f pick' x s.tick with
   | mk q s' =>
    cases q with
    | val y=>exact runIns_det h f reads r (i+1) (v+1) (s'.set v y)
    | on=>exact runIns_det h f reads r (i+1) (v+1) s'
    | go t=>exact .inl rfl
    | fin o=>exact .inl rfl
  ·refine .inr ⟨s.tick.widths++[x.width],by rw [List.length_append];simp;omega,?_,?_⟩
   ·rw [← e1];exact step_prefix f pick reads x r i v s h1 h2
   ·rw [← e2];exact step_prefix f pick' reads x r i v s h1 h2
theorem block_det {pick pick':Pick} {K:Nat} (h:∀ j,j<K→∀ n,pick j n=pick' j n) (f:Fn) (b:Nat) (frm:Int) (s:St):Det K (block f pick b frm s) (block f pick' b frm s):=runIns_det h f _ _ _ _ _
theorem block_prefix (f:Fn) (pick:Pick) (b:Nat) (frm:Int) (s:St):s.widths <+: (block f pick b frm s).2.widths:=runIns_prefix f pick _ _ _ _ _
theorem from_prefix (f:Fn) (pick:Pick):∀ (k b:Nat) (frm:Int) (s:St),s.widths <+: (from_ f pick k b frm s).2.1.widths
 | 0,_,_,_=>List.prefix_refl _
 | k+1,b,frm,s=>by
  have hp:=block_prefix f pick b frm s
  unfold from_
  cases hq:block f pick b frm s with
  | mk q s' =>
   rw [hq] at hp
   cases q with
   | over o=>exact hp
   | run t=>exact hp.trans (from_prefix f pick k t.toNat b s')
theorem from_det {pick pick':Pick} {K:Nat} (h:∀ j,j<K→∀ n,pick j n=pick' j n) (f:Fn):∀ (k b:Nat) (frm:Int) (s:St),
  from_ f pick k b frm s=from_ f pick' k b frm s∨∃ ws:List Int,K<ws.length∧ws <+: (from_ f pick k b frm s).2.1.widths∧ws <+: (from_ f pick' k b frm s).2.1.widths
 | 0,_,_,_=>.inl rfl
 | k+1,b,frm,s=>by
  have key:∀ (pk:Pick),(block f pk b frm s).2.widths <+: (from_ f pk (k+1) b frm s).2.1.widths:=fun pk=>by
   rw [from_]
   cases hq:block f pk b frm s with
   | mk q s' =>
    cases q with
    | over o=>exact List.prefix_refl _
    | run t=>exact from_prefix f pk k t.toNat b s'
  rcases block_det h f b frm s with e | ⟨ws,h1,h2,h3⟩
  ·rw [from_,from_,e]
   cases hq:block f pick' b frm s with
   | mk q s' =>
    cases q with
    | over o=>exact .inl rfl
    | run t =>
     rcases from_det h f k t.toNat b s' with e2 | ⟨ws,h1,h2,h3⟩
     ·left
      dsimp only
      rw [e2]
     ·exact .inr ⟨ws,h1,h2,h3⟩
  ·exact .inr ⟨ws,h1,h2.trans (key pick),h3.trans (key pick')⟩
/-- Two runs that are given the same first K choices: they are one, or both make more, and the first K + 1 are of the same widths. -/
theorem run_det {pick pick':Pick} {K:Nat} (h:∀ j,j<K→∀ n,pick j n=pick' j n) (f:Fn) (i:Inp) :
  run f pick i=run f pick' i∨∃ ws:List Int,K<ws.length∧ws <+: (run f pick i).2.1.widths∧ws <+: (run f pick' i).2.1.widths:=from_det h f 401 0 (-1) (start f i)
end Rn
end Go.Proofs.YthfhamagopbgcaaGreat
namespace Go.Proofs.YthfhamagopbgcaaGreat
set_option linter.unusedSimpArgs false
set_option linter.unusedVariables false
namespace Rn

/-- The widths of the choices that a run makes. -/
def wids (f:Fn) (i:Inp) (p:List Int):List Int:=(run f (given p) i).2.1.widths
/-- A list of choices that a run uses whole. -/
def Good (f:Fn) (i:Inp) (p:List Int):Prop :=
 p.length≤(wids f i p).length∧∀ j:Nat,j<p.length→0≤p.getD j 0∧p.getD j 0<Wd.sz ((wids f i p).getD j 0)
theorem good_nil (f:Fn) (i:Inp):Good f i []:=⟨Nat.zero_le _,fun j h=>absurd h (Nat.not_lt_zero _)⟩
theorem nextK_some (p w:List Int):∀ (n k:Nat),nextK p w n=some k→k<n∧p.getD k 0+1<Wd.sz (w.getD k 0)
 | 0,k,h=>by simp [nextK] at h
 | n+1,k,h=>by
  rw [nextK] at h
  split at h
  next h1=>injection h with h;subst h;exact ⟨Nat.lt_succ_self _,h1⟩
  next h1=>obtain ⟨q1,q2⟩:=nextK_some p w n k h;exact ⟨by omega,q2⟩
theorem padded_len {p:List Int} {n:Nat} (h:p.length≤n):(padded p n).length=n:=by unfold padded;simp;omega
theorem padded_get (p:List Int) (n j:Nat):(padded p n).getD j 0=p.getD j 0:=by
 unfold padded
 rw [List.getD_eq_getElem?_getD,List.getD_eq_getElem?_getD,List.getElem?_append]
 split
 ·rfl
 next h =>
  rw [List.getElem?_eq_none (l:=p) (by omega),List.getElem?_replicate]
  split <;> rfl
theorem bump_len {p:List Int} {k:Nat} (h:k<p.length):(bump p k).length=k+1:=by unfold bump;simp;omega
theorem bump_lt {p:List Int} {k j:Nat} (h:k<p.length) (hj:j<k):(bump p k).getD j 0=p.getD j 0:=by
 unfold bump
 rw [List.getD_eq_getElem?_getD,List.getElem?_append_left (by simp;omega),List.getElem?_take,if_pos hj,← List.getD_eq_getElem?_getD]
theorem bump_self {p:List Int} {k:Nat} (h:k<p.length):(bump p k).getD k 0=p.getD k 0+1:=by
 unfold bump
 rw [List.getD_eq_getElem?_getD,List.getElem?_append_right (by simp;omega)]
 have:k-(p.take k).length=0:=by simp;omega
 rw [this];rfl
theorem prefix_getD {a b:List Int} (h:a <+: b) {j:Nat} (hj:j<a.length):b.getD j 0=a.getD j 0:=by
 obtain ⟨t,rfl⟩:=h
 rw [List.getD_eq_getElem?_getD,List.getD_eq_getElem?_getD,List.getElem?_append_left hj]
/-- The next list is used whole as well; the widths up to its end are those that were. -/
theorem good_next {f:Fn} {i:Inp} {p:List Int} (h:Good f i p) {k:Nat} (hk:nextK (padded p (wids f i p).length) (wids f i p) (wids f i p).length=some k) :
  Good f i (bump (padded p (wids f i p).length) k)∧(wids f i p).take (k+1) <+: wids f i (bump (padded p (wids f i p).length) k):=by
 obtain ⟨k1,k2⟩:=nextK_some _ _ _ _ hk
 have hl:=padded_len h.1
 have hbl:(bump (padded p (wids f i p).length) k).length=k+1:=bump_len (by rw [hl];exact k1)
 have hb1:∀ j,j<k→(bump (padded p (wids f i p).length) k).getD j 0=p.getD j 0:=fun j hj=>by rw [bump_lt (by rw [hl];exact k1) hj,padded_get]
 have hb2:(bump (padded p (wids f i p).length) k).getD k 0=p.getD k 0+1:=by rw [bump_self (by rw [hl];exact k1),padded_get]
 rw [padded_get] at k2
 obtain ⟨b,hb⟩:∃ b,bump (padded p (wids f i p).length) k=b:=⟨_,rfl⟩
 rw [hb] at hbl hb1 hb2 ⊢
 have hp0:∀ j,0≤p.getD j 0:=fun j=>by
  rcases Nat.lt_or_ge j p.length with q | q
  ·exact (h.2 j q).1
  ·rw [List.getD_eq_getElem?_getD,List.getElem?_eq_none q];exact Int.le_refl 0
 have hag:∀ j,j<k→∀ n,given p j n=given b j n:=fun j hj n=>by
  unfold given
  rw [if_pos (show j<b.length by omega),hb1 j hj]
  split
  ·rfl
  next q=>rw [List.getD_eq_getElem?_getD,List.getElem?_eq_none (by omega)];simp
 have hw:∃ ws:List Int,k<ws.length∧ws <+: wids f i p∧ws <+: wids f i b:=by
  rcases run_det hag f i with e | ⟨ws,h1,h2,h3⟩
  ·exact ⟨wids f i p,k1,List.prefix_refl _,by unfold wids;rw [e];exact List.prefix_refl _⟩
  ·exact ⟨ws,h1,h2,h3⟩
 obtain ⟨ws,w1,w2,w3⟩:=hw
 have hsame:∀ j,j≤k→(wids f i b).getD j 0=(wids f i p).getD j 0:=fun j hj=>by rw [prefix_getD w2 (by omega),prefix_getD w3 (by omega)]
 have hwl:=w3.length_le
 refine ⟨⟨by omega,fun j hj=>?_⟩,?_⟩
 ·rcases Nat.lt_or_ge j k with q | q
  ·rw [hb1 j q,hsame j (by omega)]
   refine ⟨hp0 j,?_⟩
   rcases Nat.lt_or_ge j p.length with q2 | q2
   ·exact (h.2 j q2).2
   ·rw [List.getD_eq_getElem?_getD,List.getElem?_eq_none q2];exact Wd.sz_pos _
  ·obtain rfl:j=k:=by omega
   rw [hb2,hsame j (Nat.le_refl _)]
   exact ⟨by have:=hp0 j;omega,k2⟩
 ·obtain ⟨t,ht⟩:=w2
  have e:(wids f i p).take (k+1)=ws.take (k+1):=by rw [← ht,List.take_append_of_le_length (by omega)]
  rw [e]
  exact (List.take_prefix _ _).trans w3
theorem given_out {p:List Int} {j:Nat} (hj:p.length≤j) (n:Int):given p j n=0:=by unfold given;rw [if_neg (by omega)]
end Rn
end Go.Proofs.YthfhamagopbgcaaGreat
namespace Go.Proofs.YthfhamagopbgcaaGreat
set_option linter.unusedSimpArgs false
set_option linter.unusedVariables false
namespace Rn

/-- A comparison that is an order: -1, 0, 1; 0 for equals alone; turned round; in chains. -/
structure IsCmp {α:Type} (c:α→α→Int):Prop where
 three:∀ a b,c a b=-1∨c a b=0∨c a b=1
 zero:∀ a b,c a b=0↔a=b
 swap:∀ a b,c b a=-c a b
 trans:∀ a b d,c a b=-1→c b d=-1→c a d=-1
theorem sgn_cases (a b:Int):(a<b∧sgn a b=-1)∨(a=b∧sgn a b=0)∨(b<a∧sgn a b=1):=by
 unfold sgn
 rcases Int.lt_trichotomy a b with h | h | h
 ·exact .inl ⟨h,if_pos h⟩
 ·exact .inr (.inl ⟨h,by rw [if_neg (by omega),if_neg (by omega)]⟩)
 ·exact .inr (.inr ⟨h,by rw [if_neg (by omega),if_pos h]⟩)
theorem isCmp_sgn:IsCmp sgn where
 three a b:=by have:=sgn_cases a b;omega
 zero a b:=by have:=sgn_cases a b;omega
 swap a b:=by have:=sgn_cases a b;have:=sgn_cases b a;omega
 trans a b d h1 h2:=by have:=sgn_cases a b;have:=sgn_cases b d;have:=sgn_cases a d;omega
/-- Lists, by the first place at which they differ; else the shorter one first. -/
def lex {α:Type} (c:α→α→Int):List α→List α→Int
 | [],[]=>0
 | [],_::_=>-1
 | _::_,[]=>1
 | a::as,b::bs=>if c a b=0 then lex c as bs else c a b
theorem lex_ints:∀ a b:List Int,cmpInts a b=lex sgn a b
 | [],[]=>rfl
 | [],_::_=>rfl
 | _::_,[]=>rfl
 | a::as,b::bs=>by rw [cmpInts,lex,lex_ints as bs]
theorem lex_mem:∀ a b:List (List Int),cmpMem a b=lex cmpInts a b
 | [],[]=>rfl
 | [],_::_=>rfl
 | _::_,[]=>rfl
 | a::as,b::bs=>by rw [cmpMem,lex,lex_mem as bs]
theorem lex_three {α:Type} {c:α→α→Int} (h:IsCmp c):∀ a b:List α,lex c a b=-1∨lex c a b=0∨lex c a b=1
 | [],[]=>.inr (.inl rfl)
 | [],_::_=>.inl rfl
 | _::_,[]=>.inr (.inr rfl)
 | a::as,b::bs=>by
  rw [lex]
  split
  ·exact lex_three h as bs
  ·exact h.three a b
theorem lex_zero {α:Type} {c:α→α→Int} (h:IsCmp c):∀ a b:List α,lex c a b=0↔a=b
 | [],[]=>by simp [lex]
 | [],_::_=>by simp [lex]
 | _::_,[]=>by simp [lex]
 | a::as,b::bs=>by
  rw [lex,List.cons.injEq]
  split
  next e=>rw [lex_zero h as bs];exact ⟨fun q=>⟨(h.zero a b).1 e,q⟩,fun q=>q.2⟩
  next e=>exact ⟨fun q=>absurd q e,fun q=>absurd ((h.zero a b).2 q.1) e⟩
theorem lex_swap {α:Type} {c:α→α→Int} (h:IsCmp c):∀ a b:List α,lex c b a=-lex c a b
 | [],[]=>rfl
 | [],_::_=>rfl
 | _::_,[]=>rfl
 | a::as,b::bs=>by
  rw [lex,lex,h.swap a b]
  by_cases e:c a b=0
  ·rw [if_pos (by omega),if_pos e];exact lex_swap h as bs
  ·rw [if_neg (by omega),if_neg e]
theorem lex_trans {α:Type} {c:α→α→Int} (h:IsCmp c):∀ a b d:List α,lex c a b=-1→lex c b d=-1→lex c a d=-1
 | [],b,[],h1,h2=>by cases b <;> simp [lex] at h1 h2
 | [],b,_::_,h1,h2=>rfl
 | a::as,[],d,h1,h2=>by simp [lex] at h1
 | a::as,b::bs,[],h1,h2=>by simp [lex] at h2
 | a::as,b::bs,d::ds,h1,h2=>by
  rw [lex] at h1 h2 ⊢
  by_cases e1:c a b=0
  ·have:=(h.zero a b).1 e1
   subst this
   rw [if_pos e1] at h1
   by_cases e2:c a d=0
   ·rw [if_pos e2] at h2 ⊢
    exact lex_trans h as bs ds h1 h2
   ·rw [if_neg e2] at h2 ⊢;exact h2
  ·rw [if_neg e1] at h1
   by_cases e2:c b d=0
   ·have:=(h.zero b d).1 e2
    subst this
    rw [if_neg e1];exact h1
   ·rw [if_neg e2] at h2
    have:=h.trans a b d h1 h2
    rw [if_neg (by omega)];exact this
theorem isCmp_lex {α:Type} {c:α→α→Int} (h:IsCmp c):IsCmp (lex c):=⟨lex_three h,lex_zero h,lex_swap h,lex_trans h⟩
theorem isCmp_ints:IsCmp cmpInts:=by
 have:cmpInts=lex sgn:=funext fun a=>funext fun b=>lex_ints a b
 rw [this];exact isCmp_lex isCmp_sgn
theorem isCmp_mem:IsCmp cmpMem:=by
 have:cmpMem=lex cmpInts:=funext fun a=>funext fun b=>lex_mem a b
 rw [this];exact isCmp_lex isCmp_ints
theorem heads_inj {a b:Out} (h:heads a=heads b) (hm:a.mem=b.mem):a=b:=by
 obtain ⟨k,⟨p,s,n⟩,m⟩:=a
 obtain ⟨k',⟨p',s',n'⟩,m'⟩:=b
 simp [heads] at h hm
 obtain ⟨rfl,h2,rfl,rfl⟩:=h
 subst hm
 have:p=p':=by cases p <;> cases p' <;> simp [bit] at h2 <;> rfl
 subst this
 rfl
theorem isCmp_out:IsCmp cmpOut where
 three a b:=by unfold cmpOut;split;exact isCmp_mem.three _ _;exact isCmp_ints.three _ _
 zero a b:=by
  unfold cmpOut
  split
  next e=>rw [isCmp_mem.zero];exact ⟨fun q=>heads_inj ((isCmp_ints.zero _ _).1 e) q,fun q=>by rw [q]⟩
  next e=>exact ⟨fun q=>absurd q e,fun q=>absurd ((isCmp_ints.zero _ _).2 (by rw [q])) e⟩
 swap a b:=by
  unfold cmpOut
  rw [isCmp_ints.swap (heads a) (heads b),isCmp_mem.swap a.mem b.mem]
  by_cases e:cmpInts (heads a) (heads b)=0
  ·rw [if_pos (by omega),if_pos e]
  ·rw [if_neg (by omega),if_neg e]
 trans a b d h1 h2:=by
  unfold cmpOut at *
  by_cases e1:cmpInts (heads a) (heads b)=0
  ·rw [if_pos e1] at h1
   have q1:=(isCmp_ints.zero _ _).1 e1
   rw [q1]
   by_cases e2:cmpInts (heads b) (heads d)=0
   ·rw [if_pos e2] at h2 ⊢;exact isCmp_mem.trans _ _ _ h1 h2
   ·rw [if_neg e2] at h2 ⊢;exact h2
  ·rw [if_neg e1] at h1
   by_cases e2:cmpInts (heads b) (heads d)=0
   ·rw [← (isCmp_ints.zero _ _).1 e2,if_neg e1];exact h1
   ·rw [if_neg e2] at h2
    have:=isCmp_ints.trans _ _ _ h1 h2
    rw [if_neg (by omega)];exact this
end Rn
end Go.Proofs.YthfhamagopbgcaaGreat
namespace Go.Proofs.YthfhamagopbgcaaGreat
set_option linter.unusedSimpArgs false
set_option linter.unusedVariables false
namespace Rn

def Asc (l:List Out):Prop:=l.Pairwise fun a b=>cmpOut a b=-1
theorem insert_mem (x:Out):∀ (l:List Out) (o:Out),o ∈ insert x l↔o=x∨o ∈ l
 | [],o=>by simp [insert]
 | y::r,o=>by
  rw [insert]
  split
  next e =>
   have:=(isCmp_out.zero x y).1 e
   subst this
   simp
  next e =>
   split
   ·simp
   ·rw [List.mem_cons,insert_mem x r o,List.mem_cons]
    constructor
    ·rintro (h | h | h)
     ·exact .inr (.inl h)
     ·exact .inl h
     ·exact .inr (.inr h)
    ·rintro (h | h | h)
     ·exact .inr (.inl h)
     ·exact .inl h
     ·exact .inr (.inr h)
theorem insert_asc (x:Out):∀ (l:List Out),Asc l→Asc (insert x l)
 | [],_=>by simp [insert,Asc]
 | y::r,h=>by
  rw [insert]
  unfold Asc at h
  rw [List.pairwise_cons] at h
  split
  next e=>unfold Asc;rw [List.pairwise_cons];exact h
  next e =>
   split
   next e2 =>
    have h1:cmpOut x y=-1:=by have:=isCmp_out.three x y;omega
    unfold Asc
    rw [List.pairwise_cons,List.pairwise_cons]
    refine ⟨fun z hz=>?_,h⟩
    rcases List.mem_cons.1 hz with rfl | hz
    ·exact h1
    ·exact isCmp_out.trans _ _ _ h1 (h.1 z hz)
   next e2 =>
    have h1:cmpOut y x=-1:=by have:=isCmp_out.three x y;have:=isCmp_out.swap x y;omega
    unfold Asc
    rw [List.pairwise_cons]
    refine ⟨fun z hz=>?_,insert_asc x r h.2⟩
    rcases (insert_mem x r z).1 hz with rfl | hz
    ·exact h1
    ·exact h.1 z hz
end Rn
end Go.Proofs.YthfhamagopbgcaaGreat
