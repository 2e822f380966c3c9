/- Parts. -/
import Derived.Test.YthfhamagopbgcaaGreatL01
set_option linter.unusedSimpArgs false
set_option linter.unusedVariables false
set_option maxRecDepth 100000
set_option maxHeartbeats 16000000
namespace Go.Proofs.YthfhamagopbgcaaGreat
section
open Go.RowKit
theorem fi (z:Int):IntKind.u32.wrap z=z%4294967296:=by unfold IntKind.wrap;simp[IntKind.signed,IntKind.bits]
namespace Wd
def sz (n:Int):Int:=2 ^ n.toNat
def sg (n a:Int):Int:=if sz (n-1)<=a then a-sz n else a
def Wid (n:Int):Prop:=1<=n/\n<=32
def Word (n a:Int):Prop:=0<=a/\a<sz n
def widB (n:Int):Bool:=decide (1<=n) && decide (n<=32)
def op (o n a b:Int):Option Int :=
 if o=1 then some ((a+b)%sz n)
 else if o=2 then some ((a-b)%sz n)
 else if o=3 then some ((a*b)%sz n)
 else if o=4 then (if b=0 then none else some (a / b))
 else if o=5 then (if b=0 then none else some (a%b))
 else if o=6 then (if b=0\/(sg n a=-sz (n-1)/\sg n b=-1) then none else some ((sg n a).tdiv (sg n b)%sz n))
 else if o=7 then (if b=0\/(sg n a=-sz (n-1)/\sg n b=-1) then none else some ((sg n a).tmod (sg n b)%sz n))
 else if o=8 then some (bits .and .u32 a b)
 else if o=9 then some (bits .or .u32 a b)
 else if o=10 then some (bits .xor .u32 a b)
 else if n<=b then none
 else if o=11 then some (a*2 ^ b.toNat%sz n)
 else if o=12 then some (a / 2 ^ b.toNat)
 else some (sg n a / 2 ^ b.toNat%sz n)
def brk (o fl n a b:Int):Bool :=
 let u:=fl%2 == 1
 let s:=fl / 2%2 == 1
 let e:=fl / 4%2 == 1
 let x:=sg n a
 let y:=sg n b
 if o=1 then u && decide (sz n<=a+b) || s && (decide (x+y < -sz (n-1)) || decide (sz (n-1)<=x+y))
 else if o=2 then u && decide (a<b) || s && (decide (x-y < -sz (n-1)) || decide (sz (n-1)<=x-y))
 else if o=3 then u && decide (sz n<=a*b) || s && (decide (x*y < -sz (n-1)) || decide (sz (n-1)<=x*y))
 else if o=11 then u && decide (sz n<=a*2 ^ b.toNat) || s && (decide (x*2 ^ b.toNat < -sz (n-1)) || decide (sz (n-1)<=x*2 ^ b.toNat))
 else if o=4 then e && decide (a%b≠0)
 else if o=6 then e && decide (x.tmod y≠0)
 else if o=12\/o=13 then e && decide (a%2 ^ b.toNat≠0)
 else false
def broken (o fl n a b:Int):Bool:=(op o n a b).isSome && brk o fl n a b
def cmpN (p a b:Int):Bool :=
 if p=0 then a == b else if p=1 then a != b
 else if p=2\/p=6 then decide (a<b) else if p=3\/p=7 then decide (a<=b)
 else if p=4\/p=8 then decide (b<a) else decide (b<=a)
def cmp (p n a b:Int):Bool:=if 6<=p then cmpN p (sg n a) (sg n b) else cmpN p a b
def ext (o frm tw x:Int):Int:=if o=16 then x else if o=17 then sg frm x%sz tw else x%sz tw
def lanes (o lane:Int):Nat->Int->Int->Int
 | 0,_,_=>0
 | k+1,a,b=>(if o=19 then a%sz lane+b%sz lane else a%sz lane-b%sz lane)%sz lane+sz lane*lanes o lane k (a / sz lane) (b / sz lane)
theorem sz_pos (n:Int):0<sz n:=by unfold sz;exact Int.pow_pos (by decide)
theorem sz_nat (n:Int):sz n=((2 ^ n.toNat:Nat):Int):=by unfold sz;simp
theorem sz_le {n m:Int}(h:n.toNat<=m.toNat):sz n<=sz m:=by rw[sz_nat,sz_nat];exact_mod_cast Nat.pow_le_pow_right (by decide) h
theorem sz_32 {n:Int}(h:Wid n):sz n<=4294967296:=by
 have:=sz_le (n:=n) (m:=32) (by have:=h.2;omega);have e:sz 32=4294967296:=by decide
 omega
theorem sz_half {n:Int}(h:Wid n):sz n=2*sz (n-1):=by
 unfold sz;have:n.toNat=(n-1).toNat+1:=by have:=h.1;omega
 rw[this,Int.pow_succ];omega
theorem sg_range {n a:Int}(hn:Wid n)(ha:Word n a):-sz (n-1)<=sg n a/\sg n a<sz (n-1):=by have d:=sz_half hn;obtain⟨g,j⟩:=ha;unfold sg;split<;>omega
theorem mod_word {n:Int}(z:Int):Word n (z%sz n):=⟨Int.emod_nonneg _ (by have:=sz_pos n;omega),Int.emod_lt_of_pos _ (sz_pos n)⟩
theorem ofInt_nat (n:Nat)(h:n<4294967296):(BitVec.ofInt 32 (n:Int)).toNat=n:=by rw[BitVec.ofInt_natCast,BitVec.toNat_ofNat];exact Nat.mod_eq_of_lt h
theorem wrap_in (z:Int)(h0:0<=z)(h1:z<4294967296):IntKind.u32.wrap z=z:=by rw[fi];omega
theorem bits_word {n a b:Int}(hn:Wid n)(ha:Word n a)(hb:Word n b):Word n (bits .and .u32 a b)/\Word n (bits .or .u32 a b)/\Word n (bits .xor .u32 a b):=by
 obtain⟨x,rfl⟩:=vF ha.1;obtain⟨y,rfl⟩:=vF hb.1;have g:=sz_32 hn;have j:x<2 ^ n.toNat:=by have:=ha.2;rw[sz_nat]at this;exact_mod_cast this
 have l:y<2 ^ n.toNat:=by have:=hb.2;rw[sz_nat]at this;exact_mod_cast this
 have p:(2 ^ n.toNat:Nat)<=4294967296:=by rw[sz_nat]at g;generalize 2 ^ n.toNat=m at g ⊢;omega
 have d:∀z:Nat,z<2 ^ n.toNat->Word n (IntKind.u32.wrap (z:Int)):=fun z hz=>by rw[wrap_in _ (by omega) (by omega)];exact⟨by omega,by rw[sz_nat];exact_mod_cast hz⟩
 refine⟨?_,?_,?_⟩
 ·show Word n (IntKind.u32.wrap (((BitVec.ofInt 32 (x:Int) &&& BitVec.ofInt 32 (y:Int)).toNat:Nat):Int));rw[BitVec.toNat_and,ofInt_nat _ (by omega),ofInt_nat _ (by omega)];exact d _ (Nat.lt_of_le_of_lt Nat.and_le_left j)
 ·show Word n (IntKind.u32.wrap (((BitVec.ofInt 32 (x:Int) ||| BitVec.ofInt 32 (y:Int)).toNat:Nat):Int));rw[BitVec.toNat_or,ofInt_nat _ (by omega),ofInt_nat _ (by omega)];exact d _ (Nat.or_lt_two_pow j l)
 ·show Word n (IntKind.u32.wrap (((BitVec.ofInt 32 (x:Int) ^^^ BitVec.ofInt 32 (y:Int)).toNat:Nat):Int));rw[BitVec.toNat_xor,ofInt_nat _ (by omega),ofInt_nat _ (by omega)];exact d _ (Nat.xor_lt_two_pow j l)
theorem op_word {o n a b z:Int}(hn:Wid n)(ha:Word n a)(hb:Word n b)(h:op o n a b=some z):Word n z:=by
 obtain⟨H,I,J⟩:=bits_word hn ha hb;have F:∀k:Int,0<=k->0<=a / k/\a / k<=a:=fun k hk=>⟨wD ha.1 hk,Int.ediv_le_self _ ha.1⟩;have G:∀k:Int,0<=k->Word n (a / k):=fun k hk=>⟨(F k hk).1,by have:=(F k hk).2;have:=ha.2;omega⟩;have K:(0:Int)<=2 ^ b.toNat:=Int.le_of_lt (Int.pow_pos (by decide))
 have d:∀{c:Prop} [Decidable c] {y:Int},(if c then none else some y)=some z->Word n y->Word n z:=fun h hy=>by
  split at h
  ·cases h
  ·injection h with h;rw[<-h];exact hy
 unfold op at h;by_cases q:o=1
 ·rw[wa q]at h;injection h with h;rw[<-h];exact mod_word _
 rw[yD q]at h;by_cases r:o=2
 ·rw[wa r]at h;injection h with h;rw[<-h];exact mod_word _
 rw[yD r]at h;by_cases t:o=3
 ·rw[wa t]at h;injection h with h;rw[<-h];exact mod_word _
 rw[yD t]at h;by_cases u:o=4
 ·rw[wa u]at h;exact d h (G b hb.1)
 rw[yD u]at h;by_cases A:o=5
 ·rw[wa A]at h;by_cases p:b=0
  ·rw[wa p]at h;cases h
  ·rw[yD p]at h;injection h with h;have L:=Int.emod_nonneg a (b:=b) p;have M:=Int.emod_lt_of_pos a (b:=b) (by have:=hb.1;omega);have:=hb.2;exact⟨by omega,by omega⟩
 rw[yD A]at h;by_cases B:o=6
 ·rw[wa B]at h;exact d h (mod_word _)
 rw[yD B]at h;by_cases C:o=7
 ·rw[wa C]at h;exact d h (mod_word _)
 rw[yD C]at h;by_cases D:o=8
 ·rw[wa D]at h;injection h with h;rw[<-h];exact H
 rw[yD D]at h;by_cases E:o=9
 ·rw[wa E]at h;injection h with h;rw[<-h];exact I
 rw[yD E]at h;by_cases g:o=10
 ·rw[wa g]at h;injection h with h;rw[<-h];exact J
 rw[yD g]at h;by_cases m:n<=b
 ·rw[wa m]at h;cases h
 rw[yD m]at h;by_cases j:o=11
 ·rw[wa j]at h;injection h with h;rw[<-h];exact mod_word _
 rw[yD j]at h;by_cases l:o=12
 ·rw[wa l]at h;injection h with h;rw[<-h];exact G _ K
 rw[yD l]at h;injection h with h;rw[<-h];exact mod_word _
def bt (o:Int)(p q:Int):Int:=if o=8 then p*q else if o=9 then max p q else (p+q)%2
end Wd
namespace Wd
def lane1 (o S x y:Int):Int:=(if o=19 then x%S+y%S else x%S-y%S)%S
theorem lane1_range (o S x y:Int)(hS:0<S):0<=lane1 o S x y/\lane1 o S x y<S:=⟨Int.emod_nonneg _ (by omega),Int.emod_lt_of_pos _ hS⟩
theorem div_pow (a S:Int)(hS:0<S)(k:Nat):a / S / S ^ k=a / S ^ (k+1):=by rw[Int.ediv_ediv_of_nonneg (Int.le_of_lt hS),Int.pow_succ,Int.mul_comm]
theorem lanes_succ (o l:Int)(k:Nat)(a b:Int):lanes o l (k+1) a b=lane1 o (sz l) a b+sz l*lanes o l k (a / sz l) (b / sz l):=rfl
theorem lanes_step (o l:Int)(k:Nat):∀a b:Int,lanes o l (k+1) a b=lanes o l k a b+lane1 o (sz l) (a / sz l ^ k) (b / sz l ^ k)*sz l ^ k:=by
 have d:=sz_pos l
 induction k with
 | zero=>intro a b;rw[lanes_succ];simp[lanes]
 | succ k ih =>
  intro a b;rw[lanes_succ,ih,lanes_succ o l k a b,div_pow _ _ d,div_pow _ _ d,Int.mul_add,Int.pow_succ (sz l) k,Int.add_assoc];congr 2;rw[<-Int.mul_assoc,Int.mul_comm (sz l) (lane1 _ _ _ _),Int.mul_assoc,Int.mul_comm (sz l) (sz l ^ k)]
theorem lanes_range (o l:Int)(k:Nat)(a b:Int):0<=lanes o l k a b/\lanes o l k a b<sz l ^ k:=by
 have j:=sz_pos l
 induction k generalizing a b with
 | zero=>simp[lanes]
 | succ k ih =>
  obtain⟨d,m⟩:=ih (a / sz l) (b / sz l);obtain⟨p,q⟩:=lane1_range o (sz l) a b j;rw[lanes_succ,Int.pow_succ,Int.mul_comm (sz l ^ k)];have r:0<=sz l*lanes o l k (a / sz l) (b / sz l):=Int.mul_nonneg (by omega) d;have g:sz l*(lanes o l k (a / sz l) (b / sz l)+1)<=sz l*sz l ^ k:=Int.mul_le_mul_of_nonneg_left (by omega) (by omega);rw[Int.mul_add]at g;omega
theorem sz_pow (m k:Nat):sz (m:Int) ^ k=sz ((m*k:Nat):Int):=by unfold sz;rw[vG,vG,Int.pow_mul]
end Wd
namespace Wd
theorem mask_and {n x:Int}(hn:Wid n)(h0:0<=x)(h1:x<4294967296):bits .and .u32 x (sz n-1)=x%sz n:=by
 obtain⟨y,rfl⟩:=vF h0;have p:y<4294967296:=by omega
 have d:=sz_32 hn;have g:=sz_pos n;rw[sz_nat]at d g ⊢;generalize hm:n.toNat=m at d g ⊢
 have l:((2 ^ m:Nat):Int)-1=((2 ^ m-1:Nat):Int):=by have:=Nat.two_pow_pos m;omega
 have j:2 ^ m-1<4294967296:=by generalize 2 ^ m=q at d g ⊢;omega
 rw[l];show IntKind.u32.wrap (((BitVec.ofInt 32 (y:Int) &&& BitVec.ofInt 32 ((2 ^ m-1:Nat):Int)).toNat:Nat):Int)=_;rw[BitVec.toNat_and,ofInt_nat _ p,ofInt_nat _ j,Nat.and_two_pow_sub_one_eq_mod,wrap_in _ (by omega) (by have:=Nat.mod_le y (2 ^ m);omega)];simp
theorem sz_dvd {n:Int}(hn:Wid n):sz n ∣ 4294967296:=by
 have e:(4294967296:Int)=2 ^ 32:=by decide
 rw[e];unfold sz;have h:=hn.2;exact⟨2 ^ (32-n.toNat),by rw[<-Int.pow_add];congr 1;omega⟩
theorem mod_mod {n:Int}(z:Int)(hn:Wid n):z%4294967296%sz n=z%sz n:=Int.emod_emod_of_dvd z (sz_dvd hn)
theorem wrap_mask {n:Int}(z:Int)(hn:Wid n):bits .and .u32 (z%4294967296) (sz n-1)=z%sz n:=by rw[mask_and hn (by omega) (by omega),mod_mod z hn]
end Wd
end
section
namespace Rn
open Ref
structure V where
 p:Bool
 s:Int
 n:Int
 deriving Inhabited,DecidableEq
def zero:V:=⟨false,0,0⟩
def poison:V:=⟨true,0,0⟩
def word (n:Int):V:=⟨false,0,n⟩
structure Out where
 kind:Int
 ret:V
 mem:List (List Int)
 deriving Inhabited,DecidableEq
def undefd:Out:=⟨1,zero,[]⟩
def long:Out:=⟨2,zero,[]⟩
structure Inp where
 args:List Int
 mem:List (List Int)
 deriving Inhabited,DecidableEq
structure St where
 vals:List V
 had:List Bool
 mem:List (List Int)
 widths:List Int
 steps:Nat
 deriving Inhabited,DecidableEq
def St.get (s:St)(v:Int):V:=s.vals.getD v.toNat zero
def St.set (s:St)(v:Nat)(x:V):St:={s with vals:=s.vals.set v x,had:=s.had.set v true}
def St.tick (s:St):St:={s with steps:=s.steps+1}
abbrev Pick:=Nat->Int->Int
def given (picks:List Int):Pick:=fun k n=>if k<picks.length then picks.getD k 0%Wd.sz n else 0
def chosen (pick:Pick)(s:St)(n:Int):V:=word (pick s.widths.length n)
def St.chose (s:St)(n:Int):St:={s with widths:=s.widths++[n]}
def arith (o fl n:Int)(a b:V):Option V :=
 if (4<=o/\o<=7)/\((b.p=true\/b.n=0)\/(o=6\/o=7)/\Wd.sg n b.n=-1/\(a.p=true\/Wd.sg n a.n=-Wd.sz (n-1))) then none
 else if a.p=true\/b.p=true then some poison
 else match Wd.op o n a.n b.n with
  | none=>some poison
  | some z=>if Wd.brk o fl n a.n b.n=true then some poison else some (word z)
def bytesAt (mem:List (List Int))(p:V)(n:Nat):Option (List Int) :=
 if p.p=true\/(mem.getD (p.s-1).toNat []).length<p.n.toNat+n then none else some (((mem.getD (p.s-1).toNat []).drop p.n.toNat).take n)
def numB:List Int->Int
 | []=>0
 | b::r=>b+256*numB r
def load (mem:List (List Int))(p:V)(n:Nat):Option V :=
 (bytesAt mem p n).map fun l=>if l.any (fun b=>decide (b<0))=true then poison else word (numB l)
def bytesOf (x:V):Nat->Int->List Int
 | 0,_=>[]
 | k+1,z=>(if x.p=true then -1 else z%256)::bytesOf x k (z / 256)
def overlay (l:List Int)(at_:Nat)(bs:List Int):List Int:=l.take at_++bs++l.drop (at_+bs.length)
def store (mem:List (List Int))(p x:V)(n:Nat):Option (List (List Int)) :=
 if p.p=true\/(mem.getD (p.s-1).toNat []).length<p.n.toNat+n then none
 else some (mem.set (p.s-1).toNat (overlay (mem.getD (p.s-1).toNat []) p.n.toNat (bytesOf x n x.n)))
def gep (slots:List Int)(fl k:Int)(p b:V):V :=
 if fl=8/\slots.getD (p.s-1).toNat 0<(p.n+Wd.sg k b.n)%4294967296 then poison else ⟨false,p.s,(p.n+Wd.sg k b.n)%4294967296⟩
def truth (b:Bool):V:=word (if b=true then 1 else 0)
inductive Res
 | val (v:V)
 | on
 | go (t:Int)
 | fin (o:Out)
 deriving DecidableEq
def plain (f:Fn)(x:Ins)(l:List V)(ks:List Int):V :=
 if x.op=0 then word x.imm
 else if x.op=14 then truth (Wd.cmp x.imm (ks.getD 0 0) (l.getD 0 zero).n (l.getD 1 zero).n)
 else if x.op=16\/x.op=17\/x.op=18 then word (Wd.ext x.op (ks.getD 0 0) x.width (l.getD 0 zero).n)
 else if x.op=19\/x.op=20 then word (Wd.lanes x.op x.imm (x.width / x.imm).toNat (l.getD 0 zero).n (l.getD 1 zero).n)
 else if x.op=24 then ⟨false,x.imm+1,0⟩
 else gep f.slots x.flags (ks.getD 1 0) (l.getD 0 zero) (l.getD 1 zero)
def exec (f:Fn)(pick:Pick)(x:Ins)(s:St):Res × St :=
 let l:=x.args.map s.get
 let ks:=x.args.map (kind f)
 if x.op=29 then (.go (x.to.getD 0 0),s)
 else if x.op=30 then (if (l.getD 0 zero).p=true then (.fin undefd,s) else (.go (x.to.getD (1-(l.getD 0 zero).n).toNat 0),s))
 else if x.op=31 then (.fin ⟨0,l.getD 0 zero,s.mem⟩,s)
 else if x.op=32 then (.fin undefd,s)
 else if x.op=26 then (match load s.mem (l.getD 0 zero) (x.width / 8).toNat with|none=>(.fin undefd,s)|some v=>(.val v,s))
 else if x.op=27 then (match store s.mem (l.getD 0 zero) (l.getD 1 zero) (ks.getD 1 0 / 8).toNat with|none=>(.fin undefd,s)|some m=>(.on,{s with mem:=m}))
 else if x.op=21 then (if (l.getD 0 zero).p=true then (.val (chosen pick s x.width),s.chose x.width) else (.val (l.getD 0 zero),s))
 else if x.op=23 then (.val (chosen pick s x.width),s.chose x.width)
 else if x.op=15 then (if (l.getD 0 zero).p=true then (.val poison,s) else (.val (l.getD (2-(l.getD 0 zero).n).toNat zero),s))
 else if 1<=x.op/\x.op<=13 then (match arith x.op x.flags x.width (l.getD 0 zero) (l.getD 1 zero) with|none=>(.fin undefd,s)|some v=>(.val v,s))
 else if x.op=22\/l.any (·.p)=true then (.val poison,s)
 else (.val (plain f x l ks),s)
inductive Nx
 | run (t:Int)
 | over (o:Out)
 deriving DecidableEq
def phiRead (s:St)(frm:Int)(x:Ins):V:=s.get (x.args.getD (x.to.idxOf frm) 0)
def phis (l:List Ins):List Ins:=l.takeWhile fun x=>decide (x.op=28)
def runIns (f:Fn)(pick:Pick)(reads:List V):List Ins->Nat->Nat->St->Nx × St
 | [],_,_,s=>(.over undefd,s)
 | x::r,i,v,s =>
  if s.steps=400 then (.over long,s)
  else if i<reads.length then runIns f pick reads r (i+1) (v+1) (s.tick.set v (reads.getD i zero))
  else match exec f pick x s.tick with
   | (.val y,s')=>runIns f pick reads r (i+1) (v+1) (s'.set v y)
   | (.on,s')=>runIns f pick reads r (i+1) (v+1) s'
   | (.go t,s')=>(.run t,s')
   | (.fin o,s')=>(.over o,s')
def block (f:Fn)(pick:Pick)(b:Nat)(frm:Int)(s:St):Nx × St :=
 runIns f pick ((phis (f.blocks.getD b [])).map (phiRead s frm)) (f.blocks.getD b []) 0 (Ref.number f b) s
def from_ (f:Fn)(pick:Pick):Nat->Nat->Int->St->Out × St × List Int
 | 0,_,_,s=>(undefd,s,[])
 | k+1,b,frm,s =>
  match block f pick b frm s with
  | (.over o,s')=>(o,s',[(b:Int)])
  | (.run t,s')=>((from_ f pick k t.toNat b s').1,(from_ f pick k t.toNat b s').2.1,(b:Int)::(from_ f pick k t.toNat b s').2.2)
def start (f:Fn)(i:Inp):St :=
 {vals:=i.args.map word++List.replicate (count f-i.args.length) zero,had:=i.args.map (fun _=>true)++List.replicate (count f-i.args.length) false,mem:=i.mem,widths:=[],steps:=0}
def run (f:Fn)(pick:Pick)(i:Inp):Out × St × List Int:=from_ f pick 401 0 (-1) (start f i)
def sgn (a b:Int):Int:=if a<b then -1 else if b<a then 1 else 0
def cmpInts:List Int->List Int->Int
 | [],[]=>0
 | [],_::_=>-1
 | _::_,[]=>1
 | a::azs,b::bs=>if sgn a b=0 then cmpInts azs bs else sgn a b
def cmpMem:List (List Int)->List (List Int)->Int
 | [],[]=>0
 | [],_::_=>-1
 | _::_,[]=>1
 | a::azs,b::bs=>if cmpInts a b=0 then cmpMem azs bs else cmpInts a b
def bit (b:Bool):Int:=if b=true then 1 else 0
def heads (o:Out):List Int:=[o.kind,bit o.ret.p,o.ret.s,o.ret.n]
def cmpOut (a b:Out):Int:=if cmpInts (heads a) (heads b)=0 then cmpMem a.mem b.mem else cmpInts (heads a) (heads b)
def insert (x:Out):List Out->List Out
 | []=>[x]
 | y::r=>if cmpOut x y=0 then y::r else if cmpOut x y<0 then x::y::r else y::insert x r
def nextK (p w:List Int):Nat->Option Nat
 | 0=>none
 | k+1=>if p.getD k 0+1<Wd.sz (w.getD k 0) then some k else nextK p w k
def padded (p:List Int)(n:Nat):List Int:=p++List.replicate (n-p.length) 0
def bump (p:List Int)(k:Nat):List Int:=p.take k++[p.getD k 0+1]
def explore (f:Fn)(i:Inp):Nat->List Int->List Out->Option (List Out)
 | 0,_,_=>none
 | n+1,picks,out =>
  let r:=run f (given picks) i
  let p:=padded picks r.2.1.widths.length
  match nextK p r.2.1.widths r.2.1.widths.length with
  | none=>some (insert r.1 out)
  | some k=>explore f i n (bump p k) (insert r.1 out)
def all (f:Fn)(i:Inp):Option (List Out):=explore f i 256 [] []
def validInput (f:Fn)(i:Inp):Int :=
 if validate f≠0 then validate f
 else if i.args.length≠f.params.length\/i.mem.length≠f.slots.length then 1
 else if (f.params.zip i.args).any (fun q=>decide (Wd.sz q.1<=q.2))=true then 1
 else if (f.slots.zip i.mem).any (fun q=>decide ((q.2.length:Int)≠q.1) || q.2.any (fun b=>decide (b < -1) || decide (255<b)))=true then 1
 else 0
def sure (f:Fn)(i:Inp):Bool :=
 match all f i with
 | some [o]=>decide (o.kind=0) && !o.ret.p && o.mem.all (fun r=>r.all fun b=>decide (0<=b))
 | _=>false
end Rn
end
section
namespace Rn
open Ref
def Im (f:Fn):Prop:=∀l∈f.blocks,∀x∈l,0<=x.imm/\x.imm<4294967296
def MemW (n:Int):Prop:=n=8\/n=16\/n=32
inductive Shp (f:Fn) (x:Ins):Prop
 | const (ho:x.op=0) (ha:x.args=[]) (hw:Wd.Wid x.width) (hi:Wd.Word x.width x.imm)
 | arith (ho:1<=x.op/\x.op<=13) (a b:Int) (ha:x.args=[a,b]) (ka:kind f a=x.width) (kb:kind f b=x.width) (hw:Wd.Wid x.width) (hf:0<=x.flags/\x.flags<=7)
 | cmp (ho:x.op=14) (a b:Int) (ha:x.args=[a,b]) (kb:kind f b=kind f a) (hk:Wd.Wid (kind f a)) (hw:x.width=1) (hi:0<=x.imm/\x.imm<=9)
 | select (ho:x.op=15) (a b c:Int) (ha:x.args=[a,b,c]) (ka:kind f a=1) (kb:kind f b=x.width) (kc:kind f c=x.width) (hw:Wd.Wid x.width\/x.width=33)
 | ext (ho:x.op=16\/x.op=17\/x.op=18) (a:Int) (ha:x.args=[a]) (hk:Wd.Wid (kind f a)) (hw:Wd.Wid x.width) (hd:if x.op=18 then x.width<kind f a else kind f a<x.width)
 | lanes (ho:x.op=19\/x.op=20) (a b:Int) (ha:x.args=[a,b]) (ka:kind f a=x.width) (kb:kind f b=x.width) (hw:Wd.Wid x.width) (h1:1<=x.imm) (h2:x.imm<x.width) (h3:x.width%x.imm=0)
 | freeze (ho:x.op=21) (a:Int) (ha:x.args=[a]) (ka:kind f a=x.width) (hw:Wd.Wid x.width)
 | poison (ho:x.op=22) (ha:x.args=[]) (hw:Wd.Wid x.width)
 | any (ho:x.op=23) (ha:x.args=[]) (hw:Wd.Wid x.width)
 | addr (ho:x.op=24) (ha:x.args=[]) (hw:x.width=33) (hi:0<=x.imm/\x.imm<f.slots.length)
 | gep (ho:x.op=25) (a b:Int) (ha:x.args=[a,b]) (ka:kind f a=33) (kb:Wd.Wid (kind f b)) (hw:x.width=33) (hf:x.flags=0\/x.flags=8)
 | load (ho:x.op=26) (a:Int) (ha:x.args=[a]) (ka:kind f a=33) (hw:MemW x.width)
 | store (ho:x.op=27) (a b:Int) (ha:x.args=[a,b]) (ka:kind f a=33) (kb:MemW (kind f b)) (hw:x.width=0)
 | phi (ho:x.op=28) (hl:x.args.length=x.to.length) (hk:∀v∈x.args,kind f v=x.width) (hw:Wd.Wid x.width\/x.width=33)
 | jump (ho:x.op=29) (ha:x.args=[]) (t:Int) (ht:x.to=[t]) (hw:x.width=0)
 | branch (ho:x.op=30) (a:Int) (ha:x.args=[a]) (ka:kind f a=1) (t u:Int) (ht:x.to=[t,u]) (hw:x.width=0)
 | ret0 (ho:x.op=31) (ha:x.args=[]) (hr:f.ret=0) (hw:x.width=0)
 | ret (ho:x.op=31) (a:Int) (ha:x.args=[a]) (ka:kind f a=f.ret) (hr:Wd.Wid f.ret) (hw:x.width=0)
 | trap (ho:x.op=32) (ha:x.args=[]) (hw:x.width=0)
theorem wid_of {n:Int}(h:isWidth n=true):Wd.Wid n:=by unfold isWidth at h;simp only[we,decide_eq_true_eq]at h;exact h
theorem len0 {l:List Int}(h:(l.length:Int)=0):l=[]:=wu (by omega)
theorem len1 {l:List Int}(h:(l.length:Int)=1):∃a,l=[a]:=by
 match l with
 | []=>simp at h
 | [a]=>exact⟨a,rfl⟩
 | _::_::_=>simp at h;omega
theorem len2 {l:List Int}(h:(l.length:Int)=2):∃a b,l=[a,b]:=by
 match l with
 | []=>simp at h
 | [_]=>simp at h
 | [a,b]=>exact⟨a,b,rfl⟩
 | _::_::_::_=>simp at h;omega
theorem len3 {l:List Int}(h:(l.length:Int)=3):∃a b c,l=[a,b,c]:=by
 match l with
 | []=>simp at h
 | [_]=>simp at h
 | [_,_]=>simp at h
 | [a,b,c]=>exact⟨a,b,c,rfl⟩
 | _::_::_::_::_=>simp at h;omega
theorem word_of {n x:Int}(h:isWordOf n x=true)(h0:0<=x):Wd.Word n x:=by unfold isWordOf at h;simp only[we,decide_eq_true_eq]at h;exact⟨h0,h.2⟩
theorem shp {f:Fn}(hv:Val f)(hi:Im f){l:List Ins}(hl:l∈f.blocks){x:Ins}(hx:x∈l):Shp f x:=by
 obtain⟨s1,s2,s3,s4⟩:=(argument_iff f x).1 (hv.arg l hl x hx);obtain⟨j,m,p⟩:=(counts_iff _ _).1 s2;obtain⟨U,d⟩:=(typed_iff f x).1 (hv.typ l hl x hx);obtain⟨P,T⟩:=hi l hl x hx;have S:=hv.ret;clear s2 hl hx hv hi;by_cases J:x.op=0
 ·have q:Ref.shape f x=(0,0,isWidth x.width && decide (x.flags=0) && isWordOf x.width x.imm):=by unfold Ref.shape;rw[wa J]
  rw[q]at s1 j m p;simp at s1;exact .const J (len0 (j (by simp))) (wid_of s1.1.1) (word_of s1.2 P)
 by_cases r:x.op=14
 ·
  simp[Ref.shape,r]at s1 j m p;obtain⟨a,b,g⟩:=len2 (by omega:(x.args.length:Int)=2);simp[typedKinds,r,g]at d;exact .cmp r a b g d.2 (wid_of d.1) s1.1.1 ⟨P,s1.2⟩
 by_cases y:x.op=15
 ·simp[Ref.shape,y]at s1 j m p;obtain⟨a,b,c,g⟩:=len3 (by omega:(x.args.length:Int)=3);simp[typedKinds,y,g]at d;exact .select y a b c g d.1.1 d.1.2 d.2 (s1.1.imp wid_of id)
 by_cases A:x.op=16\/x.op=17\/x.op=18\/x.op=21
 ·simp[Ref.shape,J,r,y,A]at s1 j m p;obtain⟨a,g⟩:=len1 (by omega:(x.args.length:Int)=1);rcases A with h|h|h|h
  ·simp[typedKinds,h,g]at d;exact .ext (.inl h) a g (wid_of d.1) (wid_of s1.1) (by rw[yD (by omega)];exact d.2)
  ·simp[typedKinds,h,g]at d;exact .ext (.inr (.inl h)) a g (wid_of d.1) (wid_of s1.1) (by rw[yD (by omega)];exact d.2)
  ·simp[typedKinds,h,g]at d;exact .ext (.inr (.inr h)) a g (wid_of d.1) (wid_of s1.1) (by rw[wa h];exact d.2)
  ·simp[typedKinds,h,g]at d;exact .freeze h a g d (wid_of s1.1)
 by_cases C:x.op=19\/x.op=20
 ·have q:Ref.shape f x=(2,0,isWidth x.width && decide (x.flags=0) && decide (1<=x.imm) && decide (x.imm<x.width) && decide (x.width%x.imm=0)):=by
   simp only[Ref.shape,J,r,y,A,C,if_false,if_true]
  rw[q]at s1 j m p;simp at s1 j m p;obtain⟨a,b,g⟩:=len2 (by omega:(x.args.length:Int)=2)
  have Q:typedKinds f x (x.args.map (kind f))=(x.args.map (kind f)).all fun z=>decide (z=x.width):=by unfold typedKinds;repeat rw[yD (by omega)]
  rw[Q,g]at d;simp at d;exact .lanes C a b g d.1 d.2 (wid_of s1.1.1.1.1) s1.1.1.2 s1.1.2 s1.2
 by_cases K:x.op=22\/x.op=23
 ·simp only[Ref.shape,J,r,y,A,C,K,if_false,if_true,we]at s1 j m p;rcases K with h|h
  ·exact .poison h (len0 (j (by decide))) (wid_of s1.1)
  ·exact .any h (len0 (j (by decide))) (wid_of s1.1)
 by_cases L:x.op=24
 ·simp[Ref.shape,L]at s1 j m p;exact .addr L j s1.1.1 ⟨P,s1.2⟩
 by_cases D:x.op=25
 ·simp[Ref.shape,D]at s1 j m p;obtain⟨a,b,g⟩:=len2 (by omega:(x.args.length:Int)=2);simp[typedKinds,D,g]at d;exact .gep D a b g d.1 (wid_of d.2) s1.1.1 s1.2
 by_cases E:x.op=26
 ·simp[Ref.shape,E]at s1 j m p;obtain⟨a,g⟩:=len1 (by omega:(x.args.length:Int)=1);simp[typedKinds,E,g]at d;exact .load E a g d (by unfold MemW;omega)
 by_cases F:x.op=27
 ·simp[Ref.shape,F]at s1 j m p;obtain⟨a,b,g⟩:=len2 (by omega:(x.args.length:Int)=2);simp[typedKinds,F,g,isMem]at d;exact .store F a b g d.1 (by unfold MemW;omega) s1.1
 by_cases G:x.op=28
 ·simp[Ref.shape,G]at s1 j m p;rw[typedKinds_phi f G]at d;simp at d;exact .phi G m d (s1.1.1.imp wid_of id)
 by_cases M:x.op=29
 ·simp[Ref.shape,M]at s1 j m p;obtain⟨t,O⟩:=len1 (by omega:(x.to.length:Int)=1);exact .jump M j t O s1.1
 by_cases H:x.op=30
 ·simp[Ref.shape,H]at s1 j m p;obtain⟨a,g⟩:=len1 (by omega:(x.args.length:Int)=1);obtain⟨t,u,O⟩:=len2 (by omega:(x.to.length:Int)=2);simp[typedKinds,H,g]at d;exact .branch H a g d t u O s1.1
 by_cases B:x.op=31
 ·simp[Ref.shape,B]at s1 j m p;by_cases I:0<f.ret
  ·rw[wa I]at j;obtain⟨a,g⟩:=len1 (by omega:(x.args.length:Int)=1);simp[typedKinds,B,g]at d;exact .ret B a g d ⟨by omega,S.2⟩ s1.1
  ·rw[yD I]at j;exact .ret0 B (len0 (by omega)) (by omega) s1.1
 by_cases N:x.op=32
 ·simp[Ref.shape,N]at s1 j m p;exact .trap N j s1.1
 by_cases R:1<=x.op/\x.op<=13
 ·have q:Ref.shape f x=(2,0,isWidth x.width && decide (x.imm=0) && Ref.arith x):=by
   unfold Ref.shape;repeat rw[yD (by omega)]
   rw[wa R]
  rw[q]at s1 j m p;simp at s1 j m p;obtain⟨a,b,g⟩:=len2 (by omega:(x.args.length:Int)=2)
  have Q:typedKinds f x (x.args.map (kind f))=(x.args.map (kind f)).all fun z=>decide (z=x.width):=by unfold typedKinds;repeat rw[yD (by omega)]
  rw[Q,g]at d;simp at d;refine .arith R a b g d.1 d.2 (wid_of s1.1.1) ?_;have:=s1.2;unfold Ref.arith arith0 at this;split at this
  ·simp at this;omega
  split at this
  ·simp at this;omega
  ·simp at this;omega
 ·exfalso
  have q:Ref.shape f x=(0,0,false):=by unfold Ref.shape;repeat rw[yD (by omega)]
  rw[q]at s1;simp at s1
end Rn
end
section
namespace Rn
open Ref
def VOK (f:Fn)(k:Int)(v:V):Prop :=
 (v.p=true->v.s=0/\v.n=0)/\(v.p=false->(k=33->1<=v.s/\v.s<=f.slots.length/\0<=v.n/\v.n<4294967296)/\(k≠33->v.s=0/\Wd.Word k v.n))
theorem Wid33 {k:Int}(h:Wd.Wid k):k≠33:=by have:=h.2;omega
theorem VOK.num {f:Fn}{k:Int}{v:V}(h:VOK f k v)(hk:Wd.Wid k):v.s=0/\Wd.Word k v.n:=by
 cases hp:v.p with
 | false=>exact(h.2 hp).2 (Wid33 hk)
 | true=>obtain⟨d,g⟩:=h.1 hp;exact⟨d,by rw[g];exact⟨Int.le_refl 0,Wd.sz_pos k⟩⟩
theorem VOK.ptr {f:Fn}{v:V}(h:VOK f 33 v)(hp:v.p=false):1<=v.s/\v.s<=f.slots.length/\0<=v.n/\v.n<4294967296:=(h.2 hp).1 rfl
theorem VOK.u32 {f:Fn}{k:Int}{v:V}(h:VOK f k v)(hk:Wd.Wid k\/k=33):0<=v.n/\v.n<4294967296:=by
 rcases hk with hk|rfl
 ·have:=(h.num hk).2;have d:=Wd.sz_32 hk;exact⟨this.1,by have:=this.2;omega⟩
 ·cases hp:v.p with
  | true=>rw[(h.1 hp).2];decide
  | false=>exact⟨(h.ptr hp).2.2.1,(h.ptr hp).2.2.2⟩
theorem vok_poison (f:Fn)(k:Int):VOK f k poison:=⟨fun _=>⟨rfl,rfl⟩,(fun h=>by cases h)⟩
theorem vok_word (f:Fn){k n:Int}(hk:Wd.Wid k)(h:Wd.Word k n):VOK f k (word n):=⟨(fun h=>by cases h),fun _=>⟨fun h=>absurd h (Wid33 hk),fun _=>⟨rfl,h⟩⟩⟩
def Had (s:St)(v:Nat):Prop:=s.had.getD v false=true
structure Inv (f:Fn)(s:St):Prop where
 len:s.vals.length=count f
 hlen:s.had.length=count f
 ok:∀v:Nat,Had s v->VOK f (kind f v) (s.get v)/\kind f v≠0
 zero:∀v:Nat,¬Had s v->s.get v=zero
 mem:s.mem.map (fun r=>(r.length:Int))=f.slots
 bytes:∀r∈s.mem,∀b∈r,-1<=b/\b<=255
 par:∀v:Nat,v<f.params.length->Had s v
def AllHad (f:Fn)(s:St)(a:Nat)(l:List Ins):Prop:=∀j x,l[j]?=some x->x.width≠0->Had s (number f a+j)
structure Mid (f:Fn)(b i:Nat)(l:List Ins)(s:St):Prop extends Inv f s where
 rch:rc (graph f) (-1) b
 dom:∀a m,f.blocks[a]?=some m->a≠b->dominates (graph f) a b=true->AllHad f s a m
 here:∀j x,j<i->l[j]?=some x->x.width≠0->Had s (number f b+j)
section
variable {f:Fn}{b i:Nat}{l:List Ins}{s:St}
theorem had_set {s:St}{v u:Nat}{x:V}(h:Had s u):Had (s.set v x) u:=by
 unfold Had St.set at *;rw[vA]at *;by_cases e:v=u
 ·subst e
  have hl:v<s.had.length:=by
   rcases wh v s.had.length with d|d
   ·exact d
   ·rw[vP d]at h;simp at h
  rw[ww hl];rfl
 ·rw[List.getElem?_set_ne e];exact h
theorem had_set' {s:St}{v u:Nat}{x:V}(h:Had (s.set v x) u):u=v\/Had s u:=by
 by_cases e:v=u
 ·exact .inl e.symm
 ·refine .inr ?_;unfold Had St.set at *;rw[vA]at *
  rwa [List.getElem?_set_ne e]at h
theorem had_self {s:St}{v:Nat}{x:V}(h:v<s.had.length):Had (s.set v x) v:=by unfold Had St.set;rw[vA,ww h];rfl
theorem get_set_self {s:St}{v:Nat}{x:V}(h:v<s.vals.length):(s.set v x).get v=x:=by unfold St.get St.set;rw[vG,vA,ww h];rfl
theorem get_set_ne {s:St}{v u:Nat}{x:V}(h:v≠u):(s.set v x).get u=s.get u:=by unfold St.get St.set;rw[vG,vA,List.getElem?_set_ne h,<-vA]
structure Like (s s':St):Prop where
 vals:s'.vals=s.vals
 had:s'.had=s.had
 lens:s'.mem.map (fun r=>(r.length:Int))=s.mem.map (fun r=>(r.length:Int))
 bytes:(∀r∈s.mem,∀b∈r,-1<=b/\b<=255)->∀r∈s'.mem,∀b∈r,-1<=b/\b<=255
theorem Like.refl (s:St):Like s s:=⟨rfl,rfl,rfl,fun h=>h⟩
theorem Inv.like {s s':St}(h:Inv f s)(k:Like s s'):Inv f s' where
 len:=by rw[k.vals];exact h.len
 hlen:=by rw[k.had];exact h.hlen
 ok:=fun v hv=>by
  have:s'.get v=s.get v:=by unfold St.get;rw[k.vals]
  rw[this];exact h.ok v (by unfold Had at *;rwa [k.had]at hv)
 zero:=fun v hv=>by
  have:s'.get v=s.get v:=by unfold St.get;rw[k.vals]
  rw[this];exact h.zero v (by unfold Had at *;rwa [k.had]at hv)
 mem:=by rw[k.lens];exact h.mem
 bytes:=k.bytes h.bytes
 par:=fun v hv=>by unfold Had;rw[k.had];exact h.par v hv
theorem Mid.like {s s':St}(h:Mid f b i l s)(k:Like s s'):Mid f b i l s' where
 toInv:=h.toInv.like k
 rch:=h.rch
 dom:=fun a m d g p j x q r=>by unfold Had;rw[k.had];exact h.dom a m d g p j x q r
 here:=fun j x d g p=>by unfold Had;rw[k.had];exact h.here j x d g p
theorem like_tick (s:St):Like s s.tick:=⟨rfl,rfl,rfl,fun h=>h⟩
theorem like_chose (s:St)(n:Int):Like s (s.chose n):=⟨rfl,rfl,rfl,fun h=>h⟩
theorem Mid.skip (h:Mid f b i l s){x:Ins}(hx:l[i]?=some x)(hw:x.width=0):Mid f b (i+1) l s where
 toInv:=h.toInv
 rch:=h.rch
 dom:=h.dom
 here:=fun j y p d g=>by
  rcases wh j i with m|m
  ·exact h.here j y m d g
  ·have:j=i:=by omega
   subst this;rw[hx]at d;injection d with d;subst d;exact absurd hw g
theorem Mid.set (h:Mid f b i l s)(hl:f.blocks[b]?=some l){x:Ins}(hx:l[i]?=some x){y:V}(hw:x.width≠0)(hy:VOK f x.width y):Mid f b (i+1) l (s.set (number f b+i) y):=by
 have B:=(yC.1 hx).1;have A:=number_count f hl;have t:=kind_at f hl hx;refine {len:=?_,hlen:=?_,ok:=?_,zero:=?_,mem:=h.mem,bytes:=h.bytes,par:=fun v hv=>had_set (h.par v hv),rch:=h.rch,dom:=?_,here:=?_}
 ·show (s.vals.set _ _).length=_;rw[List.length_set];exact h.len
 ·show (s.had.set _ _).length=_;rw[List.length_set];exact h.hlen
 ·intro v hv;by_cases e:number f b+i=v
  ·subst e;rw[t,get_set_self (by rw[h.len];omega)];exact⟨hy,hw⟩
  ·rw[get_set_ne e];exact h.ok v ((had_set' hv).resolve_left fun q=>e q.symm)
 ·intro v hv;by_cases e:number f b+i=v
  ·subst e;exact absurd (had_self (by rw[h.hlen];omega)) hv
  ·rw[get_set_ne e];exact h.zero v fun q=>hv (had_set q)
 ·exact fun a m r g p j z d u=>had_set (h.dom a m r g p j z d u)
 ·intro j z r g p;rcases wh j i with d|d
  ·exact had_set (h.here j z d g p)
  ·have:j=i:=by omega
   subst this;exact had_self (by rw[h.hlen];omega)
theorem kind_pos {f:Fn}{v:Int}(h:0<kind f v):0<=v/\v<count f:=kind_in (by omega)
theorem there_had (h:Mid f b i l s)(hl:f.blocks[b]?=some l){v place:Int}(ht:there f (graph f) v b place=true)(hp:place=i\/(place=-1/\i=l.length))(hk:0<kind f v):Had s v.toNat:=by
 obtain⟨p,q⟩:=kind_pos hk;rcases home_of f p q with ⟨d,g⟩|⟨a,j,m,x,d,g,rfl⟩
 ·exact h.par _ (by omega)
 ·have r:=(yC.1 g).1;rw[kind_at f d g]at hk;unfold there at ht;rw[whereIs_at f d r]at ht;dsimp only at ht;rw[yD (by omega)]at ht;rw[vG];by_cases e:a=b
  ·subst e;rw[hl]at d;injection d with d;subst d;rw[wa rfl]at ht;simp at ht;exact h.here j x (by omega) g (by omega)
  ·rw[yD (by omega)]at ht;exact h.dom a m d e ht j x g (by omega)
theorem arg_there (hv:Val f)(h:Mid f b i l s)(hl:f.blocks[b]?=some l){x:Ins}(hx:l[i]?=some x)(ho:x.op≠28){v:Int}(hm:v∈x.args)(hk:0<kind f v):VOK f (kind f v) (s.get v):=by
 obtain⟨j,m⟩:=kind_pos hk;obtain⟨k,g⟩:=List.getElem?_of_mem hm;have d:=hv.st b l hl h.rch i x hx k v g;unfold argOk at d;rw[yD ho]at d;have:=(h.ok _ (there_had h hl d (.inl rfl) hk)).1
 rwa [show ((v.toNat:Nat):Int)=v by omega]at this
end
end Rn
end
section
namespace Rn
open Ref
def PickOk (pick:Pick):Prop:=∀k n,Wd.Wid n->Wd.Word n (pick k n)
theorem given_ok (picks:List Int):PickOk (given picks):=fun k n d=>by
 unfold given;split
 ·exact Wd.mod_word _
 ·exact⟨Int.le_refl 0,Wd.sz_pos n⟩
theorem numB_range:∀(l:List Int),(∀b∈l,0<=b/\b<=255)->0<=numB l/\numB l<256 ^ l.length
 | [],_=>⟨Int.le_refl 0,by decide⟩
 | b::r,h=>by
  obtain⟨d,g⟩:=numB_range r fun z hz=>h z (by simp[hz])
  have j:=h b (by simp);unfold numB;rw[List.length_cons,Int.pow_succ];omega
theorem mem_bytes {n:Int}(h:MemW n):(256:Int) ^ (n / 8).toNat=Wd.sz n/\Wd.Wid n/\1<=n / 8/\n / 8<=4:=by rcases h with rfl|rfl|rfl<;>exact⟨by decide,by unfold Wd.Wid;decide,by decide,by decide⟩
theorem overlay_len {l bs:List Int}{a:Nat}(h:a+bs.length<=l.length):(overlay l a bs).length=l.length:=by unfold overlay;simp;omega
theorem bytesOf_len (x:V):∀(k:Nat)(z:Int),(bytesOf x k z).length=k
 | 0,_=>rfl
 | k+1,z=>by unfold bytesOf;rw[List.length_cons,bytesOf_len x k]
theorem bytesOf_range (x:V):∀(k:Nat)(z:Int),∀b∈bytesOf x k z,-1<=b/\b<=255
 | 0,_,b,h=>by simp[bytesOf]at h
 | k+1,z,b,h=>by
  unfold bytesOf at h
  rcases List.mem_cons.1 h with rfl|h
  ·split<;>omega
  ·exact bytesOf_range x k _ b h
theorem map_set_same {α:Type}(g:List Int->α)(m:List (List Int))(k:Nat)(r:List Int)(h:g r=g (m.getD k [])):(m.set k r).map g=m.map g:=by
 rw[List.map_set];apply List.ext_getElem?;intro i;by_cases e:k=i
 ·subst e;rcases wh k m.length with d|d
  ·rw[ww (by simpa using d),h,vH,vu d,vA,vu d];rfl
  ·rw[vP (by simpa using d),vP (by simpa using d)]
 ·rw[List.getElem?_set_ne e]
theorem store_like {s:St}{p x:V}{n:Nat}{m:List (List Int)}(h:store s.mem p x n=some m):Like s {s with mem:=m}:=by
 unfold store at h;split at h
 ·cases h
 next hc =>
  injection h with h;subst h;have l:=bytesOf_len x n x.n;refine⟨rfl,rfl,map_set_same _ _ _ _ (by rw[overlay_len (by omega)]),fun g r j b d=>?_⟩;rcases List.mem_or_eq_of_mem_set j with q|rfl
  ·exact g r q b d
  ·unfold overlay at d
   have old:∀c,c∈s.mem.getD (p.s-1).toNat []->-1<=c/\c<=255:=fun c hc'=>by
    rw[vA]at hc'
    cases e:s.mem[(p.s-1).toNat]? with
    | none=>rw[e]at hc';simp at hc'
    | some row=>rw[e]at hc';exact g row (vz e) c hc'
   rcases yE.1 d with q|q
   ·rcases yE.1 q with q|q
    ·exact old b (List.mem_of_mem_take q)
    ·exact bytesOf_range _ _ _ b q
   ·exact old b (List.mem_of_mem_drop q)
theorem bytesAt_range {mem:List (List Int)}(hr:∀r∈mem,∀b∈r,-1<=b/\b<=255){p:V}{n:Nat}{bs:List Int}(h:bytesAt mem p n=some bs):bs.length=n/\∀b∈bs,-1<=b/\b<=255:=by
 unfold bytesAt at h;split at h
 ·cases h
 next hc =>
  injection h with h;subst h;refine⟨by rw[List.length_take,List.length_drop];omega,fun b d=>?_⟩;have d:=List.mem_of_mem_drop (List.mem_of_mem_take d);rw[vA]at d
  cases e:mem[(p.s-1).toNat]? with
  | none=>rw[e]at d;simp at d
  | some row=>rw[e]at d;exact hr row (vz e) b d
theorem load_ok (f:Fn){mem:List (List Int)}(hr:∀r∈mem,∀b∈r,-1<=b/\b<=255){p y:V}{w:Int}(hw:MemW w)(h:load mem p (w / 8).toNat=some y):VOK f w y:=by
 obtain⟨l,m,q,t⟩:=mem_bytes hw;unfold load at h
 cases hb:bytesAt mem p (w / 8).toNat with
 | none=>rw[hb]at h;cases h
 | some bs =>
  rw[hb]at h;injection h with h;subst h;obtain⟨g,j⟩:=bytesAt_range hr hb;show VOK f w (if (bs.any fun b=>decide (b<0))=true then Rn.poison else word (numB bs));split
  ·exact vok_poison f w
  next d =>
   have d:∀b∈bs,0<=b/\b<=255:=fun b hb=>by have:=j b hb;simp only[wC,decide_eq_true_eq,not_exists,not_and,Int.not_lt]at d;exact⟨d b hb,this.2⟩
   have:=numB_range bs d;rw[g,l]at this;exact vok_word f m this
theorem arith_ok (f:Fn){o fl n:Int}{a b y:V}(hn:Wd.Wid n)(ha:Wd.Word n a.n)(hb:Wd.Word n b.n)(h:arith o fl n a b=some y):VOK f n y:=by
 unfold arith at h;split at h
 ·cases h
 split at h
 ·injection h with h;subst h;exact vok_poison f n
 cases ho:Wd.op o n a.n b.n with
 | none=>rw[ho]at h;injection h with h;subst h;exact vok_poison f n
 | some z =>
  rw[ho]at h;dsimp only at h;split at h
  ·injection h with h;subst h;exact vok_poison f n
  ·injection h with h;subst h;exact vok_word f hn (Wd.op_word hn ha hb ho)
theorem ext_word {o m n x:Int}(hm:Wd.Wid m)(hx:Wd.Word m x)(ho:o=16\/o=17\/o=18)(hd:if o=18 then n<m else m<n):Wd.Word n (Wd.ext o m n x):=by
 unfold Wd.ext;by_cases h:o=16
 ·rw[wa h];rw[yD (by omega)]at hd;exact⟨hx.1,Int.lt_of_lt_of_le hx.2 (Wd.sz_le (by omega))⟩
 ·rw[yD h];split<;>exact Wd.mod_word _
theorem lanes_word {o l n a b:Int}(h1:1<=l)(h2:l<n)(h3:n%l=0):Wd.Word n (Wd.lanes o l (n / l).toNat a b):=by
 have h:=Wd.lanes_range o l (n / l).toNat a b;obtain⟨m,rfl⟩:=vF (show 0<=l by omega);rw[Wd.sz_pow]at h
 have e:((m*(n / (m:Int)).toNat:Nat):Int)=n:=by have q:=Int.mul_ediv_add_emod n (m:Int);have d:0<=n / (m:Int):=wD (by omega) (by omega);rw[Int.natCast_mul,Int.toNat_of_nonneg d];omega
 rw[e]at h;exact h
theorem gep_ok {f:Fn}{fl k:Int}{p b:V}(hp:VOK f 33 p)(hpp:p.p=false):VOK f 33 (gep f.slots fl k p b):=by
 unfold gep;obtain⟨d,g,j,l⟩:=hp.ptr hpp;split
 ·exact vok_poison f 33
 ·exact⟨(fun h=>by cases h),fun _=>⟨fun _=>⟨d,g,Int.emod_nonneg _ (by decide),Int.emod_lt_of_pos _ (by decide)⟩,fun h=>absurd rfl h⟩⟩
def After (f:Fn)(b i:Nat)(l:List Ins)(x:Ins)(s:St):Res × St->Prop
 | (.val y,s')=>x.width≠0/\VOK f x.width y/\Mid f b i l s'
 | (.on,s')=>x.width=0/\Mid f b i l s'
 | (.go t,s')=>x.width=0/\s'=s/\t∈x.to
 | (.fin _,s')=>s'=s
section
variable {f:Fn}{b i:Nat}{l:List Ins}{s:St}{pick:Pick}
theorem exec_ok (hv:Val f)(hi:Im f)(hpk:PickOk pick)(h:Mid f b i l s)(hl:f.blocks[b]?=some l){x:Ins}(hx:l[i]?=some x)(ho:x.op≠28):After f b i l x s (exec f pick x s):=by
 have y:=vz hl;have z:=vz hx;have j:∀v∈x.args,0<kind f v->VOK f (kind f v) (s.get v):=fun v hm hk=>arg_there hv h hl hx ho hm hk;have ne:∀{n:Int},Wd.Wid n->n≠0:=fun h=>by have:=h.1;omega
 have pos:∀{n:Int},Wd.Wid n->0<n:=fun h=>by have:=h.1;omega
 cases shp hv hi y z with
 | const o ha hw him =>
  simp[exec,o,ha,plain,After];exact⟨ne hw,vok_word f hw him,h⟩
 | arith o a c ha ka kc hw hf =>
  have g:=j a (by simp[ha]) (by rw[ka];exact pos hw);have r:=j c (by simp[ha]) (by rw[kc];exact pos hw);rw[ka]at g;rw[kc]at r
  have q:exec f pick x s=match arith x.op x.flags x.width (s.get a) (s.get c) with|none=>(.fin undefd,s)|some v=>(.val v,s):=by
   unfold exec;dsimp only;repeat rw[yD (by omega)]
   rw[wa o,ha];rfl
  rw[q]
  cases hr:arith x.op x.flags x.width (s.get a) (s.get c) with
  | none=>exact rfl
  | some v=>exact⟨ne hw,arith_ok f hw (g.num hw).2 (r.num hw).2 hr,h⟩
 | cmp o a c ha kc hk hw him =>
  simp only[exec,o,ha,plain,List.map_cons,List.map_nil];simp;split
  ·exact⟨by omega,vok_poison f _,h⟩
  ·refine⟨by omega,?_,h⟩;rw[hw];refine vok_word f (by unfold Wd.Wid;decide) ?_;split<;>exact⟨by decide,by decide⟩
 | select o a c d ha ka kc kd hw =>
  have C:0<x.width:=hw.elim pos (fun q=>by omega);have g:=j a (by simp[ha]) (by omega);have r:=j c (by simp[ha]) (by omega);have B:=j d (by simp[ha]) (by omega);rw[ka]at g;rw[kc]at r;rw[kd]at B;simp[exec,o,ha];split
  ·exact⟨by omega,vok_poison f _,h⟩
  ·have:=(g.num (by unfold Wd.Wid;decide)).2;have s1:Wd.sz 1=2:=by decide
   obtain⟨D,A⟩:=this;rw[s1]at A;rcases (by omega:(s.get a).n=0\/(s.get a).n=1) with q|q
   ·rw[q];exact⟨by omega,B,h⟩
   ·rw[q];exact⟨by omega,r,h⟩
 | ext o a ha hk hw hd =>
  have g:=j a (by simp[ha]) (pos hk);have r:=ext_word hk (g.num hk).2 o hd
  have q:exec f pick x s=if (s.get a).p=true then (.val poison,s) else (.val (word (Wd.ext x.op (kind f a) x.width (s.get a).n)),s):=by unfold exec plain;dsimp only;rcases o with o|o|o<;>simp[o,ha]
  rw[q];split
  ·exact⟨ne hw,vok_poison f _,h⟩
  ·exact⟨ne hw,vok_word f hw r,h⟩
 | lanes o a c ha ka kc hw h1 h2 h3 =>
  have q:exec f pick x s=if (s.get a).p=true\/(s.get c).p=true then (.val poison,s) else (.val (word (Wd.lanes x.op x.imm (x.width / x.imm).toNat (s.get a).n (s.get c).n)),s):=by unfold exec plain;dsimp only;rcases o with o|o<;>simp[o,ha]
  rw[q];split
  ·exact⟨ne hw,vok_poison f _,h⟩
  ·exact⟨ne hw,vok_word f hw (lanes_word h1 h2 h3),h⟩
 | freeze o a ha ka hw =>
  have g:=j a (by simp[ha]) (by rw[ka];exact pos hw);rw[ka]at g;simp[exec,o,ha];split
  ·exact⟨ne hw,vok_word f hw (hpk _ _ hw),h.like (like_chose _ _)⟩
  ·exact⟨ne hw,g,h⟩
 | poison o ha hw =>
  simp[exec,o,ha];exact⟨ne hw,vok_poison f _,h⟩
 | any o ha hw =>
  simp[exec,o,ha];exact⟨ne hw,vok_word f hw (hpk _ _ hw),h.like (like_chose _ _)⟩
 | addr o ha hw him =>
  simp[exec,o,ha,plain];refine⟨by omega,?_,h⟩;rw[hw];exact⟨(fun h=>by cases h),fun _=>⟨fun _=>⟨by show 1<=x.imm+1;omega,by show x.imm+1<=_;omega,by show (0:Int)<=0;omega,by show (0:Int)<_;omega⟩,fun h=>absurd rfl h⟩⟩
 | gep o a c ha ka kc hw hf =>
  have g:=j a (by simp[ha]) (by omega);rw[ka]at g;simp[exec,o,ha,plain];split
  ·exact⟨by omega,vok_poison f _,h⟩
  next hn =>
   refine⟨by omega,?_,h⟩;rw[hw];exact gep_ok g (by cases hp:(s.get a).p with|false=>rfl|true=>simp[hp]at hn)
 | load o a ha ka hw =>
  have q:exec f pick x s=match load s.mem (s.get a) (x.width / 8).toNat with|none=>(.fin undefd,s)|some v=>(.val v,s):=by unfold exec;simp[o,ha]<;>rfl
  rw[q]
  cases hr:load s.mem (s.get a) (x.width / 8).toNat with
  | none=>exact rfl
  | some v=>exact⟨ne (mem_bytes hw).2.1,load_ok f h.bytes hw hr,h⟩
 | store o a c ha ka kc hw =>
  have q:exec f pick x s=match store s.mem (s.get a) (s.get c) (kind f c / 8).toNat with|none=>(.fin undefd,s)|some m=>(.on,{s with mem:=m}):=by unfold exec;simp[o,ha]<;>rfl
  rw[q]
  cases hr:store s.mem (s.get a) (s.get c) (kind f c / 8).toNat with
  | none=>exact rfl
  | some m=>exact⟨hw,h.like (store_like hr)⟩
 | phi o=>exact absurd o ho
 | jump o ha t ht hw =>
  simp[exec,o,ha,ht];exact⟨hw,rfl,by simp[ht]⟩
 | branch o a ha ka t u ht hw =>
  have g:=j a (by simp[ha]) (by omega);rw[ka]at g;obtain⟨D,A⟩:=(g.num (by unfold Wd.Wid;decide)).2;have s1:Wd.sz 1=2:=by decide
  rw[s1]at A;simp[exec,o,ha,ht];split
  ·exact rfl
  ·rcases (by omega:(s.get a).n=0\/(s.get a).n=1) with q|q
   ·rw[q];exact⟨hw,rfl,by simp[ht]⟩
   ·rw[q];exact⟨hw,rfl,by simp[ht]⟩
 | ret0 o ha hr hw=>simp[exec,o,ha];exact rfl
 | ret o a ha ka hr hw=>simp[exec,o,ha];exact rfl
 | trap o ha hw=>simp[exec,o,ha];exact rfl
end
end Rn
end
section
namespace Rn
open Ref
theorem phis_front:∀(l:List Ins)(p:Bool),laidFrom l p=true->(p=true->∀i x,l[i]?=some x->(x.op=28↔i<(phis l).length))/\(p=false->∀x∈l,x.op≠28)
 | [],p,_=>⟨fun _ i x h=>by simp at h,fun _ x h=>by simp at h⟩
 | y::r,p,h=>by
  rw[laidFrom]at h
  simp only[we,Bool.or_eq_true,decide_eq_true_eq]at h
  obtain⟨⟨B,m⟩,t⟩:=h
  obtain⟨z,A⟩:=phis_front r _ t;by_cases g:y.op=28
  ·have u:p=true:=m.resolve_left fun q=>q g;refine⟨fun _ i x d=>?_,fun q=>by rw[u]at q;cases q⟩;have e:(phis (y::r)).length=(phis r).length+1:=by simp[phis,List.takeWhile_cons,g]
   rw[e]
   cases i with
   | zero=>simp at d;subst d;simp[g]
   | succ i=>have:=z (by simpa using g) i x (by simpa using d);omega
  ·have j:=A (by simpa using g);refine⟨fun _ i x d=>?_,fun _ x d=>?_⟩
   ·have e:(phis (y::r)).length=0:=by simp[phis,List.takeWhile_cons,g]
    rw[e]
    have:x.op≠28:=by
     cases i with
     | zero=>simp at d;subst d;exact g
     | succ i=>exact j x (vz (by simpa using d))
    omega
   ·rcases List.mem_cons.1 d with rfl|d
    ·exact g
    ·exact j x d
theorem val_laid {f:Fn}(hv:Val f){l:List Ins}(hl:l∈f.blocks):l≠[]/\laidFrom l true=true:=by have:=hv.laid l hl;unfold Ref.laid at this;rw[we]at this;refine⟨fun h=>?_,this.2⟩;rw[h]at this;simp at this
theorem phi_iff {f:Fn}(hv:Val f){l:List Ins}(hl:l∈f.blocks){i:Nat}{x:Ins}(hx:l[i]?=some x):x.op=28↔i<(phis l).length :=
 (phis_front l true (val_laid hv hl).2).1 rfl i x hx
theorem last_iff {f:Fn}(hv:Val f){l:List Ins}(hl:l∈f.blocks){i:Nat}{x:Ins}(hx:l[i]?=some x):isLast x.op=true↔i+1=l.length:=by
 have d:=(yC.1 hx).1
 have e:l=l.take i++x::l.drop (i+1):=by
  conv=>lhs;rw[<-List.take_append_drop i l]
  rw[vM d,(yC.1 hx).2]
 have:=laid_at (l.take i) true x (l.drop (i+1)) (by rw[<-e];exact(val_laid hv hl).2);rw[this,List.isEmpty_iff,List.drop_eq_nil_iff];omega
theorem phis_mem {l:List Ins}{x:Ins}(h:x∈phis l):x∈l/\x.op=28:=by refine⟨List.takeWhile_subset _ h,?_⟩;have:=List.all_takeWhile (p:=fun x:Ins=>decide (x.op=28)) (l:=l);rw[vT]at this;simpa using this x h
structure Ent (f:Fn)(b:Nat)(frm:Int)(l:List Ins)(s:St):Prop extends Mid f b 0 l s where
 phi:∀x∈phis l,frm∈x.to/\x.args.length=x.to.length/\(0<=x.args.getD (x.to.idxOf frm) 0/\x.args.getD (x.to.idxOf frm) 0<count f)/\VOK f x.width (phiRead s frm x)/\x.width≠0
section
variable {f:Fn}{b:Nat}{l:List Ins}{s:St}
theorem enter (hA:RcAll)(hv:Val f)(hi:Im f)(h:Mid f b l.length l s)(hl:f.blocks[b]?=some l){t:Nat}{m:List Ins}(ht:(t:Int)∈(graph f).getD b [])(hm:f.blocks[t]?=some m):Ent f t b m s:=by
 have B:rc (graph f) (-1) t:=by
  have:=(hv.rc hA (-1)).step b t h.rch ht (by omega)
  rwa [vG]at this
 refine {toInv:=h.toInv,rch:=B,dom:=?_,here:=fun j x C=>by omega,phi:=?_}
 ·intro a k g K z;by_cases e:a=b
  ·subst e;rw[hl]at g;injection g with g;subst g;exact fun j x C G=>h.here j x (yC.1 C).1 C G
  ·refine h.dom a k g e ?_;unfold dominates at z ⊢;rw[Bool.or_eq_true]at z ⊢;right;have z:=z.resolve_left (by simp;omega)
   cases hb:(reached (graph f) (a:Int)).getD (b:Int).toNat false with
   | false=>rfl
   | true =>
    rw[vG]at hb;have:=(hv.rc hA (a:Int)).step b t hb ht (by omega);unfold rc at this;rw[vG]at this;rw[vG,this]at z;cases z
 ·intro x G;obtain⟨r,E⟩:=phis_mem G;obtain⟨N,O,P,Q⟩:=phi_parts hv hm r E
  have u:(b:Int)∈x.to:=by rw[hv.phi t m hm x r E,mem_before];refine⟨b,(graph f).getD b [],getD_graph hv (yC.1 hl).1,ht,rfl⟩
  have g:=List.idxOf_lt_length_of_mem u;obtain⟨k,p⟩:=xJ (x.to.idxOf (b:Int))
  have F:x.to[k]?=some (b:Int):=by subst p;rw[vu g];exact congrArg some (List.getElem_idxOf g)
  rw[p]at g;obtain⟨v,y⟩:∃v,x.args[k]?=some v:=⟨_,vu (by omega)⟩;have I:x.args.getD k 0=v:=by rw[vA,y];rfl
  obtain⟨D,L⟩:kind f v=x.width/\(Wd.Wid x.width\/x.width=33):=by
   cases shp hv hi (vz hm) r with
   | phi o q1 q2 q3=>exact⟨q2 v (vz y),q3⟩
   | _=>all_goals omega
  have M:0<x.width:=L.elim (fun q=>by have:=q.1;omega) (fun q=>by omega);have J:=kind_pos (f:=f) (v:=v) (by omega);obtain⟨i,H⟩:=List.getElem?_of_mem r;have d:=hv.st t m hm B i x H k v y;unfold argOk at d;rw[wa E,show x.to.getD k 0=(b:Int) by rw[vA,F];rfl,vG,Bool.or_eq_true]at d;have d:=d.resolve_left (by rw[show (reached (graph f) (-1)).getD b false=true from h.rch];simp);have A:=(h.ok _ (there_had h hl d (.inr ⟨rfl,rfl⟩) (by omega))).1;rw[show ((v.toNat:Nat):Int)=v by omega,D]at A;rw[p,I];refine⟨u,N,J,?_,by omega⟩;unfold phiRead;rw[p,I];exact A
theorem leave (hA:RcAll)(hv:Val f)(hi:Im f){i:Nat}(h:Mid f b i l s)(hl:f.blocks[b]?=some l){x:Ins}(hx:l[i]?=some x)(ho:x.op≠28)(hw:x.width=0){t:Int}(ht:t∈x.to):∃m,0<=t/\f.blocks[t.toNat]?=some m/\Ent f t.toNat b m s/\i+1=l.length:=by
 have d:=vz hl;have g:=vz hx;have A:=to_graph hv hl g ho ht;have q:=to_last hv d g ho ht;have u:=((argument_iff f x).1 (hv.arg l d x g)).2.2.1 t ht
 have j:i+1=l.length:=by refine(last_iff hv d hx).1 ?_;obtain⟨z,p,B⟩:=laid_last l true (val_laid hv d).1 (val_laid hv d).2;rw[q]at p;injection p with p;rw[p];exact B
 obtain⟨m,y⟩:∃m,f.blocks[t.toNat]?=some m:=⟨_,vu (by omega)⟩;refine⟨m,u.1,y,?_,j⟩;have r:=h.skip hx hw;rw[j]at r;exact enter hA hv hi r hl (by rw[Int.toNat_of_nonneg u.1];exact A) y
theorem phi_set (hv:Val f){frm:Int}{s0:St}(he:Ent f b frm l s0){i:Nat}(h:Mid f b i l s)(hl:f.blocks[b]?=some l){x:Ins}(hx:l[i]?=some x)(ho:i<(phis l).length) :
  Mid f b (i+1) l (s.set (Ref.number f b+i) (((phis l).map (phiRead s0 frm)).getD i zero)):=by
 have d:(phis l)[i]?=some x:=by have:phis l <+: l:=List.takeWhile_prefix _;rw[List.prefix_iff_getElem?]at this;have q:=this i ho;rw[vu ho];rw[hx]at q;exact q.symm
 have g:=he.phi x (vz d)
 have e:((phis l).map (phiRead s0 frm)).getD i zero=phiRead s0 frm x:=by rw[vA,vH,d];rfl
 rw[e];exact h.set hl hx g.2.2.2.2 g.2.2.2.1
theorem phis_le (l:List Ins):(phis l).length<=l.length:=(List.takeWhile_prefix _).length_le
end
theorem valid_input {f:Fn}{i:Inp}(h:validInput f i=0):Val f/\i.args.length=f.params.length/\i.mem.map (fun r=>(r.length:Int))=f.slots/\(∀v:Nat,∀w a,f.params[v]?=some w->i.args[v]?=some a->a<Wd.sz w)/\∀r∈i.mem,∀b∈r,-1<=b/\b<=255:=by
 unfold validInput at h;split at h;next h1=>exact absurd h h1
 next h1 =>
  split at h
  ·cases h
  next h2 =>
   split at h
   ·cases h
   next h3 =>
    split at h
    ·cases h
    next h4 =>
     simp only[wC,not_exists,not_and,decide_eq_true_eq,Bool.or_eq_true,not_or]at h3 h4;have hlen:i.args.length=f.params.length/\i.mem.length=f.slots.length:=by omega
     refine⟨(val_iff f).1 (Decidable.not_not.1 h1),hlen.1,?_,?_,?_⟩
     ·apply List.ext_getElem?;intro k;rw[vH];rcases wh k i.mem.length with d|d
      ·have g:=h4 (f.slots[k]'(by omega),i.mem[k]) (by
          rw[List.mem_iff_getElem?]
          exact⟨k,by rw[List.getElem?_zip_eq_some];exact⟨vu (by omega),vu d⟩⟩)
       rw[vu d,vu (by omega)];have:=g.1;simp at this;exact congrArg some this
      ·rw[vP d,vP (by omega)];rfl
     ·intro v w a q j
      have:=h3 (w,a) (by
        rw[List.mem_iff_getElem?]
        exact⟨v,by rw[List.getElem?_zip_eq_some];exact⟨q,j⟩⟩)
      dsimp only at this;omega
     ·intro r p b l;obtain⟨k,d⟩:=List.getElem?_of_mem p;have m:=(yC.1 d).1
      have g:=(h4 (f.slots[k]'(by omega),r) (by
          rw[List.mem_iff_getElem?]
          exact⟨k,by rw[List.getElem?_zip_eq_some];exact⟨vu (by omega),d⟩⟩)).2 b l
      omega
theorem start_had (f:Fn)(i:Inp)(v:Nat):Had (start f i) v↔v<i.args.length:=by
 unfold Had start;rw[vA,List.getElem?_append,vH,vS];split;next h=>simp[vu h,h]
 next h =>
  rw[vR];split<;>simp<;>omega
theorem start_get (f:Fn)(i:Inp)(v:Nat):(start f i).get v=if v<i.args.length then word (i.args.getD v 0) else zero:=by
 unfold St.get start;rw[vG,vA,List.getElem?_append,vH,vS];split;next h=>simp[vu h]
 next h =>
  rw[vR];split<;>rfl
theorem start_ent (hA:RcAll){f:Fn}{i:Inp}(h:validInput f i=0)(ha:∀a∈i.args,0<=a):∃l,f.blocks[0]?=some l/\Ent f 0 (-1) l (start f i):=by
 obtain⟨hv,I,C,D,E⟩:=valid_input h;obtain⟨l,hl⟩:∃l,f.blocks[0]?=some l:=⟨_,vu (by have:=hv.size;omega)⟩;have J:f.params.length<=count f:=by unfold count Ref.number;omega
 refine⟨l,hl,{len:=?_,hlen:=?_,ok:=?_,zero:=?_,mem:=C,bytes:=E,par:=fun v hv=>(start_had f i v).2 (by omega),rch:=(hv.rc hA (-1)).root (by decide),dom:=?_,here:=fun j x hj=>by omega,phi:=?_}⟩
 ·simp[start];omega
 ·simp[start];omega
 ·intro v p;have u:=(start_had f i v).1 p;obtain⟨w,y⟩:∃w,f.params[v]?=some w:=⟨_,vu (by omega)⟩;obtain⟨a,g⟩:∃a,i.args[v]?=some a:=⟨_,vu (by omega)⟩
  have F:kind f (v:Int)=w:=by unfold kind;rw[yD (by omega),wa (by omega),vG,vA,y];rfl
  have d:Wd.Wid w:=wid_of (vT.1 hv.head.1 w (vz y));rw[start_get,wa u,vA,g,F];exact⟨vok_word f d ⟨ha a (vz g),D v w a y g⟩,by have:=d.1;omega⟩
 ·intro v p;rw[start_get,yD fun q=>p ((start_had f i v).2 q)]
 ·intro a m K G r;exfalso;unfold dominates at r;rw[Bool.or_eq_true]at r;have r:=r.resolve_left (by simp;omega);have:=(hv.rc hA (a:Int)).root (by omega);unfold rc at this;rw[show ((0:Nat):Int).toNat=0 from rfl,this]at r;cases r
 ·intro x H;exfalso;obtain⟨t,A⟩:=phis_mem H;obtain⟨z,B,L,M⟩:=phi_parts hv hl t A;have:=hv.phi 0 l hl x t A;rw[show ((0:Nat):Int)=0 from rfl,hv.entry]at this;rw[this]at z;simp at z;rw[z]at B;simp at B
end Rn
end
section
namespace Rn
open Ref
theorem exec_widths (f:Fn)(pick:Pick)(x:Ins)(s:St):(exec f pick x s).2.widths=s.widths\/(exec f pick x s).2.widths=s.widths++[x.width]:=by
 unfold exec;dsimp only;by_cases g:x.op=29
 ·rw[wa g];exact .inl rfl
 rw[yD g];by_cases j:x.op=30
 ·rw[wa j];split<;>exact .inl rfl
 rw[yD j];by_cases l:x.op=31
 ·rw[wa l];exact .inl rfl
 rw[yD l];by_cases m:x.op=32
 ·rw[wa m];exact .inl rfl
 rw[yD m];by_cases p:x.op=26
 ·rw[wa p];split<;>exact .inl rfl
 rw[yD p];by_cases q:x.op=27
 ·rw[wa q];split<;>exact .inl rfl
 rw[yD q];by_cases r:x.op=21
 ·rw[wa r];split
  ·exact .inr rfl
  ·exact .inl rfl
 rw[yD r];by_cases t:x.op=23
 ·rw[wa t];exact .inr rfl
 rw[yD t];by_cases u:x.op=15
 ·rw[wa u];split<;>exact .inl rfl
 rw[yD u];by_cases d:1<=x.op/\x.op<=13
 ·rw[wa d];split<;>exact .inl rfl
 rw[yD d];split<;>exact .inl rfl
theorem exec_prefix (f:Fn)(pick:Pick)(x:Ins)(s:St):s.widths <+: (exec f pick x s).2.widths:=by
 rcases exec_widths f pick x s with h|h
 ·rw[h];exact List.prefix_refl _
 ·rw[h];exact List.prefix_append _ _
theorem exec_det {pick pick':Pick}{K:Nat}(h:∀j,j<K->∀n,pick j n=pick' j n)(f:Fn)(x:Ins)(s:St) :
  exec f pick x s=exec f pick' x s\/(K<=s.widths.length/\(exec f pick x s).2.widths=s.widths++[x.width]/\(exec f pick' x s).2.widths=s.widths++[x.width]):=by
 rcases wh s.widths.length K with l|l
 ·left;have e:∀n,chosen pick s n=chosen pick' s n:=fun n=>by unfold chosen;rw[h _ l]
  unfold exec;dsimp only;simp only[e]
 ·by_cases d:x.op=23\/(x.op=21/\((x.args.map s.get).getD 0 zero).p=true)
  ·right;refine⟨l,?_,?_⟩
   ·unfold exec;dsimp only;rcases d with o|⟨o,p⟩
    ·simp[o,St.chose]
    ·simp only[o,p];simp[St.chose]
   ·unfold exec;dsimp only;rcases d with o|⟨o,p⟩
    ·simp[o,St.chose]
    ·simp only[o,p];simp[St.chose]
  ·left;unfold exec;dsimp only;by_cases g:x.op=21
   ·have m:¬((x.args.map s.get).getD 0 zero).p=true:=fun q=>d (.inr ⟨g,q⟩);rw[yD (by omega),yD (by omega),yD (by omega),yD (by omega),yD (by omega),yD (by omega),wa g,yD m,yD (by omega),yD (by omega),yD (by omega),yD (by omega),yD (by omega),yD (by omega),wa g,yD m]
   ·have r:x.op≠23:=fun q=>d (.inl q);simp[g,r]
def Det (K:Nat){α:Type}(r r':α × St):Prop:=r=r'\/∃ws:List Int,K<ws.length/\ws <+: r.2.widths/\ws <+: r'.2.widths
theorem runIns_prefix (f:Fn)(pick:Pick)(reads:List V):∀(l:List Ins)(i v:Nat)(s:St),s.widths <+: (runIns f pick reads l i v s).2.widths
 | [],i,v,s=>List.prefix_refl _
 | x::r,i,v,s=>by
  unfold runIns
  split
  ·exact List.prefix_refl _
  ·split
   ·exact runIns_prefix f pick reads r (i+1) (v+1) (s.tick.set v (reads.getD i zero))
   ·have d:=exec_prefix f pick x s.tick
    split;next y s' e=>rw[e]at d;exact d.trans (runIns_prefix f pick reads r (i+1) (v+1) (s'.set v y))
    next s' e=>rw[e]at d;exact d.trans (runIns_prefix f pick reads r (i+1) (v+1) s')
    next t s' e=>rw[e]at d;exact d
    next o s' e=>rw[e]at d;exact d
theorem step_prefix (f:Fn)(pick:Pick)(reads:List V)(x:Ins)(r:List Ins)(i v:Nat)(s:St)(h1:s.steps≠400)(h2:¬i<reads.length):(exec f pick x s.tick).2.widths <+: (runIns f pick reads (x::r) i v s).2.widths:=by
 rw[runIns,yD h1,yD h2];split;next y s' e=>rw[e];exact runIns_prefix f pick reads r (i+1) (v+1) (s'.set v y)
 next s' e=>rw[e];exact runIns_prefix f pick reads r (i+1) (v+1) s'
 next t s' e=>rw[e];exact List.prefix_refl _
 next o s' e=>rw[e];exact List.prefix_refl _
theorem runIns_det {pick pick':Pick}{K:Nat}(h:∀j,j<K->∀n,pick j n=pick' j n)(f:Fn)(reads:List V):∀(l:List Ins)(i v:Nat)(s:St),Det K (runIns f pick reads l i v s) (runIns f pick' reads l i v s)
 | [],i,v,s=>.inl rfl
 | x::r,i,v,s=>by
  by_cases h1:s.steps=400
  ·left
   rw[runIns,runIns,wa h1,wa h1]
  by_cases h2:i<reads.length
  ·rw[runIns,runIns,yD h1,yD h1,wa h2,wa h2]
   exact runIns_det h f reads r (i+1) (v+1) _
  rcases exec_det h f x s.tick with e|⟨hk,e1,e2⟩
  ·rw[runIns,runIns,yD h1,yD h1,yD h2,yD h2,e]
   cases hq:exec f pick' x s.tick with
   | mk q s' =>
    cases q with
    | val y=>exact runIns_det h f reads r (i+1) (v+1) (s'.set v y)
    | on=>exact runIns_det h f reads r (i+1) (v+1) s'
    | go t=>exact .inl rfl
    | fin o=>exact .inl rfl
  ·refine .inr ⟨s.tick.widths++[x.width],by rw[vW];simp;omega,?_,?_⟩
   ·rw[<-e1];exact step_prefix f pick reads x r i v s h1 h2
   ·rw[<-e2];exact step_prefix f pick' reads x r i v s h1 h2
theorem block_det {pick pick':Pick}{K:Nat}(h:∀j,j<K->∀n,pick j n=pick' j n)(f:Fn)(b:Nat)(frm:Int)(s:St):Det K (block f pick b frm s) (block f pick' b frm s):=runIns_det h f _ _ _ _ _
theorem block_prefix (f:Fn)(pick:Pick)(b:Nat)(frm:Int)(s:St):s.widths <+: (block f pick b frm s).2.widths:=runIns_prefix f pick _ _ _ _ _
theorem from_prefix (f:Fn)(pick:Pick):∀(k b:Nat)(frm:Int)(s:St),s.widths <+: (from_ f pick k b frm s).2.1.widths
 | 0,_,_,_=>List.prefix_refl _
 | k+1,b,frm,s=>by
  have d:=block_prefix f pick b frm s
  unfold from_
  cases hq:block f pick b frm s with
  | mk q s' =>
   rw[hq]at d
   cases q with
   | over o=>exact d
   | run t=>exact d.trans (from_prefix f pick k t.toNat b s')
theorem from_det {pick pick':Pick}{K:Nat}(h:∀j,j<K->∀n,pick j n=pick' j n)(f:Fn):∀(k b:Nat)(frm:Int)(s:St),
  from_ f pick k b frm s=from_ f pick' k b frm s\/∃ws:List Int,K<ws.length/\ws <+: (from_ f pick k b frm s).2.1.widths/\ws <+: (from_ f pick' k b frm s).2.1.widths
 | 0,_,_,_=>.inl rfl
 | k+1,b,frm,s=>by
  have d:∀(g:Pick),(block f g b frm s).2.widths <+: (from_ f g (k+1) b frm s).2.1.widths:=fun g=>by
   rw[from_]
   cases hq:block f g b frm s with
   | mk q s' =>
    cases q with
    | over o=>exact List.prefix_refl _
    | run t=>exact from_prefix f g k t.toNat b s'
  rcases block_det h f b frm s with e|⟨ws,l,m,p⟩
  ·rw[from_,from_,e]
   cases hq:block f pick' b frm s with
   | mk q s' =>
    cases q with
    | over o=>exact .inl rfl
    | run t =>
     rcases from_det h f k t.toNat b s' with r|⟨ws,l,m,p⟩
     ·left;dsimp only;rw[r]
     ·exact .inr ⟨ws,l,m,p⟩
  ·exact .inr ⟨ws,l,m.trans (d pick),p.trans (d pick')⟩
theorem run_det {pick pick':Pick}{K:Nat}(h:∀j,j<K->∀n,pick j n=pick' j n)(f:Fn)(i:Inp) :
  run f pick i=run f pick' i\/∃ws:List Int,K<ws.length/\ws <+: (run f pick i).2.1.widths/\ws <+: (run f pick' i).2.1.widths:=from_det h f 401 0 (-1) (start f i)
end Rn
end
section
namespace Rn
def wids (f:Fn)(i:Inp)(p:List Int):List Int:=(run f (given p) i).2.1.widths
def Good (f:Fn)(i:Inp)(p:List Int):Prop :=
 p.length<=(wids f i p).length/\∀j:Nat,j<p.length->0<=p.getD j 0/\p.getD j 0<Wd.sz ((wids f i p).getD j 0)
theorem good_nil (f:Fn)(i:Inp):Good f i []:=⟨vU _,fun j h=>absurd h (Nat.not_lt_zero _)⟩
theorem nextK_some (p w:List Int):∀(n k:Nat),nextK p w n=some k->k<n/\p.getD k 0+1<Wd.sz (w.getD k 0)
 | 0,k,h=>by simp[nextK]at h
 | n+1,k,h=>by
  rw[nextK]at h
  split at h
  next h1=>injection h with h;subst h;exact⟨Nat.lt_succ_self _,h1⟩
  next h1=>obtain⟨g,d⟩:=nextK_some p w n k h;exact⟨by omega,d⟩
theorem padded_len {p:List Int}{n:Nat}(h:p.length<=n):(padded p n).length=n:=by unfold padded;simp;omega
theorem padded_get (p:List Int)(n j:Nat):(padded p n).getD j 0=p.getD j 0:=by
 unfold padded;rw[vA,vA,List.getElem?_append];split
 ·rfl
 next h =>
  rw[vP (l:=p) (by omega),vR];split<;>rfl
theorem bump_len {p:List Int}{k:Nat}(h:k<p.length):(bump p k).length=k+1:=by unfold bump;simp;omega
theorem bump_lt {p:List Int}{k j:Nat}(h:k<p.length)(hj:j<k):(bump p k).getD j 0=p.getD j 0:=by unfold bump;rw[vA,vJ (by simp;omega),vL,wa hj,<-vA]
theorem bump_self {p:List Int}{k:Nat}(h:k<p.length):(bump p k).getD k 0=p.getD k 0+1:=by
 unfold bump;rw[vA,vK (by simp;omega)];have:k-(p.take k).length=0:=by simp;omega
 rw[this];rfl
theorem prefix_getD {a b:List Int}(h:a <+: b){j:Nat}(hj:j<a.length):b.getD j 0=a.getD j 0:=by obtain⟨t,rfl⟩:=h;rw[vA,vA,vJ hj]
theorem good_next {f:Fn}{i:Inp}{p:List Int}(h:Good f i p){k:Nat}(hk:nextK (padded p (wids f i p).length) (wids f i p) (wids f i p).length=some k) :
  Good f i (bump (padded p (wids f i p).length) k)/\(wids f i p).take (k+1) <+: wids f i (bump (padded p (wids f i p).length) k):=by
 obtain⟨u,C⟩:=nextK_some _ _ _ _ hk;have hl:=padded_len h.1;have z:(bump (padded p (wids f i p).length) k).length=k+1:=bump_len (by rw[hl];exact u);have g:∀j,j<k->(bump (padded p (wids f i p).length) k).getD j 0=p.getD j 0:=fun j m=>by rw[bump_lt (by rw[hl];exact u) m,padded_get]
 have l:(bump (padded p (wids f i p).length) k).getD k 0=p.getD k 0+1:=by rw[bump_self (by rw[hl];exact u),padded_get]
 rw[padded_get]at C;obtain⟨b,H⟩:=xJ (bump (padded p (wids f i p).length) k);rw[H]at z g l ⊢
 have r:∀j,0<=p.getD j 0:=fun j=>by
  rcases wh j p.length with q|q
  ·exact(h.2 j q).1
  ·rw[vA,vP q];exact Int.le_refl 0
 have y:∀j,j<k->∀n,given p j n=given b j n:=fun j m n=>by
  unfold given;rw[wa (show j<b.length by omega),g j m];split
  ·rfl
  next q=>rw[vA,vP (by omega)];simp
 have J:∃ws:List Int,k<ws.length/\ws <+: wids f i p/\ws <+: wids f i b:=by
  rcases run_det y f i with e|⟨ws,E,F,G⟩
  ·exact⟨wids f i p,u,List.prefix_refl _,by unfold wids;rw[e];exact List.prefix_refl _⟩
  ·exact⟨ws,E,F,G⟩
 obtain⟨ws,L,D,B⟩:=J;have d:∀j,j<=k->(wids f i b).getD j 0=(wids f i p).getD j 0:=fun j m=>by rw[prefix_getD D (by omega),prefix_getD B (by omega)]
 have K:=B.length_le;refine⟨⟨by omega,fun j m=>?_⟩,?_⟩
 ·rcases wh j k with q|q
  ·rw[g j q,d j (by omega)];refine⟨r j,?_⟩;rcases wh j p.length with A|A
   ·exact(h.2 j A).2
   ·rw[vA,vP A];exact Wd.sz_pos _
  ·obtain rfl:j=k:=by omega
   rw[l,d j (vV _)];exact⟨by have:=r j;omega,C⟩
 ·obtain⟨t,I⟩:=D;have e:(wids f i p).take (k+1)=ws.take (k+1):=by rw[<-I,List.take_append_of_le_length (by omega)]
  rw[e];exact(List.take_prefix _ _).trans B
theorem given_out {p:List Int}{j:Nat}(hj:p.length<=j)(n:Int):given p j n=0:=by unfold given;rw[yD (by omega)]
end Rn
end
section
namespace Rn
structure IsCmp {α:Type}(c:α->α->Int):Prop where
 three:∀a b,c a b=-1\/c a b=0\/c a b=1
 zero:∀a b,c a b=0↔a=b
 swap:∀a b,c b a=-c a b
 trans:∀a b d,c a b=-1->c b d=-1->c a d=-1
theorem sgn_cases (a b:Int):(a<b/\sgn a b=-1)\/(a=b/\sgn a b=0)\/(b<a/\sgn a b=1):=by
 unfold sgn;rcases Int.lt_trichotomy a b with h|h|h
 ·exact .inl ⟨h,wa h⟩
 ·exact .inr (.inl ⟨h,by rw[yD (by omega),yD (by omega)]⟩)
 ·exact .inr (.inr ⟨h,by rw[yD (by omega),wa h]⟩)
theorem isCmp_sgn:IsCmp sgn where
 three a b:=by have:=sgn_cases a b;omega
 zero a b:=by have:=sgn_cases a b;omega
 swap a b:=by have:=sgn_cases a b;have:=sgn_cases b a;omega
 trans a b d h1 h2:=by have:=sgn_cases a b;have:=sgn_cases b d;have:=sgn_cases a d;omega
def lex {α:Type}(c:α->α->Int):List α->List α->Int
 | [],[]=>0
 | [],_::_=>-1
 | _::_,[]=>1
 | a::azs,b::bs=>if c a b=0 then lex c azs bs else c a b
theorem lex_ints:∀a b:List Int,cmpInts a b=lex sgn a b
 | [],[]=>rfl
 | [],_::_=>rfl
 | _::_,[]=>rfl
 | a::azs,b::bs=>by rw[cmpInts,lex,lex_ints azs bs]
theorem lex_mem:∀a b:List (List Int),cmpMem a b=lex cmpInts a b
 | [],[]=>rfl
 | [],_::_=>rfl
 | _::_,[]=>rfl
 | a::azs,b::bs=>by rw[cmpMem,lex,lex_mem azs bs]
theorem lex_three {α:Type}{c:α->α->Int}(h:IsCmp c):∀a b:List α,lex c a b=-1\/lex c a b=0\/lex c a b=1
 | [],[]=>.inr (.inl rfl)
 | [],_::_=>.inl rfl
 | _::_,[]=>.inr (.inr rfl)
 | a::azs,b::bs=>by
  rw[lex]
  split
  ·exact lex_three h azs bs
  ·exact h.three a b
theorem lex_zero {α:Type}{c:α->α->Int}(h:IsCmp c):∀a b:List α,lex c a b=0↔a=b
 | [],[]=>by simp[lex]
 | [],_::_=>by simp[lex]
 | _::_,[]=>by simp[lex]
 | a::azs,b::bs=>by
  rw[lex,List.cons.injEq]
  split
  next e=>rw[lex_zero h azs bs];exact⟨fun q=>⟨(h.zero a b).1 e,q⟩,fun q=>q.2⟩
  next e=>exact⟨fun q=>absurd q e,fun q=>absurd ((h.zero a b).2 q.1) e⟩
theorem lex_swap {α:Type}{c:α->α->Int}(h:IsCmp c):∀a b:List α,lex c b a=-lex c a b
 | [],[]=>rfl
 | [],_::_=>rfl
 | _::_,[]=>rfl
 | a::azs,b::bs=>by
  rw[lex,lex,h.swap a b]
  by_cases e:c a b=0
  ·rw[wa (by omega),wa e];exact lex_swap h azs bs
  ·rw[yD (by omega),yD e]
theorem lex_trans {α:Type}{c:α->α->Int}(h:IsCmp c):∀a b d:List α,lex c a b=-1->lex c b d=-1->lex c a d=-1
 | [],b,[],h1,h2=>by cases b<;>simp[lex]at h1 h2
 | [],b,_::_,h1,h2=>rfl
 | a::azs,[],d,h1,h2=>by simp[lex]at h1
 | a::azs,b::bs,[],h1,h2=>by simp[lex]at h2
 | a::azs,b::bs,d::ds,h1,h2=>by
  rw[lex]at h1 h2 ⊢
  by_cases j:c a b=0
  ·have:=(h.zero a b).1 j
   subst this;rw[wa j]at h1;by_cases g:c a d=0
   ·rw[wa g]at h2 ⊢;exact lex_trans h azs bs ds h1 h2
   ·rw[yD g]at h2 ⊢;exact h2
  ·rw[yD j]at h1;by_cases g:c b d=0
   ·have:=(h.zero b d).1 g;subst this;rw[yD j];exact h1
   ·rw[yD g]at h2;have:=h.trans a b d h1 h2;rw[yD (by omega)];exact this
theorem isCmp_lex {α:Type}{c:α->α->Int}(h:IsCmp c):IsCmp (lex c):=⟨lex_three h,lex_zero h,lex_swap h,lex_trans h⟩
theorem isCmp_ints:IsCmp cmpInts:=by have:cmpInts=lex sgn:=funext fun a=>funext fun b=>lex_ints a b;rw[this];exact isCmp_lex isCmp_sgn
theorem isCmp_mem:IsCmp cmpMem:=by have:cmpMem=lex cmpInts:=funext fun a=>funext fun b=>lex_mem a b;rw[this];exact isCmp_lex isCmp_ints
theorem heads_inj {a b:Out}(h:heads a=heads b)(hm:a.mem=b.mem):a=b:=by
 obtain⟨k,⟨p,s,n⟩,m⟩:=a;obtain⟨j,⟨d,s',q⟩,l⟩:=b;simp[heads]at h hm;obtain⟨rfl,g,rfl,rfl⟩:=h;subst hm;have:p=d:=by cases p<;>cases d<;>simp[bit]at g<;>rfl
 subst this;rfl
theorem isCmp_out:IsCmp cmpOut where
 three a b:=by unfold cmpOut;split;exact isCmp_mem.three _ _;exact isCmp_ints.three _ _
 zero a b:=by
  unfold cmpOut;split;next e=>rw[isCmp_mem.zero];exact⟨fun q=>heads_inj ((isCmp_ints.zero _ _).1 e) q,fun q=>by rw[q]⟩
  next e=>exact⟨fun q=>absurd q e,fun q=>absurd ((isCmp_ints.zero _ _).2 (by rw[q])) e⟩
 swap a b:=by
  unfold cmpOut;rw[isCmp_ints.swap (heads a) (heads b),isCmp_mem.swap a.mem b.mem];by_cases e:cmpInts (heads a) (heads b)=0
  ·rw[wa (by omega),wa e]
  ·rw[yD (by omega),yD e]
 trans a b d h1 h2:=by
  unfold cmpOut at *;by_cases j:cmpInts (heads a) (heads b)=0
  ·rw[wa j]at h1;have l:=(isCmp_ints.zero _ _).1 j;rw[l];by_cases g:cmpInts (heads b) (heads d)=0
   ·rw[wa g]at h2 ⊢;exact isCmp_mem.trans _ _ _ h1 h2
   ·rw[yD g]at h2 ⊢;exact h2
  ·rw[yD j]at h1;by_cases g:cmpInts (heads b) (heads d)=0
   ·rw[<-(isCmp_ints.zero _ _).1 g,yD j];exact h1
   ·rw[yD g]at h2;have:=isCmp_ints.trans _ _ _ h1 h2;rw[yD (by omega)];exact this
end Rn
end
section
namespace Rn
def Asc (l:List Out):Prop:=l.Pairwise fun a b=>cmpOut a b=-1
theorem insert_mem (x:Out):∀(l:List Out)(o:Out),o∈insert x l↔o=x\/o∈l
 | [],o=>by simp[insert]
 | y::r,o=>by
  rw[insert]
  split
  next e =>
   have:=(isCmp_out.zero x y).1 e
   subst this;simp
  next e =>
   split
   ·simp
   ·rw[List.mem_cons,insert_mem x r o,List.mem_cons];constructor
    ·rintro (h|h|h)
     ·exact .inr (.inl h)
     ·exact .inl h
     ·exact .inr (.inr h)
    ·rintro (h|h|h)
     ·exact .inr (.inl h)
     ·exact .inl h
     ·exact .inr (.inr h)
theorem insert_asc (x:Out):∀(l:List Out),Asc l->Asc (insert x l)
 | [],_=>by simp[insert,Asc]
 | y::r,h=>by
  rw[insert]
  unfold Asc at h
  rw[List.pairwise_cons]at h
  split
  next e=>unfold Asc;rw[List.pairwise_cons];exact h
  next e =>
   split
   next e2 =>
    have g:cmpOut x y=-1:=by have:=isCmp_out.three x y;omega
    unfold Asc;rw[List.pairwise_cons,List.pairwise_cons];refine⟨fun z d=>?_,h⟩;rcases List.mem_cons.1 d with rfl|d
    ·exact g
    ·exact isCmp_out.trans _ _ _ g (h.1 z d)
   next e2 =>
    have g:cmpOut y x=-1:=by have:=isCmp_out.three x y;have:=isCmp_out.swap x y;omega
    unfold Asc;rw[List.pairwise_cons];refine⟨fun z d=>?_,insert_asc x r h.2⟩;rcases (insert_mem x r z).1 d with rfl|d
    ·exact g
    ·exact h.1 z d
end Rn
end
section
namespace Rn
def below (x:Out)(l:List Out):Nat:=l.countP fun o=>decide (cmpOut o x<0)
theorem below_le (x:Out)(l:List Out):below x l<=l.length:=List.countP_le_length
theorem asc_tail {y:Out}{r:List Out}(h:Asc (y::r)):Asc r:=by unfold Asc at *;rw[List.pairwise_cons]at h;exact h.2
theorem below_none (x:Out):∀(l:List Out)(y:Out),Asc (y::l)->¬cmpOut y x<0->∀z∈l,¬cmpOut z x<0:=by
 intro l y h p z j m;unfold Asc at h;rw[List.pairwise_cons]at h;have d:=h.1 z j;have g:cmpOut z x=-1:=by have:=isCmp_out.three z x;omega
 have:=isCmp_out.trans _ _ _ d g;omega
theorem below_at (x:Out):∀(l:List Out),Asc l->(∀j y,l[j]?=some y->(cmpOut y x<0↔j<below x l))
 | [],_,j,y,h=>by simp at h
 | y::r,ha,j,z,hz=>by
  by_cases d:cmpOut y x<0
  ·have e:below x (y::r)=below x r+1:=by unfold below;rw[List.countP_cons_of_pos (by simpa using d)]
   rw[e]
   cases j with
   | zero=>simp at hz;subst hz;exact⟨fun _=>Nat.succ_pos _,fun _=>d⟩
   | succ j=>rw[vB]at hz;rw[below_at x r (asc_tail ha) j z hz];omega
  ·have p:=below_none x r y ha d
   have e:below x (y::r)=0:=by
    unfold below;rw[List.countP_eq_zero];intro o m;rcases List.mem_cons.1 m with rfl|m
    ·simpa using d
    ·simpa using p o m
   rw[e];constructor
   ·intro g;exfalso;rcases List.mem_cons.1 (vz hz) with rfl|q
    ·exact d g
    ·exact p z q g
   ·intro q;omega
theorem insert_found (x:Out):∀(l:List Out),Asc l->l[below x l]?=some x->insert x l=l
 | [],_,h=>by simp at h
 | y::r,ha,h=>by
  rw[insert]
  split
  ·rfl
  next e =>
   by_cases g:cmpOut y x<0
   ·have d:below x (y::r)=below x r+1:=by unfold below;rw[List.countP_cons_of_pos (by simpa using g)]
    rw[d,vB]at h;rw[yD (by have:=isCmp_out.swap x y;omega),insert_found x r (asc_tail ha) h]
   ·exfalso
    have d:below x (y::r)=0:=by have:=(below_at x (y::r) ha 0 y rfl);omega
    rw[d]at h;simp at h;subst h;exact e ((isCmp_out.zero _ _).2 rfl)
theorem insert_new (x:Out):∀(l:List Out),Asc l->l[below x l]?≠some x->insert x l=l.take (below x l)++x::l.drop (below x l)
 | [],_,_=>rfl
 | y::r,ha,h=>by
  rw[insert]
  by_cases m:cmpOut y x<0
  ·have d:below x (y::r)=below x r+1:=by unfold below;rw[List.countP_cons_of_pos (by simpa using m)]
   rw[d,vB]at h;have j:=isCmp_out.swap x y;rw[yD (by omega),yD (by omega),insert_new x r (asc_tail ha) h,d];rfl
  ·have d:below x (y::r)=0:=by
    have:=(below_at x (y::r) ha 0 y rfl);omega
   rw[d]at h ⊢;have g:cmpOut x y≠0:=fun e=>h (by rw[(isCmp_out.zero _ _).1 e];rfl);have j:=isCmp_out.swap x y;have p:=isCmp_out.three x y;rw[yD g,wa (by omega)];rfl
end Rn
end
section
namespace Rn
open Ref
theorem exec_ways (f:Fn)(pick:Pick)(x:Ins)(s:St)(M:Res × St->Prop)(hgo:∀t,M (.go t,s))(hfin:M (.fin undefd,s))(hret:x.op=31->M (.fin ⟨0,(x.args.map s.get).getD 0 zero,s.mem⟩,s))(hval:∀v,M (.val v,s))
  (hon:∀m,M (.on,{s with mem:=m})) (hch:∀v,M (.val v,s.chose x.width)):M (exec f pick x s):=by
 unfold exec;dsimp only;by_cases j:x.op=29
 ·rw[wa j];exact hgo _
 rw[yD j];by_cases l:x.op=30
 ·rw[wa l];split
  ·exact hfin
  ·exact hgo _
 rw[yD l];by_cases g:x.op=31
 ·rw[wa g];exact hret g
 rw[yD g];by_cases p:x.op=32
 ·rw[wa p];exact hfin
 rw[yD p];by_cases q:x.op=26
 ·rw[wa q];split
  ·exact hfin
  ·exact hval _
 rw[yD q];by_cases r:x.op=27
 ·rw[wa r];split
  ·exact hfin
  ·exact hon _
 rw[yD r];by_cases u:x.op=21
 ·rw[wa u];split
  ·exact hch _
  ·exact hval _
 rw[yD u];by_cases y:x.op=23
 ·rw[wa y];exact hch _
 rw[yD y];by_cases z:x.op=15
 ·rw[wa z];split<;>exact hval _
 rw[yD z];by_cases d:1<=x.op/\x.op<=13
 ·rw[wa d];split
  ·exact hfin
  ·exact hval _
 rw[yD d];split<;>exact hval _
theorem exec_steps (f:Fn)(pick:Pick)(x:Ins)(s:St):(exec f pick x s).2.steps=s.steps :=
 exec_ways f pick x s (fun r=>r.2.steps=s.steps) (fun _=>rfl) rfl (fun _=>rfl) (fun _=>rfl) (fun _=>rfl) (fun _=>rfl)
theorem runIns_steps (f:Fn)(pick:Pick)(rs:List V):∀(l:List Ins)(i v:Nat)(s:St),s.steps<=400 ->
  (runIns f pick rs l i v s).2.steps<=400/\s.steps<=(runIns f pick rs l i v s).2.steps/\(∀t,(runIns f pick rs l i v s).1=.run t->s.steps+1<=(runIns f pick rs l i v s).2.steps)
 | [],i,v,s,h=>⟨h,vV _,fun t q=>by simp[runIns]at q⟩
 | x::r,i,v,s,h=>by
  rw[runIns]
  split
  next h1=>exact⟨h,vV _,fun t q=>by cases q⟩
  next h1 =>
   split
   next h2 =>
    obtain⟨m,p,j⟩:=runIns_steps f pick rs r (i+1) (v+1) (s.tick.set v (rs.getD i zero)) (by show s.steps+1<=400;omega)
    have e:(s.tick.set v (rs.getD i zero)).steps=s.steps+1:=rfl;rw[e]at p j;exact⟨m,by omega,fun t q=>by have:=j t q;omega⟩
   next h2 =>
    have d:=exec_steps f pick x s.tick;have e:s.tick.steps=s.steps+1:=rfl;rw[e]at d;split
    next y s' hq =>
     rw[hq]at d;have g:s'.steps=s.steps+1:=d;obtain⟨m,p,j⟩:=runIns_steps f pick rs r (i+1) (v+1) (s'.set v y) (by show s'.steps<=400;omega);have u:(s'.set v y).steps=s'.steps:=rfl;rw[u]at p j;exact⟨m,by omega,fun t q=>by have:=j t q;omega⟩
    next s' hq =>
     rw[hq]at d;have g:s'.steps=s.steps+1:=d;obtain⟨m,p,j⟩:=runIns_steps f pick rs r (i+1) (v+1) s' (by omega);exact⟨m,by omega,fun t q=>by have:=j t q;omega⟩
    next t' s' hq =>
     rw[hq]at d;have g:s'.steps=s.steps+1:=d;exact⟨by show s'.steps<=400;omega,by show _<=s'.steps;omega,fun t q=>by show _<=s'.steps;omega⟩
    next o s' hq =>
     rw[hq]at d;have g:s'.steps=s.steps+1:=d;exact⟨by show s'.steps<=400;omega,by show _<=s'.steps;omega,fun t q=>by cases q⟩
theorem block_steps (f:Fn)(pick:Pick)(b:Nat)(frm:Int)(s:St)(h:s.steps<=400) :
  (block f pick b frm s).2.steps<=400/\s.steps<=(block f pick b frm s).2.steps/\(∀t,(block f pick b frm s).1=.run t->s.steps+1<=(block f pick b frm s).2.steps):=runIns_steps f pick _ _ _ _ _ h
def OutOf (f:Fn)(s:St)(o:Out):Prop :=
 (o.kind=0/\o.mem=s.mem/\o.ret.s=0/\0<=o.ret.n/\o.ret.n<4294967296)\/o=undefd\/o=long
theorem exec_fin (f:Fn)(pick:Pick)(x:Ins)(s:St){o:Out}(h:(exec f pick x s).1=.fin o):o=undefd\/(x.op=31/\o=⟨0,(x.args.map s.get).getD 0 zero,s.mem⟩):=by
 have:=exec_ways f pick x s (fun r=>∀o,r.1=.fin o->o=undefd\/(x.op=31/\o=⟨0,(x.args.map s.get).getD 0 zero,s.mem⟩))
  (fun _ o h=>by cases h) (fun o h=>by injection h with h;exact .inl h.symm) (fun e o h=>by injection h with h;exact .inr ⟨e,h.symm⟩) (fun _ o h=>by cases h) (fun _ o h=>by cases h) (fun _ o h=>by cases h)
 exact this o h
section
variable {f:Fn}{b:Nat}{l:List Ins}{pick:Pick}
theorem fin_ok (hv:Val f)(hi:Im f){i:Nat}{s:St}(h:Mid f b i l s)(hl:f.blocks[b]?=some l){x:Ins}(hx:l[i]?=some x)(ho:x.op≠28){o:Out}(hf:(exec f pick x s).1=.fin o):OutOf f s o:=by
 rcases exec_fin f pick x s hf with e|⟨e,rfl⟩
 ·exact .inr (.inl e)
 ·left
  cases shp hv hi (vz hl) (vz hx) with
  | ret0 o ha hr hw=>rw[ha];exact⟨rfl,rfl,rfl,Int.le_refl 0,by show (0:Int)<4294967296;decide⟩
  | ret o a ha ka hr hw =>
   have d:=arg_there hv h hl hx ho (v:=a) (by simp[ha]) (by have:=hr.1;omega);rw[ka]at d;obtain⟨j,g⟩:=d.num hr;have m:=Wd.sz_32 hr;rw[ha];exact⟨rfl,rfl,j,g.1,Int.lt_of_lt_of_le g.2 m⟩
  | _=>exfalso;omega
def BlockOk (f:Fn)(b:Nat):Nx × St->Prop
 | (.run t,s')=>∃m,0<=t/\f.blocks[t.toNat]?=some m/\Ent f t.toNat b m s'
 | (.over o,s')=>Inv f s'/\OutOf f s' o
theorem runIns_ok (hA:RcAll)(hv:Val f)(hi:Im f)(hpk:PickOk pick){frm:Int}{s0:St}(he:Ent f b frm l s0)(hl:f.blocks[b]?=some l) :
  ∀(r:List Ins)(k:Nat)(s:St),l.drop k=r->Mid f b k l s->BlockOk f b (runIns f pick ((phis l).map (phiRead s0 frm)) r k (Ref.number f b+k) s)
 | [],k,s,_,hm=>⟨hm.toInv,.inr (.inl rfl)⟩
 | x::r,k,s,hr,hm=>by
  have j:l[k]?=some x:=by
   have:(l.drop k)[0]?=some x:=by rw[hr];rfl
   rwa [List.getElem?_drop,Nat.add_zero]at this
  have g:l.drop (k+1)=r:=by rw[show k+1=k+1 from rfl,<-List.drop_drop,hr];rfl
  have p:Mid f b k l s.tick:=hm.like (like_tick s);rw[runIns];split;next h1=>exact⟨hm.toInv,.inr (.inr rfl)⟩
  next h1 =>
   split
   next h2 =>
    rw[vS]at h2;exact runIns_ok hA hv hi hpk he hl r (k+1) _ g (phi_set hv he p hl j h2)
   next h2 =>
    rw[vS]at h2;have A:x.op≠28:=fun q=>h2 ((phi_iff hv (vz hl) j).1 q);have d:=exec_ok hv hi hpk p hl j A;split
    next y s' hq =>
     rw[hq]at d;obtain⟨u,z,F⟩:=d;exact runIns_ok hA hv hi hpk he hl r (k+1) _ g (F.set hl j u z)
    next s' hq =>
     rw[hq]at d;obtain⟨u,z⟩:=d;exact runIns_ok hA hv hi hpk he hl r (k+1) _ g (z.skip j u)
    next t s' hq =>
     rw[hq]at d;obtain⟨u,rfl,z⟩:=d;obtain⟨m,C,D,E,-⟩:=leave hA hv hi p hl j A u z;exact⟨m,C,D,E⟩
    next o s' hq =>
     have B:=fin_ok (pick:=pick) hv hi p hl j A (o:=o) (by rw[hq]);rw[hq]at d;obtain rfl:=d;exact⟨p.toInv,B⟩
theorem block_ok (hA:RcAll)(hv:Val f)(hi:Im f)(hpk:PickOk pick){frm:Int}{s:St}(he:Ent f b frm l s)(hl:f.blocks[b]?=some l):BlockOk f b (block f pick b frm s):=by unfold block;rw[vA,hl];exact runIns_ok hA hv hi hpk he hl l 0 s rfl he.toMid
theorem from_ok (hA:RcAll)(hv:Val f)(hi:Im f)(hpk:PickOk pick):∀(n b:Nat)(frm:Int)(s:St)(l:List Ins),f.blocks[b]?=some l->Ent f b frm l s->s.steps<=400->401<=s.steps+n ->
  Inv f (from_ f pick n b frm s).2.1/\OutOf f (from_ f pick n b frm s).2.1 (from_ f pick n b frm s).1/\(from_ f pick n b frm s).2.1.steps<=400
 | 0,b,frm,s,l,_,_,h1,h2=>by omega
 | n+1,b,frm,s,l,hl,he,h1,h2=>by
  have d:=block_ok hA hv hi hpk he hl
  have g:=block_steps f pick b frm s h1;rw[from_]
  cases hq:block f pick b frm s with
  | mk q s' =>
   rw[hq]at d g
   cases q with
   | over o=>exact⟨d.1,d.2,g.1⟩
   | run t =>
    obtain⟨m,u,j,p⟩:=d;have r:s.steps+1<=s'.steps:=g.2.2 t rfl;exact from_ok hA hv hi hpk n t.toNat b s' m j p g.1 (by omega)
end
end Rn
end
section
namespace Rn
open Ref
theorem exec_wid (f:Fn)(pick:Pick)(x:Ins)(s:St):(exec f pick x s).2.widths=s.widths\/((exec f pick x s).2.widths=s.widths++[x.width]/\(x.op=21\/x.op=23)):=by
 unfold exec;dsimp only;by_cases l:x.op=29
 ·rw[wa l];exact .inl rfl
 rw[yD l];by_cases m:x.op=30
 ·rw[wa m];split<;>exact .inl rfl
 rw[yD m];by_cases p:x.op=31
 ·rw[wa p];exact .inl rfl
 rw[yD p];by_cases q:x.op=32
 ·rw[wa q];exact .inl rfl
 rw[yD q];by_cases r:x.op=26
 ·rw[wa r];split<;>exact .inl rfl
 rw[yD r];by_cases t:x.op=27
 ·rw[wa t];split<;>exact .inl rfl
 rw[yD t];by_cases g:x.op=21
 ·rw[wa g];split
  ·exact .inr ⟨rfl,.inl g⟩
  ·exact .inl rfl
 rw[yD g];by_cases j:x.op=23
 ·rw[wa j];exact .inr ⟨rfl,.inr j⟩
 rw[yD j];by_cases u:x.op=15
 ·rw[wa u];split<;>exact .inl rfl
 rw[yD u];by_cases d:1<=x.op/\x.op<=13
 ·rw[wa d];split<;>exact .inl rfl
 rw[yD d];split<;>exact .inl rfl
def WOk (s:St):Prop:=s.widths.length<=s.steps/\∀z∈s.widths,Wd.Wid z
theorem exec_wok {f:Fn}{pick:Pick}{x:Ins}{s:St}(hx:x.op=21\/x.op=23->Wd.Wid x.width)(h:WOk s):WOk (exec f pick x s.tick).2:=by
 have e:s.tick.steps=s.steps+1:=rfl;have g:s.tick.widths=s.widths:=rfl;unfold WOk;rw[exec_steps,e];rcases exec_wid f pick x s.tick with q|⟨q,j⟩
 ·rw[q,g];exact⟨by have:=h.1;omega,h.2⟩
 ·rw[q,g,vW,List.length_singleton];refine⟨by have:=h.1;omega,fun z d=>?_⟩;rcases yE.1 d with d|d
  ·exact h.2 z d
  ·rw[List.mem_singleton.1 d];exact hx j
theorem runIns_wok (f:Fn)(pick:Pick)(rs:List V):∀(l:List Ins)(i v:Nat)(s:St),(∀x∈l,x.op=21\/x.op=23->Wd.Wid x.width)->WOk s->WOk (runIns f pick rs l i v s).2
 | [],i,v,s,_,h=>h
 | x::r,i,v,s,hl,h=>by
  rw[runIns]
  have g:∀y∈r,y.op=21\/y.op=23->Wd.Wid y.width:=fun y hy=>hl y (List.mem_cons_of_mem _ hy)
  split
  ·exact h
  ·split
   ·exact runIns_wok f pick rs r _ _ _ g ⟨by have:=h.1;show s.widths.length<=s.steps+1;omega,h.2⟩
   ·have d:=exec_wok (f:=f) (pick:=pick) (hl x (List.mem_cons_self)) h;split;next y s' hq=>rw[hq]at d;exact runIns_wok f pick rs r _ _ _ g d
    next s' hq=>rw[hq]at d;exact runIns_wok f pick rs r _ _ _ g d
    next t' s' hq=>rw[hq]at d;exact d
    next o s' hq=>rw[hq]at d;exact d
theorem wid_chosen {f:Fn}(hv:Val f)(hi:Im f){b:Nat}{l:List Ins}(hl:f.blocks[b]?=some l):∀x∈l,x.op=21\/x.op=23->Wd.Wid x.width:=fun x d g=>by
 cases shp hv hi (vz hl) d with
 | freeze h1 a h2 h3 h4=>exact h4
 | any h1 h2 h3=>exact h3
 | _=>exfalso;omega
theorem block_wok {f:Fn}(hv:Val f)(hi:Im f)(pick:Pick)(b:Nat)(frm:Int){s:St}(h:WOk s):WOk (block f pick b frm s).2:=by
 unfold block
 cases hl:f.blocks[b]? with
 | none=>rw[vA,hl];exact h
 | some l=>rw[vA,hl];exact runIns_wok _ _ _ _ _ _ _ (wid_chosen hv hi hl) h
theorem from_wok {f:Fn}(hv:Val f)(hi:Im f)(pick:Pick):∀(n b:Nat)(frm:Int)(s:St),WOk s->WOk (from_ f pick n b frm s).2.1
 | 0,b,frm,s,h=>h
 | n+1,b,frm,s,h=>by
  rw[from_]
  have d:=block_wok hv hi pick b frm h
  split;next o s' hq=>rw[hq]at d;exact d
  next t s' hq=>rw[hq]at d;exact from_wok hv hi pick n _ _ _ d
theorem run_ok {f:Fn}{i:Inp}(hA:RcAll)(hv:Val f)(hi:Im f)(hin:validInput f i=0)(ha:∀a∈i.args,0<=a)(p:List Int) :
  (wids f i p).length<=400/\(∀z∈wids f i p,Wd.Wid z)/\Inv f (run f (given p) i).2.1/\OutOf f (run f (given p) i).2.1 (run f (given p) i).1:=by
 obtain⟨l,d,g⟩:=start_ent hA hin ha;obtain⟨j,m,q⟩:=from_ok hA hv hi (given_ok p) 401 0 (-1) (start f i) l d g (vU _) (by omega);have w:=from_wok hv hi (given p) 401 0 (-1) (start f i) ⟨vU _,fun z hz=>by cases hz⟩;have e:run f (given p) i=from_ f (given p) 401 0 (-1) (start f i):=rfl;unfold wids;rw[e];exact⟨by have:=w.1;omega,w.2,j,m⟩
theorem wid_at {ws:List Int}(h:∀z∈ws,Wd.Wid z){j:Nat}(hj:j<ws.length):Wd.Wid (ws.getD j 0):=by rw[vA,vu hj];exact h _ (List.getElem_mem hj)
theorem good_words {f:Fn}{i:Inp}{p:List Int}(h:Good f i p)(hw:∀z∈wids f i p,Wd.Wid z):∀z∈padded p (wids f i p).length,0<=z/\z<4294967296:=fun z d=>by
 unfold padded at d;rcases yE.1 d with d|d
 ·obtain⟨j,q⟩:=List.getElem?_of_mem d;have g:=(yC.1 q).1;obtain⟨l,m⟩:=h.2 j g;have r:Wd.sz ((wids f i p).getD j 0)<=4294967296:=Wd.sz_32 (wid_at hw (by have:=h.1;omega));rw[vA,q]at l m;exact⟨l,Int.lt_of_lt_of_le m r⟩
 ·rw[(List.mem_replicate.1 d).2];decide
theorem explore_round {f:Fn}{i:Inp}{n:Nat}{p:List Int}{outs:List Out}{R:Option (List Out)}(h:explore f i (n+1) p outs=R) :
  (nextK (padded p (wids f i p).length) (wids f i p) (wids f i p).length=none->R=some (insert (run f (given p) i).1 outs)) /\
  ∀k,nextK (padded p (wids f i p).length) (wids f i p) (wids f i p).length=some k->explore f i n (bump (padded p (wids f i p).length) k) (insert (run f (given p) i).1 outs)=R:=by
 rw[explore]at h;constructor
 ·intro q;unfold wids at q;rw[q]at h;exact h.symm
 ·intro k q;unfold wids at q;rw[q]at h;exact h
theorem insert_len (x:Out):∀l:List Out,(insert x l).length<=l.length+1
 | []=>vV _
 | y::r=>by
  rw[insert]
  split
  ·exact Nat.le_succ _
  ·split
   ·exact vV _
   ·have:=insert_len x r
    simp only[List.length_cons];omega
end Rn
end
section
namespace Rn
open Ref
end Rn
end
