/- Parts: OpenZ Ba Bb. -/
import Derived.Test.YthfhamagopbgcaaGreatG18
import Derived.Lib.SmallJoins
import Derived.SizedLaws
import Derived.Test.YthfhamagopbgcaaGreatRows
import Derived.WalkKit
import Derived.ProofKit
import Derived.OpenShut
import Derived.ShutString
import Derived.ChangeOld
import Derived.Below
import Derived.Test.YthfhamagopbgcaaGreatG22
namespace Go.Proofs.YthfhamagopbgcaaGreat
open Go.RowKit Go.Deep Go.ChangeShapes Go.WideShapes

theorem cell_lt {w:World} {a:Addr} {v:Value} (h:w.cell? a=some v):a.block<w.heap.size:=by
 rcases Nat.lt_or_ge a.block w.heap.size with h1 | h1
 ·exact h1
 ·unfold World.cell? at h
  rw [Array.getElem?_eq_none h1] at h
  simp at h
theorem weightsAll_mem {H:Type} {P:Program} {e:TypeId} {d:DataW H} {m:Nat}:∀ {l:List (DataW H)},d ∈ l→m ∈ d.weights P e→m ∈ DataW.weightsAll P e l
 | [],h,_=>by cases h
 | d'::r,h,hm=>by
  simp only [DataW.weightsAll,List.mem_append]
  rcases List.mem_cons.1 h with rfl | h
  ·exact Or.inl hm
  ·exact Or.inr (weightsAll_mem h hm)
/-- The numbers of an instruction are what they can be. -/
def Sane (x:Ins):Prop:=(0≤x.imm∧x.imm<4294967296)∧(∀ z ∈ x.args,-9223372036854775808≤z∧z≤9223372036854775807)∧-9223372036854775808≤x.flags∧x.flags≤9223372036854775807

section
set_option maxRecDepth 100000
variable {H:Type} {enc:TypeId × Value→H} {w:World}

theorem ints_open {fuel:Nat} {v:Value} {x:DataW H × List MemPlace} (h:DataW.trod enc Tryz.prog w 0 (fun _=>true) true fuel 22 [v]=some x)
  (hw:∀ m ∈ x.1.weights Tryz.prog 22,m≤reachBytes):∃ zs,IntsAt w.heap.size w v zs∧∀ z ∈ zs,(Lit.int .i64 z).wf=true:=by
 rcases open_ints Tryz.underlying22 Tryz.underlying3 (by kernel_rfl) h with ⟨hcs,-⟩ | ⟨a,l,c,zs,hcs,-,hl,-,hz,rfl,hcell,hwz⟩
 ·obtain rfl:v=.slice none 0 0:=by simpa using hcs
  exact ⟨[],⟨none,0,rfl,by simp,by simp,by simp⟩,by simp⟩
 ·obtain rfl:v=.slice (some a) l c:=by simpa using hcs
  simp only [if_true] at hz
  have hsz:=hw (((lits (H:=H) .i64 (zs.take l)).length+(lits (H:=H) .i64 (zs.drop l)).length) * Program.bytesOf Tryz.prog 3) (by simp [DataW.weights,Tryz.underlying22])
  have hb:Program.bytesOf Tryz.prog 3=8:=by kernel_rfl
  have hr:reachBytes=0x7ffffffff000:=rfl
  rw [hb,hr] at hsz
  simp only [lits,List.length_map,List.length_take,List.length_drop] at hsz
  have hlen:(zs.take l).length=l:=by simp;omega
  refine ⟨zs.take l,⟨some a,c,by rw [hlen],by rw [hlen];exact hl,by rw [hlen];omega,fun h0=>?_⟩,fun z hz'=>hwz z (List.mem_of_mem_take hz')⟩
  rw [hlen] at h0
  have hc0:=hcell 0 (by omega)
  obtain ⟨b,off,spot⟩:=a
  have hspot:spot=none:=by simpa [Addr.add] using World.cell?_spot hc0
  subst hspot
  refine ⟨b,off,rfl,by simpa [Addr.add] using cell_lt hc0,fun j z hj=>?_⟩
  have hj1:j<l:=by
   have:=(List.getElem?_eq_some_iff.1 hj).1
   rw [hlen] at this;exact this
  rw [List.getElem?_take,if_pos hj1] at hj
  have:=hcell j (by omega)
  rw [add_plain] at this
  simpa [List.getD,hj] using this

theorem ins_open {fuel:Nat} {cs:List Value} {x:DataW H × List MemPlace} (h:DataW.trod enc Tryz.prog w 0 (fun _=>true) true fuel 67 cs=some x)
  (hw:∀ m ∈ x.1.weights Tryz.prog 67,m≤reachBytes) :
  ∃ (X:Ins) (va vt:Value),cs=[.int .i64 X.op,.int .i64 X.width,.int .i64 X.flags,va,.int .u32 X.imm,vt]∧IntsAt w.heap.size w va X.args∧IntsAt w.heap.size w vt X.to∧Sane X:=by
 have e3:Program.cellsOf Tryz.prog 3=1:=by kernel_rfl
 have e22:Program.cellsOf Tryz.prog 22=1:=by kernel_rfl
 have e49:Program.cellsOf Tryz.prog 35=1:=by kernel_rfl
 have e51:Program.cellsOf Tryz.prog 67=6:=by kernel_rfl
 obtain ⟨xs,n,rfl,rfl,hl,hlen,hf⟩:=DataW.trod_struct Tryz.underlying67 h
 rw [e51] at hl
 match xs,hlen with
 | [y0,y1,y2,y3,y4,y5],_ =>
  match cs,hl with
  | [c0,c1,c2,c3,c4,c5],_ =>
   have h0:=hf 0 _ rfl
   have h1:=hf 1 _ rfl
   have h2:=hf 2 _ rfl
   have h3:=hf 3 _ rfl
   have h4:=hf 4 _ rfl
   have h5:=hf 5 _ rfl
   simp [e3,e22,e49] at h0 h1 h2 h3 h4 h5
   obtain ⟨n0,g0,-,w0⟩:=DataW.trod_int Tryz.underlying3 h0
   obtain ⟨n1,g1,-,w1⟩:=DataW.trod_int Tryz.underlying3 h1
   obtain ⟨n2,g2,-,w2⟩:=DataW.trod_int Tryz.underlying3 h2
   obtain ⟨n4,g4,-,w4⟩:=DataW.trod_int Tryz.underlying35 h4
   obtain ⟨zs,ha,hwa⟩:=ints_open h3 (fun m hm=>hw m (by simp [DataW.weights,Tryz.underlying67,DataW.weightsEach,hm]))
   obtain ⟨ts,ht,-⟩:=ints_open h5 (fun m hm=>hw m (by simp [DataW.weights,Tryz.underlying67,DataW.weightsEach,hm]))
   obtain rfl:c0=.int .i64 n0:=by simpa using g0
   obtain rfl:c1=.int .i64 n1:=by simpa using g1
   obtain rfl:c2=.int .i64 n2:=by simpa using g2
   obtain rfl:c4=.int .u32 n4:=by simpa using g4
   refine ⟨⟨n0,n1,n2,zs,n4,ts⟩,c3,c5,rfl,ha,ht,?_,fun z hz=>bounds_i64 (hwa z hz),bounds_i64 w2⟩
   have w4':=bounds_u32 w4
   show (0:Int)≤n4∧n4<4294967296
   omega

theorem blk_open {fuel:Nat} {v:Value} {x:DataW H × List MemPlace} (h:DataW.trod enc Tryz.prog w 0 (fun _=>true) true fuel 68 [v]=some x)
  (hw:∀ m ∈ x.1.weights Tryz.prog 68,m≤reachBytes):∃ l,BlkAt w.heap.size w v l∧∀ z ∈ l,Sane z:=by
 have e51:Program.cellsOf Tryz.prog 67=6:=by kernel_rfl
 have hb:Program.bytesOf Tryz.prog 67=80:=by kernel_rfl
 have hr:reachBytes=0x7ffffffff000:=rfl
 rcases open_slice Tryz.underlying68 h with ⟨hcs,-⟩ | ⟨a,l,c,m,n,D,Pl,hcs,-,hl,-,hm,rfl,hx⟩
 ·obtain rfl:v=.slice none 0 0:=by simpa using hcs
  exact ⟨[],⟨none,0,rfl,by simp,by simp,by simp⟩,by simp⟩
 ·obtain rfl:v=.slice (some a) l c:=by simpa using hcs
  simp only [if_true] at hm
  subst hm
  have hsz:=hw _ (by simp only [DataW.weights,Tryz.underlying68];exact List.mem_cons_self)
  simp only [List.length_map,List.length_range] at hsz
  rw [hb,hr] at hsz
  rw [e51] at hx
  obtain ⟨X,hX⟩:=choose_lt (α:=Ins) (n:=l) (p:=fun i X=>(∃ va vt,w.cells? 0 (a.add (i * 6)) 6=some [.int .i64 X.op,.int .i64 X.width,.int .i64 X.flags,va,.int .u32 X.imm,vt]∧IntsAt w.heap.size w va X.args∧IntsAt w.heap.size w vt X.to)∧Sane X) (fun i hi=>by
    obtain ⟨cs',h1,h2⟩:=hx i (by omega)
    obtain ⟨X,va,vt,rfl,ha,ht,hs⟩:=ins_open h2 (fun k hk=>hw k (by
      simp only [DataW.weights,Tryz.underlying68]
      refine List.mem_cons_of_mem _ (List.mem_append.2 (Or.inl (weightsAll_mem (d:=D i) (List.mem_map.2 ⟨i,List.mem_range.2 hi,rfl⟩) hk)))))
    exact ⟨X,⟨va,vt,h1,ha,ht⟩,hs⟩)
  have hlen:((List.range l).map X).length=l:=by simp
  refine ⟨(List.range l).map X,⟨some a,m,by rw [hlen],by rw [hlen];exact hl,by rw [hlen];omega,fun h0=>?_⟩,fun z hz'=>?_⟩
  ·rw [hlen] at h0
   obtain ⟨⟨va,vt,hc,-,-⟩,-⟩:=hX 0 h0
   have hc0:=(World.cells?_some hc).2.2 0 (by omega)
   obtain ⟨b,off,spot⟩:=a
   have hspot:spot=none:=by simpa [Addr.add] using World.cell?_spot hc0
   subst hspot
   refine ⟨b,off,rfl,by simpa [Addr.add] using cell_lt hc0,fun j z hj=>?_⟩
   have hj1:j<l:=by
    have:=(List.getElem?_eq_some_iff.1 hj).1
    rw [hlen] at this;exact this
   obtain rfl:X j=z:=by simpa [hj1] using hj
   obtain ⟨⟨va,vt,hc,ha,ht⟩,-⟩:=hX j hj1
   have q:=(World.cells?_some hc).2.2
   simp only [add_plain] at q
   exact ⟨va,vt,q 0 (by omega),q 1 (by omega),q 2 (by omega),q 3 (by omega),q 4 (by omega),q 5 (by omega),ha,ht⟩
  ·obtain ⟨i,hi,rfl⟩:=List.mem_map.1 hz'
   exact (hX i (List.mem_range.1 hi)).2

theorem blks_open {fuel:Nat} {v:Value} {x:DataW H × List MemPlace} (h:DataW.trod enc Tryz.prog w 0 (fun _=>true) true fuel 23 [v]=some x)
  (hw:∀ m ∈ x.1.weights Tryz.prog 23,m≤reachBytes):∃ bs,BlksAt w.heap.size w v bs∧∀ l ∈ bs,∀ z ∈ l,Sane z:=by
 have e48:Program.cellsOf Tryz.prog 68=1:=by kernel_rfl
 have hb:Program.bytesOf Tryz.prog 68=24:=by kernel_rfl
 have hr:reachBytes=0x7ffffffff000:=rfl
 rcases open_slice1 Tryz.underlying23 e48 h with ⟨hcs,-⟩ | ⟨a,l,c,m,n,V,D,Pl,hcs,-,hl,-,hm,rfl,hx⟩
 ·obtain rfl:v=.slice none 0 0:=by simpa using hcs
  exact ⟨[],⟨none,0,rfl,by simp,by simp,by simp⟩,by simp⟩
 ·obtain rfl:v=.slice (some a) l c:=by simpa using hcs
  simp only [if_true] at hm
  subst hm
  have hsz:=hw _ (by simp only [DataW.weights,Tryz.underlying23];exact List.mem_cons_self)
  simp only [List.length_map,List.length_range] at hsz
  rw [hb,hr] at hsz
  obtain ⟨X,hX⟩:=choose_lt (α:=List Ins) (n:=l) (p:=fun i X=>BlkAt w.heap.size w (V i) X∧∀ z ∈ X,Sane z) (fun i hi=>by
    exact blk_open (hx i (by omega)).2 (fun k hk=>hw k (by
      simp only [DataW.weights,Tryz.underlying23]
      refine List.mem_cons_of_mem _ (List.mem_append.2 (Or.inl (weightsAll_mem (d:=D i) (List.mem_map.2 ⟨i,List.mem_range.2 hi,rfl⟩) hk))))))
  have hlen:((List.range l).map X).length=l:=by simp
  refine ⟨(List.range l).map X,⟨some a,m,by rw [hlen],by rw [hlen];exact hl,by rw [hlen];omega,fun h0=>?_⟩,fun z hz'=>?_⟩
  ·rw [hlen] at h0
   have hc0:=(hx 0 (by omega)).1
   obtain ⟨b,off,spot⟩:=a
   have hspot:spot=none:=by simpa [Addr.add] using World.cell?_spot hc0
   subst hspot
   refine ⟨b,off,rfl,by simpa [Addr.add] using cell_lt hc0,fun j z hj=>?_⟩
   have hj1:j<l:=by
    have:=(List.getElem?_eq_some_iff.1 hj).1
    rw [hlen] at this;exact this
   obtain rfl:X j=z:=by simpa [hj1] using hj
   have q:=(hx j (by omega)).1
   rw [add_plain] at q
   exact ⟨V j,q,(hX j hj1).1⟩
  ·obtain ⟨i,hi,rfl⟩:=List.mem_map.1 hz'
   exact (hX i (List.mem_range.1 hi)).2

/-- A DATUM OF TYPE api.Func, OPENED. -/
theorem fn_open {v:Value} {d:DataW H} {p:List MemPlace} (hv:Value.okWide Tryz.prog w .any 0 25 v) (h:DataW.Trod enc Tryz.prog w 0 (fun _=>true) true 25 v d p)
  (hw:∀ m ∈ d.weights Tryz.prog 25,m≤reachBytes):∃ f,FnAt w.heap.size w v f∧∀ l ∈ f.blocks,∀ z ∈ l,Sane z:=by
 obtain ⟨v0,v1,v2,v3,y0,y1,y2,y3,n,rfl,rfl,-,h0,h1,h2,h3⟩:=Go.Joins.open_agg4 Tryz.underlying25 (by kernel_rfl) (by kernel_rfl) hv h
 obtain ⟨z0,f0,-⟩:=ints_open h0 (fun m hm=>hw m (by simp [DataW.weights,Tryz.underlying25,DataW.weightsEach,hm]))
 obtain ⟨n1,g1,-,-⟩:=DataW.trod_int Tryz.underlying3 h1
 obtain ⟨z2,f2,-⟩:=ints_open h2 (fun m hm=>hw m (by simp [DataW.weights,Tryz.underlying25,DataW.weightsEach,hm]))
 obtain ⟨bs,f3,hs⟩:=blks_open h3 (fun m hm=>hw m (by simp [DataW.weights,Tryz.underlying25,DataW.weightsEach,hm]))
 obtain rfl:v1=.int .i64 n1:=by simpa using g1
 exact ⟨⟨z0,n1,z2,bs⟩,⟨v0,v2,v3,rfl,f0,f2,f3⟩,hs⟩

theorem nice_of {f:Fn} (hs:∀ l ∈ f.blocks,∀ z ∈ l,Sane z) (hl:longFn f=false):Nice f:=by
 unfold longFn at hl
 simp only [Bool.or_eq_false_iff,decide_eq_false_iff_not,List.any_eq_false] at hl
 obtain ⟨⟨⟨a1,a2⟩,a3⟩,a4⟩:=hl
 have hb:∀ l ∈ f.blocks,l.length≤100∧∀ x ∈ l,x.args.length≤100∧x.to.length≤100:=by
  intro l hl
  have:=a4 l hl
  unfold longBlk at this
  simp only [Bool.not_eq_true,Bool.or_eq_false_iff,decide_eq_false_iff_not,List.any_eq_false,longIns] at this
  refine ⟨by omega,fun x hx=>?_⟩
  have h2:=this.2 x hx
  omega
 exact ⟨by omega,fun l hl=>by have:=(hb l hl).1;omega,fun l hl x hx=>⟨(hs l hl x hx).1,(hs l hl x hx).2.1,by have:=((hb l hl).2 x hx).1;omega,by have:=((hb l hl).2 x hx).2;omega⟩,
   fun l hl x hx=>(hs l hl x hx).2.2⟩
end
end Go.Proofs.YthfhamagopbgcaaGreat

namespace Go.Proofs.YthfhamagopbgcaaGreat
open Go.ChangeShapes Go.WideShapes Go.ChangeAt Go.RowKit
set_option linter.unusedVariables false

theorem own:ownKnob Tryz.prog.godebug=none:=by kernel_rfl
theorem laidOut:laidOutB Tryz.prog=true:=by kernel_rfl

end Go.Proofs.YthfhamagopbgcaaGreat
namespace Go.Proofs.YthfhamagopbgcaaGreat
set_option linter.unusedSimpArgs false
set_option linter.unusedVariables false
open Go.RowKit

theorem bmask_any (n:Int) (w:World) (hn:Wd.Wid n):Calls Tryz.prog 71 #[.int .i64 n] w fun e w'=>e=.returned (.int .u32 (Wd.sz n-1))∧w=w':=by
 obtain ⟨n1,n2⟩:=hn
 obtain ⟨m,rfl⟩:=Int.eq_ofNat_of_zero_le (show 0≤n by omega)
 exact mask_any m w (by omega) (by omega)
set_option maxRecDepth 100000 in
set_option maxHeartbeats 4000000 in
theorem bsigned_any (n x:Int) (w:World) (hn:Wd.Wid n) (hx:Wd.Word n x):Calls Tryz.prog 209 #[.int .i64 n,.int .u32 x] w fun e w'=>e=.returned (.int .i64 (Wd.sg n x))∧w=w':=by
 obtain ⟨n1,n2⟩:=id hn
 obtain ⟨x1,x2⟩:=word_32 hn hx
 have hx2:=hx.2
 have HS:Wd.sz (n-1)≤x→Wd.sg n x=x-Wd.sz n:=fun h=>if_pos h
 have HT:x<Wd.sz (n-1)→Wd.sg n x=x:=fun h=>if_neg (by omega)
 clear hn hx
 rcases (by omega:n=1∨n=2∨n=3∨n=4∨n=5∨n=6∨n=7∨n=8∨n=9∨n=10∨n=11∨n=12∨n=13∨n=14∨n=15∨n=16∨n=17∨n=18∨n=19∨n=20∨n=21∨n=22∨n=23∨n=24∨n=25∨n=26∨n=27∨n=28∨n=29∨n=30∨n=31∨n=32) with rfl | rfl | rfl | rfl | rfl | rfl | rfl | rfl | rfl | rfl | rfl | rfl | rfl | rfl | rfl | rfl | rfl | rfl | rfl | rfl | rfl | rfl | rfl | rfl | rfl | rfl | rfl | rfl | rfl | rfl | rfl | rfl
 all_goals
  simp [Wd.sz] at HS HT hx2
  have HSS:=Lib.hid HS
  have HTT:=Lib.hid HT
  clear HS HT n1 n2
  go_enter Tryz.func209, Tryz.ntmps209
  go_wp2_with (fail)
  all_goals
   go_ret
   rename_i h
   simp at h
   refine ⟨ret_int ?_,rfl⟩
   have e:=HSS.out
   have e2:=HTT.out
   omega
end Go.Proofs.YthfhamagopbgcaaGreat
namespace Go.Proofs.YthfhamagopbgcaaGreat
set_option linter.unusedSimpArgs false
set_option linter.unusedVariables false
open Go.RowKit

/-- v reads as the words zs. -/
def U32At (B:Nat) (w:World) (v:Value) (zs:List Int):Prop :=
 SlAt B v zs.length fun b off=>∀ j z,zs[j]?=some z→w.cell? ⟨b,off+j,none⟩=some (.int .u32 z)
theorem widB_ref (n:Int):Wd.widB n=Ref.isWidth n:=rfl
def fitsB (n:Int) (zs:List Int):Bool:=Wd.widB n && zs.all fun z=>decide (z<Wd.sz n)
set_option maxRecDepth 100000 in
theorem bfits_any (B:Nat) (n:Int) (v:Value) (zs:List Int) (w:World) (hv:U32At B w v zs):Calls Tryz.prog 211 #[.int .i64 n,v] w fun e w'=>e=.returned (.bool (fitsB n zs))∧w=w':=by
 have C1:=Lib.hid fun w1=>bisWidth_any n w1
 obtain ⟨A,c,rfl,h1,h2,h3⟩:=hv
 by_cases hn:Wd.Wid n
 ·have hw:Ref.isWidth n=true:=by rw [← widB_ref];exact widB_true hn
  rw [hw] at C1
  have CM:=Lib.hid fun w1=>bmask_any n w1 hn
  have HF:Hid (fitsB n zs=zs.all fun z=>decide (z<Wd.sz n)):=by show _=_;unfold fitsB;rw [widB_ref,hw];rfl
  have s1:=Wd.sz_pos n
  have s2:=Wd.sz_32 hn
  obtain ⟨s,hs⟩:∃ s,Wd.sz n=s:=⟨_,rfl⟩
  rw [hs] at CM HF s1 s2
  clear hn hw hs
  go_enter Tryz.func211, Tryz.ntmps211
  go_wp2_with (go_at_call 70;(with_reducible refine (C1.out _).mono ?_);rintro e w1 ⟨rfl,rfl⟩)
  go_loop [6,12] (fun _ i=>∃ k:Nat,k≤zs.length∧i=.int .i64 k∧Hid ((zs.all fun z=>decide (z<s))=((zs.drop k).all fun z=>decide (z<s)))) (fun _ i=>zs.length-(intOf i).toNat)
  case atStart=>exact ⟨0,Nat.zero_le _,rfl,rfl⟩
  case round =>
   obtain ⟨k,hk,rfl,hrest⟩:=hrel
   rcases hr:zs.drop k with _ | ⟨z,r⟩
   ·have hkn:=drop_nil hr hk
    have HE:Hid (fitsB n zs=true):=by show _=_;rw [HF.out,hrest.out,hr];rfl
    subst hkn
    clear hr hrest
    go_wp2
    go_ret
    exact ⟨ret_bool HE.out.symm,rfl⟩
   ·obtain ⟨hlt,hx,hr'⟩:=drop_cons hr
    obtain ⟨b,o,rfl,hb,hc⟩:=h3 (by omega)
    have hx':=hc k z hx
    have HR:Hid ((zs.all fun z=>decide (z<s))=(decide (z<s) && r.all fun z=>decide (z<s))):=by show _=_;rw [hrest.out,hr];rfl
    have HR':Hid (zs.drop (k+1)=r):=hr'
    clear hr hx hr' hrest hc h3
    by_cases hz:z<s
    ·have HZ:=Lib.hid hz
     have hz2:z≤s-1:=by omega
     clear hz
     go_wp2_with (go_at_call 71;(with_reducible refine (CM.out _).mono ?_);rintro e w1 ⟨rfl,rfl⟩)
     go_round
     case rel=>exact ⟨k+1,by omega,by go_num,by (show _=_;rw [HR.out,HR'.out];simp [HZ.out])⟩
     case measure=>simp [intOf];omega
    ·have HZ:=Lib.hid hz
     have hz2:s-1<z:=by omega
     have HE:Hid (fitsB n zs=false):=by show _=_;rw [HF.out,HR.out];simp [hz]
     clear hz
     go_wp2_with (go_at_call 71;(with_reducible refine (CM.out _).mono ?_);rintro e w1 ⟨rfl,rfl⟩)
     go_ret
     exact ⟨ret_bool HE.out.symm,rfl⟩
 ·have hw:Ref.isWidth n=false:=by
   cases h:Wd.widB n with
   | false=>exact h
   | true=>exact absurd (widB_wid h) hn
  rw [hw] at C1
  have HF:Hid (fitsB n zs=false):=by show _=_;unfold fitsB;rw [widB_ref,hw];rfl
  clear hn hw
  go_enter Tryz.func211, Tryz.ntmps211
  go_wp2_with (go_at_call 70;(with_reducible refine (C1.out _).mono ?_);rintro e w1 ⟨rfl,rfl⟩)
  go_ret
  exact ⟨ret_bool HF.out.symm,rfl⟩
end Go.Proofs.YthfhamagopbgcaaGreat
