/- Parts: Wi La. -/
import Derived.Test.YthfhamagopbgcaaGreatG43
import Derived.Test.YthfhamagopbgcaaGreatG17
import Derived.Test.YthfhamagopbgcaaGreatG23
namespace Go.Proofs.YthfhamagopbgcaaGreat
set_option linter.unusedSimpArgs false
set_option linter.unusedVariables false
open Go.RowKit

theorem u32_below {B:Nat} {w w':World} {v:Value} {zs:List Int} (h:U32At B w v zs) (hb:Below B w w'):U32At B w' v zs :=
 SlAt.imp h fun b off hlt hR j z hz=>(hb.cell (p:=⟨b,off+j,none⟩) hlt).trans (hR j z hz)
/-- v is a slice of n elements. -/
def SlLen (v:Value) (n:Nat):Prop:=∃ A c,v=.slice A n c∧n≤c∧n≤9223372036854775807
/-- The numbers of an argument of type []uint32: they are read where there are not too many. -/
structure ArgsAt (w:World) (v:Value) (zs:List Int):Prop where
 len:SlLen v zs.length
 at_:zs.length≤1000→U32At w.heap.size w v zs
 words:∀ z ∈ zs,0≤z∧z<4294967296
def wideI (i:Rn.Inp):Bool:=decide (20<i.args.length) || decide (20<i.mem.length) || i.mem.any fun l=>decide (50<l.length)
set_option maxRecDepth 100000 in
set_option maxHeartbeats 4000000 in
theorem wide_any {w:World} {i:Rn.Inp} {va vm:Value} (ha:SlLen va i.args.length) (hm:TabAt w.heap.size w vm i.mem) :
  Calls Tryz.prog 37 #[.agg #[va,vm]] w fun e w'=>e=.returned (.bool (wideI i))∧Gr w w':=by
 obtain ⟨Aa,ca,rfl,a1,a2⟩:=ha
 obtain ⟨Am,cm,rfl,m1,m2,m3⟩:=hm
 obtain ⟨W,hW⟩:∃ W,w.alloc (.cells #[.slice Aa i.args.length ca,.slice Am i.mem.length cm] 29)=W:=⟨_,rfl⟩
 have g0:Gr w W:=by rw [← hW];exact (Gr.refl w).alloc _
 have hib:W.heap[w.heap.size]?=some (.cells #[.slice Aa i.args.length ca,.slice Am i.mem.length cm] 29 (0,0)):=by rw [← hW];exact heap_alloc_new _ _
 have k0:W.cell? ⟨w.heap.size,0,none⟩=some (.slice Aa i.args.length ca):=cell_of_row _ _ 0 _ _ _ hib
 have k1:W.cell? ⟨w.heap.size,1,none⟩=some (.slice Am i.mem.length cm):=cell_of_row _ _ 1 _ _ _ hib
 have HML:Hid (∀ j l,i.mem[j]?=some l→∃ b o Al cl,Am=some ⟨b,o,none⟩∧W.cell? ⟨b,o+j,none⟩=some (.slice Al l.length cl)):=fun j l hl=>by
  obtain ⟨b,o,e,hb,h4⟩:=m3 (by have:=(List.getElem?_eq_some_iff.1 hl).1;omega)
  obtain ⟨u,hu,Al,cl,rfl,-⟩:=h4 j l hl
  exact ⟨b,o,Al,cl,e,(g0.cell _ _ hb).trans hu⟩
 have HG:=Lib.hid g0
 obtain ⟨R,hR⟩:∃ R,wideI i=R:=⟨_,rfl⟩
 have HR:=Lib.hid hR
 rw [hR]
 clear g0 hib m3 hR
 by_cases ha20:20<i.args.length
 ·have HE:Hid (R=true):=by show _=_;rw [← HR.out];simp [wideI,ha20]
  have h1:(20:Int)<(i.args.length:Int):=by omega
  go_enter Tryz.func37, Tryz.ntmps37
  go_wp2
  go_ret
  exact ⟨ret_bool HE.out.symm,HG.out⟩
 ·have h1:¬ (20:Int)<(i.args.length:Int):=by omega
  by_cases hm20:20<i.mem.length
  ·have HE:Hid (R=true):=by show _=_;rw [← HR.out];simp [wideI,hm20]
   have h2:(20:Int)<(i.mem.length:Int):=by omega
   go_enter Tryz.func37, Tryz.ntmps37
   go_wp2
   go_ret
   exact ⟨ret_bool HE.out.symm,HG.out⟩
  ·have h2:¬ (20:Int)<(i.mem.length:Int):=by omega
   have HR2:Hid ((i.mem.any fun l=>decide (50<l.length))=R):=by show _=_;rw [← HR.out];simp [wideI,ha20,hm20]
   go_enter Tryz.func37, Tryz.ntmps37
   go_wp2
   go_loop [3] (fun s3=>∃ k:Nat,k≤i.mem.length∧s3=.int .i64 (k:Int)∧Hid (∀ j l,j<k→i.mem[j]?=some l→l.length≤50)) (fun s3=>i.mem.length-(intOf s3).toNat)
   case atStart=>exact ⟨0,Nat.zero_le _,rfl,(fun j l h=>absurd h (Nat.not_lt_zero _))⟩
   case round =>
    obtain ⟨k,hk,rfl,hok⟩:=hrel
    by_cases hlt:k<i.mem.length
    ·obtain ⟨l,hl⟩:∃ l,i.mem[k]?=some l:=⟨_,List.getElem?_eq_getElem hlt⟩
     obtain ⟨b,o,Al,cl,rfl,cx⟩:=HML.out k l hl
     by_cases h50:50<l.length
     ·have HE:Hid (R=true):=by show _=_;rw [← HR2.out,List.any_eq_true];exact ⟨l,List.mem_of_getElem? hl,by simpa using h50⟩
      have h3:(50:Int)<(l.length:Int):=by omega
      clear hl
      go_wp2
      go_ret
      exact ⟨ret_bool HE.out.symm,HG.out⟩
     ·have h3:¬ (50:Int)<(l.length:Int):=by omega
      have HST:Hid (∀ j l,j<k+1→i.mem[j]?=some l→l.length≤50):=fun j l' hj h=>by
       rcases Nat.lt_or_ge j k with q | q
       ·exact hok.out j l' q h
       ·obtain rfl:j=k:=by omega
        rw [hl] at h
        injection h with h
        subst h
        omega
      clear hl
      go_wp2
      go_round
      case rel=>exact ⟨k+1,by omega,by go_num,HST⟩
      case measure=>simp [intOf];omega
    ·have HE:Hid (R=false):=by
      show _=_
      rw [← HR2.out,List.any_eq_false]
      intro l hl
      obtain ⟨j,hj⟩:=List.getElem?_of_mem hl
      have:=(List.getElem?_eq_some_iff.1 hj).1
      have:=hok.out j l (by omega) hj
      simpa using this
     go_wp2
     go_ret
     exact ⟨ret_bool HE.out.symm,HG.out⟩
set_option maxRecDepth 100000 in
set_option maxHeartbeats 4000000 in
/-- Long of chapter 05. -/
theorem long5_any {w:World} {f:Fn} {vf:Value} (hfn:FnAt w.heap.size w vf f) {i:Rn.Inp} {va vm:Value} (ha:SlLen va i.args.length) (hm:TabAt w.heap.size w vm i.mem) :
  Calls Tryz.prog 11 #[vf,.agg #[va,vm]] w fun e w'=>e=.returned (.bool (longFn f || wideI i))∧Gr w w':=by
 obtain ⟨vp,vs,vb,rfl,hp,hs,hb⟩:=hfn
 have HFN:Hid (FnAt w.heap.size w (.agg #[vp,.int .i64 f.ret,vs,vb]) f):=⟨vp,vs,vb,rfl,hp,hs,hb⟩
 have HA:=Lib.hid ha
 have HM:=Lib.hid hm
 obtain ⟨W,hW⟩:∃ W,(w.alloc (.cells #[vp,.int .i64 f.ret,vs,vb] 25)).alloc (.cells #[va,vm] 29)=W:=⟨_,rfl⟩
 have g0:Gr w W:=by rw [← hW];exact ((Gr.refl w).alloc _).alloc _
 have hs1:(w.alloc (.cells #[vp,.int .i64 f.ret,vs,vb] 25)).heap.size=w.heap.size+1:=by simp
 have hfb:W.heap[w.heap.size]?=some (.cells #[vp,.int .i64 f.ret,vs,vb] 25 (0,0)):=by
  rw [← hW]
  exact (((Gr.refl (w.alloc (.cells #[vp,.int .i64 f.ret,vs,vb] 25))).alloc _).heap _ (by simp)).trans (heap_alloc_new w _)
 have hib:W.heap[w.heap.size+1]?=some (.cells #[va,vm] 29 (0,0)):=by rw [← hW,← hs1];exact heap_alloc_new _ _
 have k0:W.cell? ⟨w.heap.size,0,none⟩=some vp:=cell_of_row _ _ 0 _ _ _ hfb
 have k1:W.cell? ⟨w.heap.size,1,none⟩=some (.int .i64 f.ret):=cell_of_row _ _ 1 _ _ _ hfb
 have k2:W.cell? ⟨w.heap.size,2,none⟩=some vs:=cell_of_row _ _ 2 _ _ _ hfb
 have k3:W.cell? ⟨w.heap.size,3,none⟩=some vb:=cell_of_row _ _ 3 _ _ _ hfb
 have HIB:Hid (∀ wr,Gr W wr→wr.cell? ⟨w.heap.size+1,0,none⟩=some va∧wr.cell? ⟨w.heap.size+1,1,none⟩=some vm):=fun wr g=>by
  have r:=(g.heap _ (lt_of_heap hib)).trans hib
  exact ⟨cell_of_row _ _ 0 _ _ _ r,cell_of_row _ _ 1 _ _ _ r⟩
 have CL:=Lib.hid (Long_any _ f W ((HFN.out.below g0).mono g0.size))
 have HG:=Lib.hid g0
 obtain ⟨Ap,cp,rfl,-⟩:=id hp
 obtain ⟨As,cs,rfl,-⟩:=id hs
 obtain ⟨Ab,cb,rfl,-⟩:=id hb
 obtain ⟨Aa,ca,rfl,-⟩:=id ha
 obtain ⟨Am,cm,rfl,-⟩:=id hm
 clear hp hs hb ha hm g0 hfb hib hs1
 cases hl:longFn f
 all_goals rw [hl] at CL
 ·go_enter Tryz.func11, Tryz.ntmps11
  go_wp2_with (first
    | (go_at_call 36;(with_reducible refine CL.out.mono ?_);rintro e w1 ⟨rfl,g1⟩;obtain ⟨j0,j1⟩:=HIB.out w1 g1;have HG1:Hid (Gr W w1):=g1;have CW:=Lib.hid (wide_any (w:=w1) (i:=i) HA.out ((HM.out.below (HG.out.trans HG1.out)).mono (HG.out.trans HG1.out).size));clear g1)
    | (go_at_call 37;(with_reducible refine CW.out.mono ?_);rintro e w2 ⟨rfl,g2⟩;have HG2:=Lib.hid g2;clear g2))
  go_ret
  exact ⟨ret_bool (by simp),HG.out.trans (HG1.out.trans HG2.out)⟩
 ·go_enter Tryz.func11, Tryz.ntmps11
  go_wp2_with (go_at_call 36;(with_reducible refine CL.out.mono ?_);rintro e w1 ⟨rfl,g1⟩;have HG1:Hid (Gr W w1):=g1;clear g1)
  go_ret
  exact ⟨ret_bool (by simp),HG.out.trans HG1.out⟩
end Go.Proofs.YthfhamagopbgcaaGreat
namespace Go.Proofs.YthfhamagopbgcaaGreat
open Go.RowKit Go.Deep Go.ChangeShapes Go.WideShapes
set_option linter.unusedSimpArgs false
set_option linter.unusedVariables false

section
set_option maxRecDepth 100000
variable {H:Type} {enc:TypeId × Value→H} {w:World}

theorem u32s_open {fuel:Nat} {v:Value} {x:DataW H × List MemPlace} (h:DataW.trod enc Tryz.prog w 0 (fun _=>true) true fuel 26 [v]=some x):∃ zs,ArgsAt w v zs:=by
 rcases open_ints Tryz.underlying26 Tryz.underlying35 (by kernel_rfl) h with ⟨hcs,-⟩ | ⟨a,l,c,zs,hcs,-,hl,hlm,hz,rfl,hcell,hwz⟩
 ·obtain rfl:v=.slice none 0 0:=by simpa using hcs
  exact ⟨[],⟨none,0,rfl,by simp,by simp⟩,fun _=>⟨none,0,rfl,by simp,by simp,by simp⟩,by simp⟩
 ·obtain rfl:v=.slice (some a) l c:=by simpa using hcs
  simp only [if_true] at hz
  have hlen:(zs.take l).length=l:=by simp;omega
  have hm:c≤9223372036854775807:=hlm
  refine ⟨zs.take l,⟨some a,c,by rw [hlen],by rw [hlen];exact hl,by rw [hlen];omega⟩,fun hsm=>⟨some a,c,by rw [hlen],by rw [hlen];exact hl,by omega,fun h0=>?_⟩,fun z hz'=>by have:=bounds_u32 (hwz z (List.mem_of_mem_take hz'));omega⟩
  rw [hlen] at h0
  have hc0:=hcell 0 (by omega)
  obtain ⟨b,off,spot⟩:=a
  have hspot:spot=none:=by simpa [Addr.add] using World.cell?_spot hc0
  subst hspot
  refine ⟨b,off,rfl,by simpa [Addr.add] using cell_lt hc0,fun j z hj=>?_⟩
  have hj1:j<l:=by
   have:=(List.getElem?_eq_some_iff.1 hj).1
   rw [hlen] at this;exact this
  rw [List.getElem?_take,if_pos hj1] at hj
  have:=hcell j (by omega)
  rw [add_plain] at this
  simpa [List.getD,hj] using this

theorem tab_open {fuel:Nat} {v:Value} {x:DataW H × List MemPlace} (h:DataW.trod enc Tryz.prog w 0 (fun _=>true) true fuel 27 [v]=some x)
  (hw:∀ m ∈ x.1.weights Tryz.prog 27,m≤reachBytes):∃ t,TabAt w.heap.size w v t:=by
 have e22:Program.cellsOf Tryz.prog 22=1:=by kernel_rfl
 have hb:Program.bytesOf Tryz.prog 22=24:=by kernel_rfl
 have hr:reachBytes=0x7ffffffff000:=rfl
 rcases open_slice1 Tryz.underlying27 e22 h with ⟨hcs,-⟩ | ⟨a,l,c,m,n,V,D,Pl,hcs,-,hl,-,hm,rfl,hx⟩
 ·obtain rfl:v=.slice none 0 0:=by simpa using hcs
  exact ⟨[],⟨none,0,rfl,by simp,by simp,by simp⟩⟩
 ·obtain rfl:v=.slice (some a) l c:=by simpa using hcs
  simp only [if_true] at hm
  subst hm
  have hsz:=hw _ (by simp only [DataW.weights,Tryz.underlying27];exact List.mem_cons_self)
  simp only [List.length_map,List.length_range] at hsz
  rw [hb,hr] at hsz
  obtain ⟨X,hX⟩:=choose_lt (α:=List Int) (n:=l) (p:=fun i X=>IntsAt w.heap.size w (V i) X) (fun i hi=>by
    obtain ⟨zs,hzs,-⟩:=ints_open (hx i (by omega)).2 (fun k hk=>hw k (by
      simp only [DataW.weights,Tryz.underlying27]
      refine List.mem_cons_of_mem _ (List.mem_append.2 (Or.inl (weightsAll_mem (d:=D i) (List.mem_map.2 ⟨i,List.mem_range.2 hi,rfl⟩) hk)))))
    exact ⟨zs,hzs⟩)
  have hlen:((List.range l).map X).length=l:=by simp
  refine ⟨(List.range l).map X,⟨some a,m,by rw [hlen],by rw [hlen];exact hl,by rw [hlen];omega,fun h0=>?_⟩⟩
  rw [hlen] at h0
  have hc0:=(hx 0 (by omega)).1
  obtain ⟨b,off,spot⟩:=a
  have hspot:spot=none:=by simpa [Addr.add] using World.cell?_spot hc0
  subst hspot
  refine ⟨b,off,rfl,by simpa [Addr.add] using cell_lt hc0,fun j z hj=>?_⟩
  have hj1:j<l:=by
   have:=(List.getElem?_eq_some_iff.1 hj).1
   rw [hlen] at this;exact this
  obtain rfl:X j=z:=by simpa [hj1] using hj
  have q:=(hx j (by omega)).1
  rw [add_plain] at q
  exact ⟨V j,q,hX j hj1⟩

/-- A DATUM OF TYPE api.Input, OPENED. -/
theorem inp_open {v:Value} {d:DataW H} {p:List MemPlace} (hv:Value.okWide Tryz.prog w .any 0 29 v) (h:DataW.Trod enc Tryz.prog w 0 (fun _=>true) true 29 v d p)
  (hw:∀ m ∈ d.weights Tryz.prog 29,m≤reachBytes):∃ (i:Rn.Inp) (va vm:Value),v=.agg #[va,vm]∧ArgsAt w va i.args∧TabAt w.heap.size w vm i.mem:=by
 obtain ⟨v0,v1,y0,y1,n,rfl,rfl,-,h0,h1⟩:=Go.Joins.open_agg2 Tryz.underlying29 (by kernel_rfl) (by kernel_rfl) hv h
 obtain ⟨zs,ha⟩:=u32s_open h0
 obtain ⟨t,ht⟩:=tab_open h1 (fun m hm=>hw m (by simp [DataW.weights,Tryz.underlying29,DataW.weightsEach,hm]))
 exact ⟨⟨zs,t⟩,v0,v1,rfl,ha,ht⟩
/-- The numbers of instructions are words. -/
theorem im_of {f:Fn} (hs:∀ l ∈ f.blocks,∀ z ∈ l,Sane z):Rn.Im f:=fun l hl x hx=>(hs l hl x hx).1
end
end Go.Proofs.YthfhamagopbgcaaGreat
