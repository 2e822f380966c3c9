/- The document: which inputs are right. -/
import Derived.Test.YthfhamagopbgcaaGreatG46
import Derived.Test.YthfhamagopbgcaaGreatG22
namespace Go.Proofs.YthfhamagopbgcaaGreat
set_option linter.unusedSimpArgs false
set_option linter.unusedVariables false
open Go.RowKit

theorem Rn.widB_of {n:Int} (h:Wd.Wid n):Wd.widB n=true:=by
 unfold Wd.widB
 have h1:=h.1
 have h2:=h.2
 simp [h1,h2]
set_option maxRecDepth 100000 in
set_option maxHeartbeats 4000000 in
theorem dvinput_any {w:World} {f:Fn} {vf:Value} (hfn:FnAt w.heap.size w vf f) (hnice:Nice f) {i:Rn.Inp} {va vm:Value} (ha:U32At w.heap.size w va i.args) (hm:TabAt w.heap.size w vm i.mem) (hnn:∀ a ∈ i.args,0≤a∧a<4294967296) :
  Calls Tryz.prog 14 #[vf,.agg #[va,vm]] w fun e w'=>e=.returned (.int .i64 (Rn.validInput f i))∧Gr w w':=by
 have HNN:=Lib.hid hnn
 clear hnn
 obtain ⟨vp,vs,vb,rfl,hp,hs,hb⟩:=hfn
 obtain ⟨W,hW⟩:∃ W,(w.alloc (.cells #[vp,.int .i64 f.ret,vs,vb] 25)).alloc (.cells #[va,vm] 29)=W:=⟨_,rfl⟩
 have g0:Gr w W:=by rw [← hW];exact ((Gr.refl w).alloc _).alloc _
 have hs1:(w.alloc (.cells #[vp,.int .i64 f.ret,vs,vb] 25)).heap.size=w.heap.size+1:=by simp
 have hfb:W.heap[w.heap.size]?=some (.cells #[vp,.int .i64 f.ret,vs,vb] 25 (0,0)):=by
  rw [← hW]
  exact (((Gr.refl (w.alloc (.cells #[vp,.int .i64 f.ret,vs,vb] 25))).alloc _).heap _ (by simp)).trans (heap_alloc_new w _)
 have hib:W.heap[w.heap.size+1]?=some (.cells #[va,vm] 29 (0,0)):=by rw [← hW,← hs1];exact heap_alloc_new _ _
 have CV:=Lib.hid (rval_nice (.agg #[vp,.int .i64 f.ret,vs,vb]) f W ⟨vp,vs,vb,rfl,(hp.below g0).mono g0.size,(hs.below g0).mono g0.size,(hb.below g0).mono g0.size⟩ hnice)
 have HF:Hid (∀ wr,Gr W wr→wr.heap[w.heap.size]?=some (.cells #[vp,.int .i64 f.ret,vs,vb] 25 (0,0))∧wr.heap[w.heap.size+1]?=some (.cells #[va,vm] 29 (0,0))):=fun wr g=>⟨(g.heap _ (lt_of_heap hfb)).trans hfb,(g.heap _ (lt_of_heap hib)).trans hib⟩
 obtain ⟨Ap,cp,rfl,p1,p2,p3⟩:=hp
 obtain ⟨As,cs,rfl,s1,s2,s3⟩:=hs
 obtain ⟨Ab,cb,rfl,-,-,-⟩:=id hb
 obtain ⟨Aa,ca,rfl,a1,a2,a3⟩:=ha
 obtain ⟨Am,cm,rfl,m1,m2,m3⟩:=hm
 have HPC:Hid (∀ wr,Gr W wr→∀ j z,f.params[j]?=some z→∃ b o,Ap=some ⟨b,o,none⟩∧wr.cell? ⟨b,o+j,none⟩=some (.int .i64 z)):=fun wr g j z hz=>by
  obtain ⟨b,o,e,hb,h4⟩:=p3 (by have:=(List.getElem?_eq_some_iff.1 hz).1;omega)
  exact ⟨b,o,e,((g0.trans g).cell _ _ (by omega)).trans (h4 j z hz)⟩
 have HSC:Hid (∀ wr,Gr W wr→∀ j z,f.slots[j]?=some z→∃ b o,As=some ⟨b,o,none⟩∧wr.cell? ⟨b,o+j,none⟩=some (.int .i64 z)):=fun wr g j z hz=>by
  obtain ⟨b,o,e,hb,h4⟩:=s3 (by have:=(List.getElem?_eq_some_iff.1 hz).1;omega)
  exact ⟨b,o,e,((g0.trans g).cell _ _ (by omega)).trans (h4 j z hz)⟩
 have HAC:Hid (∀ wr,Gr W wr→∀ j z,i.args[j]?=some z→∃ b o,Aa=some ⟨b,o,none⟩∧wr.cell? ⟨b,o+j,none⟩=some (.int .u32 z)):=fun wr g j z hz=>by
  obtain ⟨b,o,e,hb,h4⟩:=a3 (by have:=(List.getElem?_eq_some_iff.1 hz).1;omega)
  exact ⟨b,o,e,((g0.trans g).cell _ _ (by omega)).trans (h4 j z hz)⟩
 have HMC:Hid (∀ j l,i.mem[j]?=some l→∃ b o Al cl,Am=some ⟨b,o,none⟩∧l.length≤17592186044416∧∀ wq,Gr W wq→wq.cell? ⟨b,o+j,none⟩=some (.slice Al l.length cl)∧∀ t x,l[t]?=some x→∃ b' o',Al=some ⟨b',o',none⟩∧wq.cell? ⟨b',o'+t,none⟩=some (.int .i64 x)):=fun j l hl=>by
  obtain ⟨b,o,e,hb,h4⟩:=m3 (by have:=(List.getElem?_eq_some_iff.1 hl).1;omega)
  obtain ⟨u,hu,Al,cl,rfl,-,h6,h7⟩:=h4 j l hl
  refine ⟨b,o,Al,cl,e,h6,fun wq g=>⟨((g0.trans g).cell _ _ (by omega)).trans hu,fun t x hx=>?_⟩⟩
  obtain ⟨b',o',e',hb',h8⟩:=h7 (by have:=(List.getElem?_eq_some_iff.1 hx).1;omega)
  exact ⟨b',o',e',((g0.trans g).cell _ _ hb').trans (h8 t x hx)⟩
 have HG0:=Lib.hid g0
 obtain ⟨R,hR⟩:∃ R,Rn.validInput f i=R:=⟨_,rfl⟩
 rw [hR]
 unfold Rn.validInput at hR
 have HR:=Lib.hid hR
 obtain ⟨V,hV⟩:∃ V,Ref.validate f=V:=⟨_,rfl⟩
 rw [hV] at CV HR
 have HV:=Lib.hid hV
 have hc0:∀ wr,Gr W wr→wr.cell? ⟨w.heap.size,0,none⟩=some (.slice Ap f.params.length cp)∧wr.cell? ⟨w.heap.size,1,none⟩=some (.int .i64 f.ret)∧wr.cell? ⟨w.heap.size,2,none⟩=some (.slice As f.slots.length cs)∧wr.cell? ⟨w.heap.size,3,none⟩=some (.slice Ab f.blocks.length cb)∧wr.cell? ⟨w.heap.size+1,0,none⟩=some (.slice Aa i.args.length ca)∧wr.cell? ⟨w.heap.size+1,1,none⟩=some (.slice Am i.mem.length cm):=fun wr g=>by
  obtain ⟨q1,q2⟩:=HF.out wr g
  exact ⟨cell_of_row _ _ 0 _ _ _ q1,cell_of_row _ _ 1 _ _ _ q1,cell_of_row _ _ 2 _ _ _ q1,cell_of_row _ _ 3 _ _ _ q1,cell_of_row _ _ 0 _ _ _ q2,cell_of_row _ _ 1 _ _ _ q2⟩
 have HC:=Lib.hid hc0
 obtain ⟨k0,k1,k2,k3,k4,k5⟩:=hc0 W (Gr.refl _)
 clear g0 hfb hib p3 s3 a3 m3 hR hV hc0 hs1 hb
 by_cases hv0:V=0
 ·subst hv0
  have HW:Hid (∀ j z,f.params[j]?=some z→Wd.Wid z):=fun j z hz=>by
   have hv:Ref.Val f:=(Ref.val_iff f).1 HV.out
   exact Rn.wid_of (List.all_eq_true.1 hv.head.1 z (List.mem_of_getElem? hz))
  by_cases hla:i.args.length=f.params.length
  ·by_cases hlm:i.mem.length=f.slots.length
   ·have HR2:Hid ((if (f.params.zip i.args).any (fun q=>decide (Wd.sz q.1≤q.2))=true then 1 else if (f.slots.zip i.mem).any (fun q=>decide ((q.2.length:Int)≠q.1) || q.2.any (fun b=>decide (b < -1) || decide (255<b)))=true then 1 else 0)=R):=by
     have:=HR.out
     rw [if_neg (by decide),if_neg (by omega)] at this
     exact this
    obtain ⟨n,hn⟩:∃ n,f.params.length=n:=⟨_,rfl⟩
    obtain ⟨m,hm⟩:∃ m,f.slots.length=m:=⟨_,rfl⟩
    rw [hn] at hla p1 p2 k0
    rw [hm] at hlm s1 s2 k2
    rw [hla] at a1 a2 k4
    rw [hlm] at m1 m2 k5
    have HC2:Hid (∀ wr,Gr W wr→wr.cell? ⟨w.heap.size,0,none⟩=some (.slice Ap n cp)∧wr.cell? ⟨w.heap.size,2,none⟩=some (.slice As m cs)∧wr.cell? ⟨w.heap.size+1,0,none⟩=some (.slice Aa n ca)∧wr.cell? ⟨w.heap.size+1,1,none⟩=some (.slice Am m cm)):=fun wr g=>by
     obtain ⟨q0,q1,q2,q3,q4,q5⟩:=HC.out wr g
     rw [hn] at q0
     rw [hm] at q2
     rw [hla] at q4
     rw [hlm] at q5
     exact ⟨q0,q2,q4,q5⟩
    have HN1:=Lib.hid hn
    have HN2:=Lib.hid hm
    have HN3:=Lib.hid hla
    have HN4:=Lib.hid hlm
    rw [hn,hm,hla,hlm] at hW
    rw [hn,hm] at CV
    rw [hn,hm,hla,hlm]
    clear hla hlm hn hm
    go_enter Tryz.func14, Tryz.ntmps14
    go_wp2_with (go_at_call 42;(with_reducible refine CV.out.mono ?_);rintro e w1 ⟨rfl,g1⟩;obtain ⟨j0,j2,j4,j5⟩:=HC2.out w1 g1;have HG1:=Lib.hid g1)
    have HNB:Hid (∀ k z x,f.params[k]?=some z→i.args[k]?=some x→Wd.sz z≤x→R=1):=fun k z x h1 h2 h3=>by
     rw [← HR2.out,if_pos (Rn.zip_any_at h1 h2 (by simpa using h3))]
    as_aux_lemma =>
     go_loopw [6] (fun s6 wr=>∃ k:Nat,k≤n∧s6=.int .i64 (k:Int)∧Hid (Gr W wr)∧Hid (∀ j z x,j<k→f.params[j]?=some z→i.args[j]?=some x→x<Wd.sz z)) (fun s6 _=>n-(intOf s6).toNat)
     case atStart=>exact ⟨0,Nat.zero_le _,rfl,HG1,(fun j z x h=>absurd h (Nat.not_lt_zero _))⟩
     case round =>
      obtain ⟨k,hk,rfl,hg,hok⟩:=hrel
      obtain ⟨q0,q2,q4,q5⟩:=HC2.out wr hg.out
      have U0:=fun u:GrW wr=>(HC2.out u.val (hg.out.trans u.gr)).1
      have U4:=fun u:GrW wr=>(HC2.out u.val (hg.out.trans u.gr)).2.2.1
      by_cases hlt:k<n
      ·obtain ⟨z,hz⟩:∃ z,f.params[k]?=some z:=⟨_,List.getElem?_eq_getElem (by have:=HN1.out;omega)⟩
       obtain ⟨x,hx⟩:∃ x,i.args[k]?=some x:=⟨_,List.getElem?_eq_getElem (by have:=HN3.out;omega)⟩
       obtain ⟨bp,op,rfl,cz⟩:=HPC.out wr hg.out k z hz
       obtain ⟨ba,oa,rfl,cx⟩:=HAC.out wr hg.out k x hx
       have UZ:∀ u:GrW wr,u.val.cell? ⟨bp,op+k,none⟩=some (.int .i64 z):=fun u=>by
        obtain ⟨b',o',e',h'⟩:=HPC.out u.val (hg.out.trans u.gr) k z hz
        injection e' with e'
        injection e' with e1 e2
        subst e1;subst e2
        exact h'
       have UX:∀ u:GrW wr,u.val.cell? ⟨ba,oa+k,none⟩=some (.int .u32 x):=fun u=>by
        obtain ⟨b',o',e',h'⟩:=HAC.out u.val (hg.out.trans u.gr) k x hx
        injection e' with e'
        injection e' with e1 e2
        subst e1;subst e2
        exact h'
       have hxr:=HNN.out x (List.mem_of_getElem? hx)
       have CM:Hid (∀ u:GrW wr,Calls Tryz.prog 43 #[.int .i64 z,.int .u32 x] u.val fun e w'=>e=.returned (.bool (decide (x<Wd.sz z)))∧Gr u.val w'):=fun u=>(IsWord_any z x u.val hxr.1 hxr.2).mono fun e w' h=>⟨by rw [h.1,Wd.wordB,Rn.widB_of (HW.out k z hz),Bool.true_and],by rw [← h.2];exact Gr.refl _⟩
       have HNB2:=Lib.hid (HNB.out k z x hz hx)
       have HST:Hid (x<Wd.sz z→∀ j z x,j<k+1→f.params[j]?=some z→i.args[j]?=some x→x<Wd.sz z):=fun h j z' x' hj h1 h2=>by
        rcases Nat.lt_or_ge j k with q | q
        ·exact hok.out j z' x' q h1 h2
        ·obtain rfl:j=k:=by omega
         rw [hz] at h1
         rw [hx] at h2
         injection h1 with h1
         injection h2 with h2
         subst h1;subst h2
         exact h
       obtain ⟨s,hs⟩:∃ s,Wd.sz z=s:=⟨_,rfl⟩
       rw [hs] at CM HNB2 HST
       clear hz hx hs hxr cz cx
       obtain ⟨bd,hbd⟩:∃ bd,decide (x<s)=bd:=⟨_,rfl⟩
       rw [hbd] at CM
       have HBD:=Lib.hid hbd
       clear hbd
       cases bd
       all_goals
        go_wp2
        refine wp_region_quietGr (by kernel_rfl) (by kernel_rfl) ?_
        repeat (go_big_quiet_step ((rename_i u;go_at_call 43;exact grW_call u (CM.out u))))
        refine wpQuiet_nil ?_
        intro w9 hw9
        obtain ⟨u9,rfl⟩:=hw9
        have G9:=Lib.hid (hg.out.trans u9.gr)
        clear U0 U4 UZ UX
        go_wp2
       ·go_ret
        have h3:=HBD.out
        simp at h3
        exact ⟨ret_int (HNB2.out h3).symm,HG0.out.trans G9.out⟩
       ·have h3:=HBD.out
        simp at h3
        have HST2:=Lib.hid (HST.out h3)
        refine ⟨⟨k+1,by omega,by go_num,G9,HST2⟩,by simp [intOf];omega⟩
      ·obtain rfl:n=k:=by omega
       have HR3:Hid ((if (f.slots.zip i.mem).any (fun q=>decide ((q.2.length:Int)≠q.1) || q.2.any (fun b=>decide (b < -1) || decide (255<b)))=true then 1 else 0)=R):=by
        show _=_
        have h:=HR2.out
        rw [Rn.zip_any_none (fun j a b h1 h2=>by
          have hj:=(List.getElem?_eq_some_iff.1 h1).1
          have:=hok.out j a b (by have:=HN1.out;omega) h1 h2
          simpa using this)] at h
        simpa using h
       have HGA:=hg
       clear hok hlt hk U0 U4
       go_wp2
       as_aux_lemma =>
        go_loopw [7] (fun s7 wr=>∃ k:Nat,k≤m∧s7=.int .i64 (k:Int)∧Hid (Gr W wr)∧Hid (∀ j z l,j<k→f.slots[j]?=some z→i.mem[j]?=some l→(decide ((l.length:Int)≠z) || l.any (fun b=>decide (b < -1) || decide (255<b)))=false)) (fun s7 _=>m-(intOf s7).toNat)
        case atStart=>exact ⟨0,Nat.zero_le _,rfl,HGA,(fun j z x h=>absurd h (Nat.not_lt_zero _))⟩
        case round =>
         obtain ⟨k,hk,rfl,hg,hok⟩:=hrel
         obtain ⟨q0,q2,q4,q5⟩:=HC2.out wr hg.out
         have U2:=fun u:GrW wr=>(HC2.out u.val (hg.out.trans u.gr)).2.1
         have U5:=fun u:GrW wr=>(HC2.out u.val (hg.out.trans u.gr)).2.2.2
         by_cases hlt:k<m
         ·obtain ⟨z,hz⟩:∃ z,f.slots[k]?=some z:=⟨_,List.getElem?_eq_getElem (by have:=HN2.out;omega)⟩
          obtain ⟨l,hl⟩:∃ l,i.mem[k]?=some l:=⟨_,List.getElem?_eq_getElem (by have:=HN4.out;omega)⟩
          obtain ⟨bs,os,rfl,-⟩:=HSC.out wr hg.out k z hz
          obtain ⟨bm,om,Al,cl,rfl,hll,hlm⟩:=HMC.out k l hl
          have UZ:∀ u:GrW wr,u.val.cell? ⟨bs,os+k,none⟩=some (.int .i64 z):=fun u=>by
           obtain ⟨b',o',e',h'⟩:=HSC.out u.val (hg.out.trans u.gr) k z hz
           injection e' with e'
           injection e' with e1 e2
           subst e1;subst e2
           exact h'
          have HLM:=Lib.hid hlm
          have UL:=fun u:GrW wr=>(HLM.out u.val (hg.out.trans u.gr)).1
          have HBAD:Hid ((decide ((l.length:Int)≠z) || l.any (fun b=>decide (b < -1) || decide (255<b)))=true→R=1):=fun h=>by
           rw [← HR3.out,if_pos (Rn.zip_any_at hz hl h)]
          have HST:Hid ((decide ((l.length:Int)≠z) || l.any (fun b=>decide (b < -1) || decide (255<b)))=false→∀ j z l,j<k+1→f.slots[j]?=some z→i.mem[j]?=some l→(decide ((l.length:Int)≠z) || l.any (fun b=>decide (b < -1) || decide (255<b)))=false):=fun h j z' l' hj h1 h2=>by
           rcases Nat.lt_or_ge j k with q | q
           ·exact hok.out j z' l' q h1 h2
           ·obtain rfl:j=k:=by omega
            rw [hz] at h1
            rw [hl] at h2
            injection h1 with h1
            injection h2 with h2
            subst h1;subst h2
            exact h
          have HLL:=Lib.hid hll
          have HKM:Hid (k<m):=hlt
          clear hz hl hll hlm
          obtain ⟨bd,hbd⟩:∃ bd,((l.length:Int) != z)=bd:=⟨_,rfl⟩
          have HBD:=Lib.hid hbd
          cases bd
          all_goals
           go_wp2
           refine wp_region_quietGr (by kernel_rfl) (by kernel_rfl) ?_
           repeat (go_big_quiet_step (fail))
           refine wpQuiet_nil ?_
           intro w9 hw9
           obtain ⟨u9,rfl⟩:=hw9
           have G9:=Lib.hid (hg.out.trans u9.gr)
           clear U2 U5 UZ UL
          ·clear hbd
           go_wp2
           as_aux_lemma =>
            go_loopw [8] (fun s8 wq=>∃ t:Nat,t≤l.length∧s8=.int .i64 (t:Int)∧Hid (Gr W wq)∧Hid (∀ j x,j<t→l[j]?=some x→(decide (x < -1) || decide (255<x))=false)) (fun s8 _=>l.length-(intOf s8).toNat)
            case atStart=>exact ⟨0,Nat.zero_le _,rfl,G9,(fun j x h=>absurd h (Nat.not_lt_zero _))⟩
            case round =>
             obtain ⟨t,ht,rfl,hgq,hokq⟩:=hrel
             have hll2:=HLL.out
             obtain ⟨r0,r2,r4,r5⟩:=HC2.out wr hgq.out
             obtain ⟨cl0,hce⟩:=HLM.out wr hgq.out
             by_cases hlt2:t<l.length
             ·obtain ⟨x,hx⟩:∃ x,l[t]?=some x:=⟨_,List.getElem?_eq_getElem hlt2⟩
              obtain ⟨be,oe,rfl,ce⟩:=hce t x hx
              have HXB:Hid ((decide (x < -1) || decide (255<x))=true→R=1):=fun h=>HBAD.out (by
                rw [show l.any (fun b=>decide (b < -1) || decide (255<b))=true from List.any_eq_true.2 ⟨x,List.mem_of_getElem? hx,h⟩,Bool.or_true])
              have HXS:Hid ((decide (x < -1) || decide (255<x))=false→∀ j x,j<t+1→l[j]?=some x→(decide (x < -1) || decide (255<x))=false):=fun h j x' hj h1=>by
               rcases Nat.lt_or_ge j t with q | q
               ·exact hokq.out j x' q h1
               ·obtain rfl:j=t:=by omega
                rw [hx] at h1
                injection h1 with h1
                subst h1
                exact h
              have HT2:Hid (t<l.length):=hlt2
              clear hx hce
              by_cases hx1:x < -1
              ·have HE:Hid (R=1):=HXB.out (by simp [hx1])
               go_wp2
               go_ret
               exact ⟨ret_int HE.out.symm,HG0.out.trans hgq.out⟩
              ·by_cases hx2:255<x
               ·have HE:Hid (R=1):=HXB.out (by simp [hx2])
                go_wp2
                go_ret
                exact ⟨ret_int HE.out.symm,HG0.out.trans hgq.out⟩
               ·have HS2:=Lib.hid (HXS.out (by simp;omega))
                go_wp2
                have ht2:=HT2.out
                refine ⟨⟨t+1,by omega,by go_num,hgq,HS2⟩,by simp [intOf];omega⟩
             ·obtain rfl:t=l.length:=by omega
              have HST2:=Lib.hid (HST.out (by
                have h3:=HBD.out
                simp only [bne_eq_false_iff_eq] at h3
                rw [List.any_eq_false.2 (fun x hx=>by
                  obtain ⟨j,hj⟩:=List.getElem?_of_mem hx
                  have:=hokq.out j x (List.getElem?_eq_some_iff.1 hj).1 hj
                  rw [this];exact Bool.false_ne_true)]
                simp [h3]))
              clear hce
              go_wp2
              have hkm:=HKM.out
              refine ⟨⟨k+1,by omega,by go_num,hgq,HST2⟩,by simp [intOf];omega⟩
          ·go_wp2
           go_ret
           exact ⟨ret_int (HBAD.out (by have h3:=HBD.out;simp at h3;simp [h3])).symm,HG0.out.trans G9.out⟩
         ·obtain rfl:m=k:=by omega
          have HE:Hid (R=0):=by
           show _=_
           rw [← HR3.out,Rn.zip_any_none (fun j a b h1 h2=>by
             have hj:=(List.getElem?_eq_some_iff.1 h1).1
             exact hok.out j a b (by have:=HN2.out;omega) h1 h2)]
           rfl
          clear U2 U5
          go_wp2
          go_ret
          exact ⟨ret_int HE.out.symm,HG0.out.trans hg.out⟩
   ·have HE:Hid (R=1):=by show _=_;rw [← HR.out,if_neg (by decide),if_pos (.inr hlm)]
    have hlm':¬ ((i.mem.length:Int)=(f.slots.length:Int)):=by omega
    have hla':(i.args.length:Int)=(f.params.length:Int):=by omega
    have hla2:((i.args.length:Int) != (f.params.length:Int))=false:=by simp [hla]
    have hlm2:((i.mem.length:Int) != (f.slots.length:Int))=true:=by simp;omega
    clear hla hla' hlm'
    go_enter Tryz.func14, Tryz.ntmps14
    go_wp2_with (go_at_call 42;(with_reducible refine CV.out.mono ?_);rintro e w1 ⟨rfl,g1⟩;obtain ⟨j0,j1,j2,j3,j4,j5⟩:=HC.out w1 g1;have HG1:=Lib.hid g1)
    go_ret
    exact ⟨ret_int HE.out.symm,HG0.out.trans HG1.out⟩
  ·have HE:Hid (R=1):=by show _=_;rw [← HR.out,if_neg (by decide),if_pos (.inl hla)]
   have hla':¬ ((i.args.length:Int)=(f.params.length:Int)):=by omega
   go_enter Tryz.func14, Tryz.ntmps14
   go_wp2_with (go_at_call 42;(with_reducible refine CV.out.mono ?_);rintro e w1 ⟨rfl,g1⟩;obtain ⟨j0,j1,j2,j3,j4,j5⟩:=HC.out w1 g1;have HG1:=Lib.hid g1)
   go_ret
   exact ⟨ret_int HE.out.symm,HG0.out.trans HG1.out⟩
 ·have HE:Hid (R=V):=by show _=_;rw [← HR.out,if_pos hv0]
  go_enter Tryz.func14, Tryz.ntmps14
  go_wp2_with (go_at_call 42;(with_reducible refine CV.out.mono ?_);rintro e w1 ⟨rfl,g1⟩)
  go_ret
  exact ⟨ret_int HE.out.symm,HG0.out.trans g1⟩
end Go.Proofs.YthfhamagopbgcaaGreat
