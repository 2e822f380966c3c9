/- Parts: Ru Vi. -/
import Derived.Test.YthfhamagopbgcaaGreatG42
import Derived.Test.YthfhamagopbgcaaGreatG31
import Derived.Test.YthfhamagopbgcaaGreatG36
import Derived.Test.YthfhamagopbgcaaGreatG20
namespace Go.Proofs.YthfhamagopbgcaaGreat
set_option linter.unusedSimpArgs false
set_option linter.unusedVariables false
open Go.RowKit

theorem info_ints1:(Tryz.prog.info? 22).map (fun i=>(i.zero,i.size,i.bytes))=some (some (.slice none 0 0),1,24):=by kernel_rfl
set_option maxRecDepth 100000 in
set_option maxHeartbeats 4000000 in
theorem rstart_any {B0:Nat} {w:World} {f:Fn} {vf:Value} (hfn:FnAt B0 w vf f) (hB0:B0≤w.heap.size) (hf:VFn f) {i:Rn.Inp} {va vm:Value} (ha:U32At B0 w va i.args) (hm:TabAt B0 w vm i.mem) (hi:Rn.validInput f i=0) (T:TypeId) (p:Value) :
  Calls Tryz.prog 47 #[vf,.agg #[va,vm],.iface T p] w fun e w'=>∃ c:Cfg,c.n₀=B0∧c.f=f∧c.ch=.iface T p∧e=.returned (.pointer (some ⟨c.Bs,0,none⟩))∧PS c w' (Rn.start f i) 0 (-1) (.slice none 0 0)∧Gr w w'∧(∀ k,Kept c k→w.heap.size≤k)∧c.Bm<w'.heap.size:=by
 obtain ⟨i0,hi0,hz0,hz1,hz2⟩:=info_parts info_int
 obtain ⟨i1,hi1,hy0,hy1,hy2⟩:=info_parts info_ints1
 have hvi:=Rn.valid_input hi
 obtain ⟨hv,hal,hml,hwd,hby⟩:=hvi
 have hszv:=hf.val.size
 have hcnt:Ref.count f≤1000:=by
  have e:Ref.count f=f.params.length+Ref.total f.blocks:=by unfold Ref.count Ref.number;rw [List.take_length]
  omega
 have hpc:f.params.length≤Ref.count f:=by unfold Ref.count Ref.number;omega
 have hb10:f.blocks.length≤10:=hszv.2.2.2.1
 have hb1:1≤f.blocks.length:=by omega
 obtain ⟨vp,vs,vb,rfl,hp,hs,hb⟩:=hfn
 have HFN:Hid (FnAt B0 w (.agg #[vp,.int .i64 f.ret,vs,vb]) f):=⟨vp,vs,vb,rfl,hp,hs,hb⟩
 obtain ⟨N,hN⟩:∃ N,w.heap.size=N:=⟨_,rfl⟩
 rw [hN] at hB0
 obtain ⟨W0,hW0⟩:∃ W0,w.alloc (.cells #[vp,.int .i64 f.ret,vs,vb] 25)=W0:=⟨_,rfl⟩
 obtain ⟨W1,hW1⟩:∃ W1,W0.alloc (.cells #[va,vm] 29)=W1:=⟨_,rfl⟩
 obtain ⟨W2,hW2⟩:∃ W2,W1.alloc (.cells #[vp,.int .i64 f.ret,vs,vb,.iface T p,.slice none 0 0,.slice none 0 0,.slice none 0 0,.slice none 0 0,.int .i64 0,.int .i64 (-1),.int .i64 0,.slice none 0 0] 100)=W2:=⟨_,rfl⟩
 have s0:W0.heap.size=N+1:=by rw [← hW0,← hN];simp
 have s1:W1.heap.size=N+2:=by rw [← hW1];simp [s0]
 have s2:W2.heap.size=N+3:=by rw [← hW2];simp [s1]
 have q0:W0.heap[N]?=some (.cells #[vp,.int .i64 f.ret,vs,vb] 25 (0,0)):=by rw [← hW0,← hN];exact heap_alloc_new _ _
 have gA:Gr W0 W1:=by rw [← hW1];exact (Gr.refl _).alloc _
 have gB:Gr W1 W2:=by rw [← hW2];exact (Gr.refl _).alloc _
 have gW:Gr w W0:=by rw [← hW0];exact (Gr.refl _).alloc _
 have q1:W1.heap[N+1]?=some (.cells #[va,vm] 29 (0,0)):=by rw [← hW1,← s0];exact heap_alloc_new _ _
 have HS0:Hid (SS N w W2 vp f.ret vs vb (.iface T p) va vm (.slice none 0 0) (.slice none 0 0) (.slice none 0 0) (.slice none 0 0)):={
   gr:=(gW.trans gA).trans gB
   n:=hN.symm
   fb:=(gB.heap _ (by omega)).trans ((gA.heap _ (by omega)).trans q0)
   ib:=(gB.heap _ (by omega)).trans q1
   st:=by rw [← hW2,← s1];exact heap_alloc_new _ _ }
 obtain ⟨Ap,cp,rfl,p1,p2,-⟩:=hp
 obtain ⟨As,cs,rfl,-,-,-⟩:=hs
 obtain ⟨Ab,cb,rfl,b1,b2,b3⟩:=hb
 obtain ⟨bb,ob,rfl,hbb,b4⟩:=b3 (by omega)
 have HBK:Hid (∀ wr,Gr w wr→∀ k l,f.blocks[k]?=some l→∃ Al cl,wr.cell? ⟨bb,ob+k,none⟩=some (.slice Al l.length cl)):=fun wr g k l hl=>by
  obtain ⟨u,hu,Al,cl,rfl,-⟩:=b4 k l hl
  exact ⟨Al,cl,(g.cell _ _ (by omega)).trans hu⟩
 have HNX:Hid (∀ k l,f.blocks[k]?=some l→Ref.number f (k+1)=Ref.number f k+l.length∧Ref.number f k+l.length≤1000):=fun k l hl=>⟨Ref.number_next f hl,by have:=Ref.number_count f hl;omega⟩
 have HA:=Lib.hid ha
 have HLEN:Hid (∀ (k:Nat) (l:List Int),i.mem[k]?=some l→1≤l.length∧l.length≤8):=fun k l hl=>by
  have h1:=congrArg (fun q=>q[k]?) hml
  simp only [List.getElem?_map,hl,Option.map_some] at h1
  have h2:=List.all_eq_true.1 hf.val.head.2 _ (List.mem_of_getElem? h1.symm)
  unfold Ref.isSlot at h2
  simp at h2
  omega
 have HMC:Hid (∀ wr,Gr w wr→∀ (k:Nat) (l:List Int),i.mem[k]?=some l→∃ bm om bl ol cl,vm=.slice (some ⟨bm,om,none⟩) i.mem.length (match vm with | .slice _ _ c=>c | _=>0)∧wr.cell? ⟨bm,om+k,none⟩=some (.slice (some ⟨bl,ol,none⟩) l.length cl)∧∀ w1,Gr wr w1→∀ j z,l[j]?=some z→w1.cell? ⟨bl,ol+j,none⟩=some (.int .i64 z)):=fun wr g k l hl=>by
  obtain ⟨A,c,rfl,-,-,h3⟩:=hm
  obtain ⟨b,o,rfl,hb,h4⟩:=h3 (by have:=(List.getElem?_eq_some_iff.1 hl).1;omega)
  obtain ⟨u,hu,Al,cl,rfl,-,-,h5⟩:=h4 k l hl
  obtain ⟨bl,ol,rfl,hbl,h6⟩:=h5 (HLEN.out k l hl).1
  exact ⟨b,o,bl,ol,cl,rfl,(g.cell _ _ (by omega)).trans hu,fun w1 g1 j z hz=>((g.trans g1).cell _ _ (by omega)).trans (h6 j z hz)⟩
 have HMLL:Hid (i.mem.map (fun r=>(r.length:Int))=f.slots):=hml
 have HML:Hid (i.mem.length≤1000):=by
  show _≤_
  have h1:=congrArg List.length hml
  rw [List.length_map] at h1
  omega
 have HAN:Hid (i.args.length≤Ref.count f):=by show _≤_;omega
 have HAC:Hid (∀ wr,Gr w wr→∀ k x,i.args[k]?=some x→∃ b o,va=.slice (some ⟨b,o,none⟩) i.args.length (match va with | .slice _ _ c=>c | _=>0)∧wr.cell? ⟨b,o+k,none⟩=some (.int .u32 x)):=fun wr g k x hx=>by
  obtain ⟨A,c,rfl,-,-,h3⟩:=HA.out
  obtain ⟨b,o,rfl,hb,h4⟩:=h3 (by have:=(List.getElem?_eq_some_iff.1 hx).1;omega)
  exact ⟨b,o,rfl,(g.cell _ _ (by omega)).trans (h4 k x hx)⟩
 have HM:=Lib.hid hm
 have HV:=Lib.hid hf
 have HI:=Lib.hid hi
 have HB0:=Lib.hid hB0
 have HNN:=Lib.hid hN
 have h0c:W0.cell? ⟨N,0,none⟩=some (.slice Ap f.params.length cp):=cell_of_row _ _ 0 _ _ _ q0
 have fcell:∀ (i:Nat) (v:Value),(#[Value.slice Ap f.params.length cp,.int .i64 f.ret,.slice As f.slots.length cs,.slice (some ⟨bb,ob,none⟩) f.blocks.length cb]:Array Value)[i]?=some v→W1.cell? ⟨N,i,none⟩=some v∧W2.cell? ⟨N,i,none⟩=some v:=fun i v hv =>
  ⟨(cell_of_row _ _ i _ _ _ ((gA.heap _ (by omega)).trans q0)).trans hv,(cell_of_row _ _ i _ _ _ HS0.out.fb).trans hv⟩
 obtain ⟨x0,y0⟩:=fcell 0 _ rfl
 obtain ⟨x1,y1⟩:=fcell 1 _ rfl
 obtain ⟨x2,y2⟩:=fcell 2 _ rfl
 obtain ⟨x3,y3⟩:=fcell 3 _ rfl
 obtain ⟨Aa,ca,rfl,-,-,-⟩:=ha
 obtain ⟨Amm,cmm,rfl,-,-,-⟩:=hm
 clear b3 b4 hi hv hwd hby hszv hN gA gB gW q0 q1 hal hml h0c fcell hpc hf
 rw [← HNN.out] at s0 s1 s2 x0 x1 x2 x3 y0 y1 y2 y3
 go_enter Tryz.func47, Tryz.ntmps47
 go_wp2
 go_loopw [8,25] (fun s8 s25 wr=>∃ (k:Nat) (A:Option Addr) (c:Nat),k≤f.blocks.length∧s25=.int .i64 (k:Int)∧s8=.int .i64 (Ref.number f k:Nat) ∧
     Hid (SS N w wr (.slice Ap f.params.length cp) f.ret (.slice As f.slots.length cs) (.slice (some ⟨bb,ob,none⟩) f.blocks.length cb) (.iface T p) (.slice Aa i.args.length ca) (.slice Amm i.mem.length cmm) (.slice none 0 0) (.slice none 0 0) (.slice A k c) (.slice none 0 0)) ∧
     Hid (Own1 (N+3) 3 wr (.slice A k c) (frL f k))) (fun _ s25 _=>f.blocks.length-(intOf s25).toNat)
 case atStart=>exact ⟨0,none,0,Nat.zero_le _,rfl,by (congr 1),HS0,Own1.nil _ _ _⟩
 case round =>
  obtain ⟨k,A,c,hk,rfl,rfl,hss,hown⟩:=hrel
  by_cases hlt:k<f.blocks.length
  ·obtain ⟨l,hl⟩:∃ l,f.blocks[k]?=some l:=⟨_,List.getElem?_eq_getElem hlt⟩
   obtain ⟨Al,cl,hcell⟩:=HBK.out wr hss.out.gr k l hl
   obtain ⟨n1,n2⟩:=HNX.out k l hl
   have c7:wr.cell? ⟨w.heap.size+2,7,none⟩=some (.slice A k c):=by rw [HNN.out];exact cell_of_row _ _ 7 _ _ _ hss.out.st
   have HN1:Hid ((Ref.number f (k+1):Nat)=Ref.number f k+l.length):=n1
   obtain ⟨q,hq⟩:∃ q,Ref.number f k=q:=⟨_,rfl⟩
   have HQ:=Lib.hid hq
   rw [hq] at n2
   rw [hq]
   clear hl n1 hq
   go_wp2_with (at_builtin;refine app1x (n:=k) (v:=.slice A k c) Tryz.underlying22 hi0 hz0 hz1 hz2 rfl (by omega) rfl (.tmp 33) (.tmp 35) rfl (frL_len f k) rfl hown.out rfl rfl (by omega) (by have:=hss.out.lt;omega) ?_;intro A2 c2 w2 ho2 hg2 hat2;have HPU:=Lib.hid (hss.out.push hown.out hg2 ho2);have x0':w2.cell? ⟨w.heap.size+2,7,none⟩=some (.slice A k c):=(by rw [HNN.out];exact cell_of_row _ _ 7 _ _ _ HPU.out.1.st);have y0':w2.frozen? ⟨w.heap.size+2,7,none⟩=false:=(by rw [HNN.out];exact frozen_of_row _ _ 7 _ _ HPU.out.1.st);clear ho2 hg2 hat2)
   have HS2:Hid (SS N w (w2.setCell ⟨w.heap.size+2,7,none⟩ (.slice A2 (k+1) c2)) (.slice Ap f.params.length cp) f.ret (.slice As f.slots.length cs) (.slice (some ⟨bb,ob,none⟩) f.blocks.length cb) (.iface T p) (.slice Aa i.args.length ca) (.slice Amm i.mem.length cmm) (.slice none 0 0) (.slice none 0 0) (.slice A2 (k+1) c2) (.slice none 0 0)):=by
    rw [HNN.out];exact HPU.out.1.put 7 _ rfl
   have HO2:Hid (Own1 (N+3) 3 (w2.setCell ⟨w.heap.size+2,7,none⟩ (.slice A2 (k+1) c2)) (.slice A2 (k+1) c2) (frL f (k+1))):=by
    rw [HNN.out,frL_step,HQ.out];exact HPU.out.2.1 7
   refine ⟨⟨k+1,A2,c2,by omega,by go_num,by rw [HN1.out,HQ.out];go_num,HS2,HO2⟩,by simp [intOf];omega⟩
  ·obtain rfl:k=f.blocks.length:=by omega
   obtain ⟨n,hn⟩:∃ n,Ref.count f=n:=⟨_,rfl⟩
   have hn':Ref.number f f.blocks.length=n:=hn
   have HNC:=Lib.hid hn
   rw [hn] at hcnt
   rw [hn']
   clear hn hn' hlt hk
   obtain ⟨Wa,hWa⟩:∃ Wa,Wa=wr:=⟨_,rfl⟩
   subst hWa
   have hMV:=fun T=>make_values T n hcnt
   have HRP:Hid (Array.replicate n (Value.bool false)=((List.replicate n false).map Value.bool).toArray):=by (show _=_);simp
   have hMB:=fun T=>make_had T n hcnt
   have hN2:N+2<Wa.heap.size:=by have:=hss.out.lt;omega
   have a5:Wa.cell? ⟨w.heap.size+2,5,none⟩=some (.slice none 0 0):=by rw [HNN.out];exact cell_of_row _ _ 5 _ _ _ hss.out.st
   have a6:Wa.cell? ⟨w.heap.size+2,6,none⟩=some (.slice none 0 0):=by rw [HNN.out];exact cell_of_row _ _ 6 _ _ _ hss.out.st
   have z5:Wa.frozen? ⟨w.heap.size+2,5,none⟩=false:=by rw [HNN.out];exact frozen_of_row _ _ 5 _ _ hss.out.st
   have z6:Wa.frozen? ⟨w.heap.size+2,6,none⟩=false:=by rw [HNN.out];exact frozen_of_row _ _ 6 _ _ hss.out.st
   have hNw:w.heap.size+2<Wa.heap.size:=by rw [HNN.out];exact hN2
   go_wp2
   go_cut [] (fun wx=>∃ Bv Bh:Nat,Hid (MK N Wa wx (sRow (.slice Ap f.params.length cp) f.ret (.slice As f.slots.length cs) (.slice (some ⟨bb,ob,none⟩) f.blocks.length cb) (.iface T p) (.slice (some ⟨Bv,0,none⟩) n n) (.slice (some ⟨Bh,0,none⟩) n n) (.slice A f.blocks.length c) (.slice none 0 0)) [(Bv,.cells (encVs (List.replicate n Rn.zero)).toArray 37 (0,0)),(Bh,.cells ((List.replicate n false).map Value.bool).toArray 4 (0,0))]))
   case first =>
    go_region_with (fail)
    all_goals go_wp2
    all_goals go_meet
    all_goals rw [HRP.out,HNN.out]
    all_goals first
     | exact ⟨Wa.heap.size,Wa.heap.size+1,mk_two hss.out.st _ _ _ _ _ _⟩
     | exact ⟨Wa.heap.size+1,Wa.heap.size,(mk_two hss.out.st _ _ _ _ _ _).mono (by intro q hq;simp at hq ⊢;exact hq.symm)⟩
   case rest =>
    obtain ⟨Bv,Bh,hmk⟩:=hcut
    obtain ⟨Wc,hWc⟩:∃ Wc,Wc=wc:=⟨_,rfl⟩
    subst hWc
    have hfr:=hmk.out.fr
    obtain ⟨hv0,hvB⟩:=hmk.out.at_ _ (List.mem_cons_self)
    obtain ⟨hh0,hhB⟩:=hmk.out.at_ _ (List.mem_cons_of_mem _ (List.mem_cons_self))
    have hSS:Hid (SS N w Wc (.slice Ap f.params.length cp) f.ret (.slice As f.slots.length cs) (.slice (some ⟨bb,ob,none⟩) f.blocks.length cb) (.iface T p) (.slice Aa i.args.length ca) (.slice Amm i.mem.length cmm) (.slice (some ⟨Bv,0,none⟩) n n) (.slice (some ⟨Bh,0,none⟩) n n) (.slice A f.blocks.length c) (.slice none 0 0)):={
      gr:=Gr.below hss.out.gr (hfr.below (n:=N+2) (fun k hk=>by omega) (by omega)) (by rw [HNN.out];omega)
      n:=HNN.out.symm
      fb:=(hfr.block _ (by omega) (by omega)).trans hss.out.fb
      ib:=(hfr.block _ (by omega) (by omega)).trans hss.out.ib
      st:=hmk.out.st }
    have hOF:Hid (Own1 (N+3) 3 Wc (.slice A f.blocks.length c) (frL f f.blocks.length)):=own_same hown.out fun k hk=>hfr.block k (own_row hown.out hk).2.1 (by have:=(own_row hown.out hk).1;omega)
    have hBv:N+3≤Bv:=by have:Wa.heap.size≤Bv:=hvB;omega
    have hBh:N+3≤Bh:=by have:Wa.heap.size≤Bh:=hhB;omega
    have hvh:Bv≠Bh:=ne_of_type hv0 hh0 (by decide)
    have HV0:Hid (Wc.heap[Bv]?=some (.cells (encVs (fillL Rn.zero (i.args.map Rn.word) n 0)).toArray 37 (0,0))):=by (show _=_);rw [fillL_zero];exact hv0
    have HH0:Hid (Wc.heap[Bh]?=some (.cells ((fillL false (i.args.map fun _=>true) n 0).map Value.bool).toArray 4 (0,0))):=by (show _=_);rw [fillL_zero];exact hh0
    have hanc:i.args.length≤n:=by have:=HAN.out;have:=HNC.out;omega
    have c0:Wc.cell? ⟨w.heap.size+1,0,none⟩=some (.slice Aa i.args.length ca):=by rw [HNN.out];exact cell_of_row _ _ 0 _ _ _ hSS.out.ib
    clear hmk hfr hv0 hvB hh0 hhB hss hown a5 a6 z5 z6 hMV hMB
    go_wp2
    go_loopw [57] (fun s57 wr=>∃ k:Nat,k≤i.args.length∧s57=.int .i64 (k:Int) ∧
        Hid (SS N w wr (.slice Ap f.params.length cp) f.ret (.slice As f.slots.length cs) (.slice (some ⟨bb,ob,none⟩) f.blocks.length cb) (.iface T p) (.slice Aa i.args.length ca) (.slice Amm i.mem.length cmm) (.slice (some ⟨Bv,0,none⟩) n n) (.slice (some ⟨Bh,0,none⟩) n n) (.slice A f.blocks.length c) (.slice none 0 0)) ∧
        Hid (Own1 (N+3) 3 wr (.slice A f.blocks.length c) (frL f f.blocks.length))∧Hid (wr.heap[Bv]?=some (.cells (encVs (fillL Rn.zero (i.args.map Rn.word) n k)).toArray 37 (0,0))) ∧
        Hid (wr.heap[Bh]?=some (.cells ((fillL false (i.args.map fun _=>true) n k).map Value.bool).toArray 4 (0,0)))) (fun s57 _=>i.args.length-(intOf s57).toNat)
    case atStart=>exact ⟨0,Nat.zero_le _,rfl,hSS,hOF,HV0,HH0⟩
    case round =>
     obtain ⟨k,hk,rfl,hss,hown,hv,hh⟩:=hrel
     by_cases hlt:k<i.args.length
     ·obtain ⟨x,hx⟩:∃ x,i.args[k]?=some x:=⟨_,List.getElem?_eq_getElem hlt⟩
      obtain ⟨ba,oa,hva,hca⟩:=HAC.out wr hss.out.gr k x hx
      injection hva with hva _ _
      subst hva
      have c5:wr.cell? ⟨w.heap.size+2,5,none⟩=some (.slice (some ⟨Bv,0,none⟩) n n):=by rw [HNN.out];exact cell_of_row _ _ 5 _ _ _ hss.out.st
      have c6:wr.cell? ⟨w.heap.size+2,6,none⟩=some (.slice (some ⟨Bh,0,none⟩) n n):=by rw [HNN.out];exact cell_of_row _ _ 6 _ _ _ hss.out.st
      have hkn:k<n:=by omega
      obtain ⟨y,hy⟩:∃ y,(fillL Rn.zero (i.args.map Rn.word) n k)[k]?=some y:=⟨_,List.getElem?_eq_getElem (by rw [fillL_len _ _ _ _ (by simp;omega) (by simp;omega)];exact hkn)⟩
      obtain ⟨z,hz⟩:∃ z,(fillL false (i.args.map fun _=>true) n k)[k]?=some z:=⟨_,List.getElem?_eq_getElem (by rw [fillL_len _ _ _ _ (by simp;omega) (by simp;omega)];exact hkn)⟩
      obtain ⟨y0',y1',y2'⟩:=encVs_get _ _ _ hy
      rw [Nat.mul_comm] at y0' y1' y2'
      have d0:wr.cell? ⟨Bv,k * 3,none⟩=some (.bool y.p):=(cell_of_row _ _ _ _ _ _ hv.out).trans (by simpa using y0')
      have d1:wr.cell? ⟨Bv,k * 3+1,none⟩=some (.int .i64 y.s):=(cell_of_row _ _ _ _ _ _ hv.out).trans (by simpa using y1')
      have d2:wr.cell? ⟨Bv,k * 3+2,none⟩=some (.int .u32 y.n):=(cell_of_row _ _ _ _ _ _ hv.out).trans (by simpa using y2')
      have e0:wr.cell? ⟨Bh,k,none⟩=some (.bool z):=(cell_of_row _ _ _ _ _ _ hh.out).trans (by simp [hz])
      have f0:wr.frozen? ⟨Bv,k * 3,none⟩=false:=frozen_of_row _ _ _ _ _ hv.out
      have f1:wr.frozen? ⟨Bv,k * 3+1,none⟩=false:=frozen_of_row _ _ _ _ _ hv.out
      have f2:wr.frozen? ⟨Bv,k * 3+2,none⟩=false:=frozen_of_row _ _ _ _ _ hv.out
      have f3:wr.frozen? ⟨Bh,k,none⟩=false:=frozen_of_row _ _ _ _ _ hh.out
      have n1:w.heap.size+2≠Bv:=by rw [HNN.out];omega
      have n2:w.heap.size+2≠Bh:=by rw [HNN.out];omega
      have hv1:=heap_setCell_at (i:=k * 3) (.bool false) hv.out
      have hv2:=heap_setCell_at (i:=k * 3+1) (.int .i64 0) hv1
      have hv3:=heap_setCell_at (i:=k * 3+2) (.int .u32 x) hv2
      have er:=row_vals (fillL Rn.zero (i.args.map Rn.word) n k) k (Rn.word x)
      rw [fillL_step Rn.zero (i.args.map Rn.word) n k (by simp;omega) (Rn.word x) (by rw [List.getElem?_map,hx];rfl)] at er
      have er2:=row_had (fillL false (i.args.map fun _=>true) n k) k
      rw [fillL_step false (i.args.map fun _=>true) n k (by simp;omega) true (by rw [List.getElem?_map,hx];rfl)] at er2
      obtain ⟨W9,hW9⟩:∃ W9,((((wr.setCell ⟨Bv,k * 3,none⟩ (.bool false)).setCell ⟨Bv,k * 3+1,none⟩ (.int .i64 0)).setCell ⟨Bv,k * 3+2,none⟩ (.int .u32 x)).setCell ⟨Bh,k,none⟩ (.bool true))=W9:=⟨_,rfl⟩
      have hF9:FrS (fun q=>q=Bv∨q=Bh) wr W9:=by
       rw [← hW9]
       exact ((((FrS.refl (fun q=>q=Bv∨q=Bh) wr).setCell (p:=⟨Bv,k * 3,none⟩) (.inl rfl) _).setCell (p:=⟨Bv,k * 3+1,none⟩) (.inl rfl) _).setCell (p:=⟨Bv,k * 3+2,none⟩) (.inl rfl) _).setCell (p:=⟨Bh,k,none⟩) (.inr rfl) _
      have HV9:Hid (W9.drew.heap[Bv]?=some (.cells (encVs (fillL Rn.zero (i.args.map Rn.word) n (k+1))).toArray 37 (0,0))):=by
       show W9.heap[Bv]?=_
       rw [← er,← hW9]
       exact (RowKit.Below.heap_setCell _ _ _ _ hvh).trans hv3
      have HH9:Hid (W9.drew.heap[Bh]?=some (.cells ((fillL false (i.args.map fun _=>true) n (k+1)).map Value.bool).toArray 4 (0,0))):=by
       show W9.heap[Bh]?=_
       rw [← er2,← hW9]
       exact heap_setCell_at (i:=k) (.bool true) ((RowKit.Below.heap_setCell _ _ _ _ hvh.symm).trans ((RowKit.Below.heap_setCell _ _ _ _ hvh.symm).trans ((RowKit.Below.heap_setCell _ _ _ _ hvh.symm).trans hh.out)))
      have HS9:=Lib.hid ((hss.out.keep hF9 (fun q hq=>hq.elim (fun e=>by omega) (fun e=>by omega))).grow ((Gr.refl W9).drew))
      have HO9:Hid (Own1 (N+3) 3 W9.drew (.slice A f.blocks.length c) (frL f f.blocks.length)):=own_same hown.out fun q hq=>hF9.drew.block q (own_row hown.out hq).2.1 (by
        obtain ⟨-,-,cur,ht⟩:=own_row hown.out hq
        rintro (e | e)
        · subst e;exact ne_of_type ht hv.out (by decide) rfl
        · subst e;exact ne_of_type ht hh.out (by decide) rfl)
      clear hx hy hz y0' y1' y2' hv1 hv2 hv3 er er2 hss hown hv hh hF9
      go_wp2
      go_region_with (fail)
      all_goals go_wp2
      all_goals exact ⟨⟨k+1,by omega,by go_num,HS9,HO9,HV9,HH9⟩,by simp [intOf];omega⟩
     ·obtain rfl:k=i.args.length:=by omega
      obtain ⟨We,hWe⟩:∃ We,We=wr:=⟨_,rfl⟩
      subst hWe
      have HVF:Hid (We.heap[Bv]?=some (.cells (encVs (Rn.start f i).vals).toArray 37 (0,0))):=by
       show _=_
       rw [hv.out]
       unfold fillL Rn.start
       rw [HNC.out,List.take_of_length_le (by simp)]
      have HHF:Hid (We.heap[Bh]?=some (.cells ((Rn.start f i).had.map Value.bool).toArray 4 (0,0))):=by
       show _=_
       rw [hh.out]
       unfold fillL Rn.start
       rw [HNC.out,List.take_of_length_le (by simp)]
      have c1:We.cell? ⟨w.heap.size+1,1,none⟩=some (.slice Amm i.mem.length cmm):=by rw [HNN.out];exact cell_of_row _ _ 1 _ _ _ hss.out.ib
      clear hv hh hlt hk hanc
      go_wp2
      go_loopw [80] (fun s80 wr=>∃ (k:Nat) (us:List (Nat × Nat)) (A8:Option Addr) (c8:Nat),k≤i.mem.length∧s80=.int .i64 (k:Int)∧us.length=k ∧
          Hid (SS N w wr (.slice Ap f.params.length cp) f.ret (.slice As f.slots.length cs) (.slice (some ⟨bb,ob,none⟩) f.blocks.length cb) (.iface T p) (.slice Aa i.args.length ca) (.slice Amm i.mem.length cmm) (.slice (some ⟨Bv,0,none⟩) n n) (.slice (some ⟨Bh,0,none⟩) n n) (.slice A f.blocks.length c) (.slice A8 k c8)) ∧
          Hid (Own1 (N+3) 3 wr (.slice A f.blocks.length c) (frL f f.blocks.length))∧Hid (wr.heap[Bv]?=some (.cells (encVs (Rn.start f i).vals).toArray 37 (0,0))) ∧
          Hid (wr.heap[Bh]?=some (.cells ((Rn.start f i).had.map Value.bool).toArray 4 (0,0))) ∧
          Hid (MU N wr us i.mem (.slice A f.blocks.length c))∧Hid (Own1 (N+3) 22 wr (.slice A8 k c8) (usV us i.mem))) (fun s80 _=>i.mem.length-(intOf s80).toNat)
      case atStart=>exact ⟨0,[],none,0,Nat.zero_le _,rfl,rfl,hss,hown,HVF,HHF,MU.nil _ _ _ _,Own1.nil _ _ _⟩
      case round =>
       obtain ⟨k,us,A8,c8,hk,rfl,hus,hss,hown,hv,hh,hmu,hrow⟩:=hrel
       by_cases hlt:k<i.mem.length
       ·obtain ⟨l,hl⟩:∃ l,i.mem[k]?=some l:=⟨_,List.getElem?_eq_getElem hlt⟩
        obtain ⟨bm,om,bl,ol,cl,hvm,hcm,hcl⟩:=HMC.out wr hss.out.gr k l hl
        injection hvm with hvm _ _
        subst hvm
        obtain ⟨l1,l2⟩:=HLEN.out k l hl
        have CL:Hid (∀ w1,Gr wr w1→Calls Tryz.prog 85 #[.slice (some ⟨bl,ol,none⟩) l.length cl] w1 fun e w'=>∃ b' cap:Nat,e=.returned (.slice (some ⟨b',0,none⟩) l.length cap)∧(w1.heap.size≤b'∧l.length≤cap∧cap≤9223372036854775807∧∃ cur:Array Value,w'.heap[b']?=some (.cells cur 3 (0,0))∧∀ (i:Nat) (z:Int),l[i]?=some z→cur[i]?=some (.int .i64 z))∧Gr w1 w'):=fun w1 g1=>by
         refine (Tryz.slices_Clone_int bl ol l.length cl l w1 (Nat.le_refl _) (by omega) (fun j hj=>by
           rw [List.getD_eq_getElem?_getD,List.getElem?_eq_getElem hj]
           exact hcl w1 g1 j _ (List.getElem?_eq_getElem hj))).mono ?_
         rintro e w' ⟨v',rfl,ho,hne,hbel⟩
         obtain ⟨o1,o2⟩:=ho
         rcases o2 with ⟨rfl,-⟩ | ⟨g,cap,cur,rfl,hg,hc,h3,h4,h5,h6⟩
         ·exact absurd rfl hne
         ·refine ⟨g,cap,rfl,⟨hg,h3,by unfold maxLen at h4;omega,cur,hc,fun q z hz=>?_⟩,hbel⟩
          have hq:=(List.getElem?_eq_some_iff.1 hz).1
          have h7:=congrArg (fun r=>r[q]?) h6
          simp only [List.getElem?_take,List.getElem?_map,List.take_length,hz,Option.map_some,Nat.mul_one,if_pos hq] at h7
          simpa using h7
        have HOwn:Hid (∀ w1,Gr wr w1→Own1 (N+3) 22 w1 (.slice A8 k c8) (usV us i.mem)∧w1.cell? ⟨w.heap.size+2,8,none⟩=some (.slice A8 k c8)∧w1.frozen? ⟨w.heap.size+2,8,none⟩=false∧N+3≤w1.heap.size):=fun w1 g1=>by
         have h1:=hss.out.grow g1
         exact ⟨hrow.out.gr g1,by rw [HNN.out];exact cell_of_row _ _ 8 _ _ _ h1.st,by rw [HNN.out];exact frozen_of_row _ _ 8 _ _ h1.st,h1.lt⟩
        have HEND:Hid (∀ (w1 w2:World) (tmp:Obj) (b' cap:Nat) (A2:Option Addr) (c2:Nat),Gr wr w1→(wr.heap.size≤b'∧l.length≤cap∧cap≤9223372036854775807∧∃ cur:Array Value,w1.heap[b']?=some (.cells cur 3 (0,0))∧∀ (i:Nat) (z:Int),l[i]?=some z→cur[i]?=some (.int .i64 z)) →
            (w1.alloc tmp).grownBy w2 (Value.slice A8 k c8).ownBlock→Own1 (N+3) 22 w2 (.slice A2 (k+1) c2) (usV us i.mem++[.slice (some ⟨b',0,none⟩) l.length cap]) →
            (w2.cell? ⟨w.heap.size+2,8,none⟩=some (.slice A8 k c8)∧w2.frozen? ⟨w.heap.size+2,8,none⟩=false) ∧
            SS N w (w2.setCell ⟨w.heap.size+2,8,none⟩ (.slice A2 (k+1) c2)) (.slice Ap f.params.length cp) f.ret (.slice As f.slots.length cs) (.slice (some ⟨bb,ob,none⟩) f.blocks.length cb) (.iface T p) (.slice Aa i.args.length ca) (.slice (some ⟨bm,om,none⟩) i.mem.length cmm) (.slice (some ⟨Bv,0,none⟩) n n) (.slice (some ⟨Bh,0,none⟩) n n) (.slice A f.blocks.length c) (.slice A2 (k+1) c2) ∧
            Own1 (N+3) 3 (w2.setCell ⟨w.heap.size+2,8,none⟩ (.slice A2 (k+1) c2)) (.slice A f.blocks.length c) (frL f f.blocks.length)∧((w2.setCell ⟨w.heap.size+2,8,none⟩ (.slice A2 (k+1) c2)).heap[Bv]?=some (.cells (encVs (Rn.start f i).vals).toArray 37 (0,0))) ∧
            ((w2.setCell ⟨w.heap.size+2,8,none⟩ (.slice A2 (k+1) c2)).heap[Bh]?=some (.cells ((Rn.start f i).had.map Value.bool).toArray 4 (0,0))) ∧
            MU N (w2.setCell ⟨w.heap.size+2,8,none⟩ (.slice A2 (k+1) c2)) (us++[(b',cap)]) i.mem (.slice A f.blocks.length c)∧Own1 (N+3) 22 (w2.setCell ⟨w.heap.size+2,8,none⟩ (.slice A2 (k+1) c2)) (.slice A2 (k+1) c2) (usV (us++[(b',cap)]) i.mem)):=by
         intro w1 w2 tmp b' cap A2 c2 g1 hb' hg ho2
         rw [HNN.out]
         have hs1:=hss.out.grow g1
         have hr1:=hrow.out.gr g1
         obtain ⟨p1,p2,p3⟩:=hs1.push hr1 hg ho2
         have hF:=p3 8
         have hnot:∀ {q:Nat} {cur:Array Value} {t:TypeId},w1.heap[q]?=some (.cells cur t (0,0))→t≠22→N+3≤q→¬ ((Value.slice A8 k c8).ownBlock=some q∨q=N+2):=by
          rintro q cur t hq ht hN3 (e | e)
          ·obtain ⟨-,-,cur',ht'⟩:=own_row hr1 e
           exact ne_of_type hq ht' ht rfl
          ·omega
         have stay:∀ {q:Nat} {cur:Array Value} {t:TypeId},w1.heap[q]?=some (.cells cur t (0,0))→t≠22→N+3≤q→(w2.setCell ⟨N+2,8,none⟩ (.slice A2 (k+1) c2)).heap[q]?=some (.cells cur t (0,0)):=fun hq ht hN3=>(hF.block _ (lt_of_heap hq) (hnot hq ht hN3)).trans hq
         obtain ⟨b1,b2,b3',cur,b4',b5⟩:=hb'
         have hlt3:=hss.out.lt
         have hsz1:=g1.size
         have hsz2:w1.heap.size≤(w2.setCell ⟨N+2,8,none⟩ (.slice A2 (k+1) c2)).heap.size:=hF.size
         refine ⟨⟨cell_of_row _ _ 8 _ _ _ p1.st,frozen_of_row _ _ 8 _ _ p1.st⟩,p1.put 8 _ rfl,own_same hown.out fun q hq=>?_,stay ((g1.heap _ (lt_of_heap hv.out)).trans hv.out) (by decide) hBv,stay ((g1.heap _ (lt_of_heap hh.out)).trans hh.out) (by decide) hBh,⟨?_,?_,?_,?_⟩,?_⟩
         ·obtain ⟨h1,h2,cur',h3⟩:=own_row hown.out hq
          exact (stay ((g1.heap _ h2).trans h3) (by decide) h1).trans h3.symm
         ·intro j b cp' l' h1 h2
          rcases Nat.lt_or_ge j us.length with hj | hj
          ·rw [List.getElem?_append_left hj] at h1
           obtain ⟨r1,r2,r3,cur',r4,r5⟩:=hmu.out.row j b cp' l' h1 h2
           exact ⟨r1,r2,r3,cur',stay ((g1.heap _ (lt_of_heap r4)).trans r4) (by decide) r1,r5⟩
          ·rw [List.getElem?_append_right hj] at h1
           obtain rfl:j=us.length:=by
            rcases Nat.lt_or_ge us.length j with q | q
            ·rw [List.getElem?_eq_none (by simp;omega)] at h1;cases h1
            ·omega
           rw [Nat.sub_self] at h1
           simp at h1
           obtain ⟨rfl,rfl⟩:=h1
           rw [hus,hl] at h2
           injection h2 with h2
           subst h2
           exact ⟨by omega,b2,b3',cur,stay b4' (by decide) (by omega),b5⟩
         ·rw [List.map_append,List.nodup_append]
          refine ⟨hmu.out.apart,by simp,fun a ha b hb=>?_⟩
          simp at hb
          subst hb
          obtain ⟨u,hu,rfl⟩:=List.mem_map.1 ha
          have:=hmu.out.all u hu
          omega
         ·intro u hu
          rcases List.mem_append.1 hu with hu | hu
          ·exact hmu.out.off u hu
          ·simp at hu
           subst hu
           intro e
           have:=(own_row hown.out e).2.1
           dsimp only at this
           omega
         ·intro u hu
          rcases List.mem_append.1 hu with hu | hu
          ·have:=hmu.out.all u hu;omega
          ·simp at hu
           subst hu
           have:=lt_of_heap b4'
           show b'<_
           omega
         ·rw [usV_snoc us i.mem (b',cap) l (by rw [hus];exact hl)]
          exact p2 8
        have hul:(usV us i.mem).length=k:=by rw [usV_len _ _ (by omega),hus]
        have HUL:=Lib.hid hul
        have mixed:(Tryz.prog).follows .mixedOrders=true:=by kernel_rfl
        obtain ⟨-,o8,z8,-⟩:=HOwn.out wr (Gr.refl _)
        have Q8:=fun o=>(HOwn.out (wr.drew.alloc o) (((Gr.refl wr).drew).alloc o)).2.1
        have hus1:(us++[((0:Nat),(0:Nat))]).length=k+1:=by simp [hus]
        have HUS:Hid (∀ u:Nat × Nat,(us++[u]).length=k+1):=fun u=>by simp [hus]
        have hk1000:k<1000000:=by have:=HI.out;have h3:=hul;have:i.mem.length≤1000:=HML.out;omega
        clear hl hus hss hown hv hh hmu hrow hcl hul hus1
        go_wp2
        go_region_law_o (first
          | (refine step_calls rfl (f:=85) (args:=#[.slice (some ⟨bl,ol,none⟩) l.length cl]) (by simp [go_sem,Act.eval,Act.put]) ((CL.out _ ((Gr.refl wr).drew)).mono ?_);rintro e w1 ⟨b',cap,rfl,hrw,g1⟩;refine ⟨_,rfl,?_⟩;have G1:Hid (Gr wr w1):=((Gr.refl wr).drew).trans g1;have HRW:=Lib.hid hrw;have HO1:=Lib.hid (HOwn.out w1 G1.out);have o8':=HO1.out.2.1;have Q8':=fun o=>(HOwn.out (w1.alloc o) (G1.out.alloc o)).2.1;clear hrw g1)
          | (refine step_app1x (n:=k) (v:=.slice A8 k c8) Tryz.underlying27 hi1 hy0 hy1 hy2 rfl (by omega) rfl (.tmp 88) (.tmp 91) rfl HUL.out rfl HO1.out.1 rfl rfl (by omega) HO1.out.2.2.2 ?_;intro A2 c2 w2 ho2 hg2 hat2;have HE2:=Lib.hid (HEND.out w1 w2 _ b' cap A2 c2 G1.out HRW.out hg2 ho2);have xx8:=HE2.out.1.1;have yy8:=HE2.out.1.2;clear ho2 hg2 hat2))
        all_goals go_wp2
        all_goals
         obtain ⟨-,j1,j2,j3,j4,j5,j6⟩:=HE2.out
         exact ⟨⟨k+1,us++[(b',cap)],A2,c2,by omega,by go_num,HUS.out _,j1,j2,j3,j4,j5,j6⟩,by simp [intOf];omega⟩
       ·obtain rfl:k=i.mem.length:=by omega
        have hend:∃ c9:Cfg,c9.n₀=B0∧c9.f=f∧c9.ch=.iface T p∧c9.Bs=w.heap.size+2∧PS c9 wr (Rn.start f i) 0 (-1) (.slice none 0 0)∧(∀ k,Kept c9 k→w.heap.size≤k)∧c9.Bm<wr.heap.size:=by
         have hlt3:=hss.out.lt
         have hN':=HNN.out
         have hB0':B0≤N:=HB0.out
         obtain ⟨bf,hAf,hbf,hbfN,hcf⟩:=own_cells (by have:=hown.out;unfold Own1 at this;rw [frL_len] at this;exact this) rfl (by omega:0<f.blocks.length)
         subst hAf
         obtain ⟨-,hrf⟩:=id hown.out
         have hbfB:N+3≤bf:=(own_row hown.out (k:=bf) rfl).1
         obtain ⟨curf,hcurf⟩:=(own_row hown.out (k:=bf) rfl).2.2
         have hcfc:f.blocks.length≤c∧c≤9223372036854775807:=by
          rcases hrf with ⟨e,-⟩ | ⟨g,cap,cur,e,-,-,h1,h2,-⟩
          ·cases e
          ·injection e with _ e1 e2
           unfold maxLen at h2
           rw [frL_len] at h1
           omega
         have hnm:i.mem.length≤c8∧c8≤9223372036854775807:=by
          obtain ⟨-,hr⟩:=id hrow.out
          rcases hr with ⟨e,h0⟩ | ⟨g,cap,cur,e,-,-,h1,h2,-⟩
          ·injection e with _ e1 e2;omega
          ·injection e with _ e1 e2
           unfold maxLen at h2
           rw [usV_len _ _ (by omega),hus] at h1
           omega
         obtain ⟨Bm,hBm1,hBm2,hBm3⟩:∃ Bm:Nat,N+2≤Bm∧Bm<wr.heap.size∧(0<us.length→A8=some ⟨Bm,0,none⟩∧∃ cur:Array Value,wr.heap[Bm]?=some (.cells cur 22 (0,0))∧∀ j v,(usV us i.mem)[j]?=some v→cur[j]?=some v):=by
          by_cases h0:0<us.length
          ·obtain ⟨-,hr⟩:=id hrow.out
           rcases hr with ⟨e,h1⟩ | ⟨g,cap,cur,e,h1,h2,-,-,-,h3⟩
           ·rw [usV_len _ _ (by omega)] at h1;omega
           ·injection e with e1 _ _
            refine ⟨g,by omega,lt_of_heap h2,fun _=>⟨e1,cur,h2,fun j v hj=>?_⟩⟩
            rw [← h3,List.getElem?_take] at hj
            split at hj
            ·simpa using hj
            ·cases hj
          ·exact ⟨N+2,Nat.le_refl _,by omega,fun q=>absurd q h0⟩
         have hA8:us.length=0→A8=none∨True:=fun _=>.inr trivial
         have hvt:Bv≠Bh:=hvh
         refine ⟨{ n₀:=B0,f:=f,vp:=.slice Ap f.params.length cp,vs:=.slice As f.slots.length cs,vb:=.slice (some ⟨bb,ob,none⟩) f.blocks.length cb,ch:=.iface T p,Bf:=bf,cf:=c,Am:=A8,Bm:=Bm,cm:=c8,us:=us,Bs:=N+2,Bv:=Bv,Bh:=Bh },rfl,rfl,rfl,by show N+2=_;omega,?_,?_,hBm2⟩
         ·exact {
             st:=by
               have h1:=hss.out.st
               have e1:(Rn.start f i).vals.length=n:=by
                 have:=HAN.out
                 have:=HNC.out
                 unfold Rn.start;simp;omega
               rw [e1]
               show wr.heap[N+2]?=_
               rw [h1]
               unfold sRow stRow Cfg.first Cfg.mv
               dsimp only
               rw [hus];rfl
             vals:=hv.out
             had:=hh.out
             hlen:=by unfold Rn.start;simp
             mem:=⟨by show i.mem.length=us.length;omega,fun j b cp' l' h1 h2=>by
               obtain ⟨r1,r2,r3,r4⟩:=hmu.out.row j b cp' l' h1 h2
               exact ⟨r2,r3,r4⟩⟩
             slots:=⟨by show us.length≤c8;omega,hnm.2,fun hm0=>by
               obtain ⟨q1,cur,q2,q3⟩:=hBm3 hm0
               refine ⟨q1,cur,q2,fun j b cp' z h1 h2=>q3 j _ ?_⟩
               have hz:i.mem[j]?.map (fun r=>(r.length:Int))=some z:=by rw [← List.getElem?_map,HMLL.out];exact h2
               obtain ⟨l',hl',hz'⟩:=Option.map_eq_some_iff.1 hz
               unfold usV
               rw [List.getElem?_zipWith,h1,hl',← hz']
               rfl⟩
             fn:=HFN.out.below (Below.mono hss.out.gr (by omega))
             first:=⟨hcfc.1,hcfc.2,curf,hcurf,fun j hj=>by
               have hj':j<f.blocks.length:=hj
               have h1:=hcf j (by omega)
               rw [cell_of_row _ _ j _ _ _ hcurf] at h1
               rw [h1]
               unfold frL
               rw [List.getElem?_map,List.getElem?_range hj'];rfl⟩
             old:=⟨by show B0≤N+2;omega,by show B0≤Bv;omega,by show B0≤Bh;omega,by show B0≤bf;omega,by show B0≤Bm;omega,fun j b cp' h1=>by
               have hm1:=List.mem_of_getElem? h1
               have hj:=(List.getElem?_eq_some_iff.1 h1).1
               obtain ⟨l',hl'⟩:∃ l',i.mem[j]?=some l':=⟨_,List.getElem?_eq_getElem (by have:us.length=i.mem.length:=hus;have hj':j<us.length:=hj;omega)⟩
               have r1:=(hmu.out.row j b cp' l' h1 hl').1
               refine ⟨by show B0≤b;omega,fun e=>?_⟩
               have e':b=bf:=e
               exact hmu.out.off (b,cp') hm1 (by rw [e'];rfl)⟩
             apart:=hmu.out.apart }
         ·intro q hq
          rcases hq with (e | e | e | ⟨j,cp',h1⟩) | e | e
          ·have e':q=N+2:=e
           omega
          ·have e':q=Bv:=e
           omega
          ·have e':q=Bh:=e
           omega
          ·have hj:=(List.getElem?_eq_some_iff.1 h1).1
           obtain ⟨l',hl'⟩:∃ l',i.mem[j]?=some l':=⟨_,List.getElem?_eq_getElem (by have:us.length=i.mem.length:=hus;have hj':j<us.length:=hj;omega)⟩
           have r1:=(hmu.out.row j q cp' l' h1 hl').1
           omega
          ·have e':q=bf:=e
           omega
          ·have e':q=Bm:=e
           omega
        obtain ⟨c9,e1,e2,e3,e4,e5,e6,e7⟩:=hend
        have HENDF:=Lib.hid (And.intro e5 (And.intro hss.out.gr (And.intro e6 e7)))
        have HE4:=Lib.hid e4
        clear e5 e6 e7 hss hown hv hh hmu hrow hlt hk
        go_wp2
        go_ret
        exact ⟨c9,e1,e2,e3,by (show _=Ending.returned (.pointer (some ⟨c9.Bs,0,none⟩)));rw [HE4.out];rfl,HENDF.out.1,HENDF.out.2.1,HENDF.out.2.2.1,HENDF.out.2.2.2⟩
end Go.Proofs.YthfhamagopbgcaaGreat
namespace Go.Proofs.YthfhamagopbgcaaGreat
set_option linter.unusedSimpArgs false
set_option linter.unusedVariables false
open Go.RowKit

theorem vi1_any (b:Int) (w:World):Calls Tryz.prog 41 #[.int .i64 b] w fun e w'=>e=.returned (.bool (decide (b < -1) || decide (255<b)))∧w'=w:=by
 by_cases h1:b < -1
 ·go_enter Tryz.func41, Tryz.ntmps41
  go_wp2
  go_ret
  exact ⟨ret_bool (by simp [h1]),rfl⟩
 ·by_cases h2:255<b
  all_goals
   go_enter Tryz.func41, Tryz.ntmps41
   go_wp2
   go_ret
   exact ⟨ret_bool (by simp [h1,h2]),rfl⟩
theorem vc_any {B:Nat} {w:World} {v:Value} {zs:List Int} (hv:IntsAt B w v zs):Calls Tryz.prog 40 #[v,.func (.func 41) #[] #[]] w fun e w'=>e=.returned (.bool (zs.any fun b=>decide (b < -1) || decide (255<b)))∧Gr w w':=by
 obtain ⟨A,c,rfl,h1,h2,h3⟩:=hv
 rcases Nat.eq_zero_or_pos zs.length with h0 | hpos
 ·obtain rfl:=List.eq_nil_of_length_eq_zero h0
  exact (Tryz.slices_ContainsFunc_empty_f40 (α:=Int) A c _ w).mono fun e w' h=>⟨h.1,by rw [h.2];exact Gr.refl _⟩
 ·obtain ⟨b,o,rfl,hb,h4⟩:=h3 hpos
  refine (Tryz.slices_ContainsFunc_f40 (fun z:Int=>Value.int .i64 z) (fun b=>decide (b < -1) || decide (255<b)) 41 #[] (fun args w=>by kernel_rfl) b o zs.length c zs w (fun W x _=>(vi1_any x W).mono fun e w' h=>⟨h.1,0,by rw [h.2];rfl⟩) (Nat.le_refl _) (by omega) (fun j hj=>by
    rw [getElem!_pos zs j hj];exact h4 j _ (List.getElem?_eq_getElem hj))).mono ?_
  rintro e w' ⟨rfl,q,rfl⟩
  rw [List.take_length]
  exact ⟨rfl,(Gr.refl w).drewN q⟩
namespace Rn
theorem zip_any_at {α β:Type} {l:List α} {m:List β} {p:α × β→Bool} {j:Nat} {a:α} {b:β} (h1:l[j]?=some a) (h2:m[j]?=some b) (hp:p (a,b)=true):(l.zip m).any p=true:=by
 rw [List.any_eq_true]
 exact ⟨(a,b),List.mem_of_getElem? (List.getElem?_zip_eq_some.2 ⟨h1,h2⟩),hp⟩
theorem zip_any_none {α β:Type} {l:List α} {m:List β} {p:α × β→Bool} (h:∀ (j:Nat) (a:α) (b:β),l[j]?=some a→m[j]?=some b→p (a,b)=false):(l.zip m).any p=false:=by
 rw [List.any_eq_false]
 rintro ⟨a,b⟩ hm
 obtain ⟨j,hj⟩:=List.getElem?_of_mem hm
 obtain ⟨h1,h2⟩:=List.getElem?_zip_eq_some.1 hj
 rw [h j a b h1 h2];exact Bool.false_ne_true
end Rn
set_option maxRecDepth 100000 in
set_option maxHeartbeats 4000000 in
theorem vinput_any {w:World} {f:Fn} {vf:Value} (hfn:FnAt w.heap.size w vf f) (hnice:Nice f) {i:Rn.Inp} {va vm:Value} (ha:U32At w.heap.size w va i.args) (hm:TabAt w.heap.size w vm i.mem) :
  Calls Tryz.prog 13 #[vf,.agg #[va,vm]] w fun e w'=>e=.returned (.int .i64 (Rn.validInput f i))∧Gr w w':=by
 obtain ⟨vp,vs,vb,rfl,hp,hs,hb⟩:=hfn
 obtain ⟨W,hW⟩:∃ W,(w.alloc (.cells #[vp,.int .i64 f.ret,vs,vb] 25)).alloc (.cells #[va,vm] 29)=W:=⟨_,rfl⟩
 have g0:Gr w W:=by rw [← hW];exact ((Gr.refl w).alloc _).alloc _
 have hs1:(w.alloc (.cells #[vp,.int .i64 f.ret,vs,vb] 25)).heap.size=w.heap.size+1:=by simp
 have hfb:W.heap[w.heap.size]?=some (.cells #[vp,.int .i64 f.ret,vs,vb] 25 (0,0)):=by
  rw [← hW]
  exact (((Gr.refl (w.alloc (.cells #[vp,.int .i64 f.ret,vs,vb] 25))).alloc _).heap _ (by simp)).trans (heap_alloc_new w _)
 have hib:W.heap[w.heap.size+1]?=some (.cells #[va,vm] 29 (0,0)):=by rw [← hW,← hs1];exact heap_alloc_new _ _
 have CV:=Lib.hid (ival_nice (.agg #[vp,.int .i64 f.ret,vs,vb]) f W ⟨vp,vs,vb,rfl,(hp.below g0).mono g0.size,(hs.below g0).mono g0.size,(hb.below g0).mono g0.size⟩ hnice)
 have HF:Hid (∀ wr,Gr W wr→wr.heap[w.heap.size]?=some (.cells #[vp,.int .i64 f.ret,vs,vb] 25 (0,0))∧wr.heap[w.heap.size+1]?=some (.cells #[va,vm] 29 (0,0))):=fun wr g=>⟨(g.heap _ (lt_of_heap hfb)).trans hfb,(g.heap _ (lt_of_heap hib)).trans hib⟩
 obtain ⟨Ap,cp,rfl,p1,p2,p3⟩:=hp
 obtain ⟨As,cs,rfl,s1,s2,s3⟩:=hs
 obtain ⟨Ab,cb,rfl,-,-,-⟩:=id hb
 obtain ⟨Aa,ca,rfl,a1,a2,a3⟩:=ha
 obtain ⟨Am,cm,rfl,m1,m2,m3⟩:=hm
 have HPC:Hid (∀ wr,Gr W wr→∀ j z,f.params[j]?=some z→∃ b o,Ap=some ⟨b,o,none⟩∧wr.cell? ⟨b,o+j,none⟩=some (.int .i64 z)):=fun wr g j z hz=>by
  obtain ⟨b,o,e,hb,h4⟩:=p3 (by have:=(List.getElem?_eq_some_iff.1 hz).1;omega)
  exact ⟨b,o,e,((g0.trans g).cell _ _ (by omega)).trans (h4 j z hz)⟩
 have HSC:Hid (∀ wr,Gr W wr→∀ j z,f.slots[j]?=some z→∃ b o,As=some ⟨b,o,none⟩∧wr.cell? ⟨b,o+j,none⟩=some (.int .i64 z)):=fun wr g j z hz=>by
  obtain ⟨b,o,e,hb,h4⟩:=s3 (by have:=(List.getElem?_eq_some_iff.1 hz).1;omega)
  exact ⟨b,o,e,((g0.trans g).cell _ _ (by omega)).trans (h4 j z hz)⟩
 have HAC:Hid (∀ wr,Gr W wr→∀ j z,i.args[j]?=some z→∃ b o,Aa=some ⟨b,o,none⟩∧wr.cell? ⟨b,o+j,none⟩=some (.int .u32 z)):=fun wr g j z hz=>by
  obtain ⟨b,o,e,hb,h4⟩:=a3 (by have:=(List.getElem?_eq_some_iff.1 hz).1;omega)
  exact ⟨b,o,e,((g0.trans g).cell _ _ (by omega)).trans (h4 j z hz)⟩
 have HMC:Hid (∀ wr,Gr W wr→∀ j l,i.mem[j]?=some l→∃ b o Al cl,Am=some ⟨b,o,none⟩∧wr.cell? ⟨b,o+j,none⟩=some (.slice Al l.length cl)∧l.length≤17592186044416∧Calls Tryz.prog 40 #[.slice Al l.length cl,.func (.func 41) #[] #[]] wr fun e w'=>e=.returned (.bool (l.any fun b=>decide (b < -1) || decide (255<b)))∧Gr wr w'):=fun wr g j l hl=>by
  obtain ⟨b,o,e,hb,h4⟩:=m3 (by have:=(List.getElem?_eq_some_iff.1 hl).1;omega)
  obtain ⟨u,hu,hui⟩:=h4 j l hl
  have hui':=hui
  obtain ⟨Al,cl,rfl,-,h6,-⟩:=hui'
  exact ⟨b,o,Al,cl,e,((g0.trans g).cell _ _ (by omega)).trans hu,h6,vc_any (hui.below (g0.trans g))⟩
 have HG0:=Lib.hid g0
 obtain ⟨R,hR⟩:∃ R,Rn.validInput f i=R:=⟨_,rfl⟩
 rw [hR]
 unfold Rn.validInput at hR
 have HR:=Lib.hid hR
 obtain ⟨V,hV⟩:∃ V,Ref.validate f=V:=⟨_,rfl⟩
 rw [hV] at CV HR
 have HV:=Lib.hid hV
 have hc0:∀ wr,Gr W wr→wr.cell? ⟨w.heap.size,0,none⟩=some (.slice Ap f.params.length cp)∧wr.cell? ⟨w.heap.size,1,none⟩=some (.int .i64 f.ret)∧wr.cell? ⟨w.heap.size,2,none⟩=some (.slice As f.slots.length cs)∧wr.cell? ⟨w.heap.size,3,none⟩=some (.slice Ab f.blocks.length cb)∧wr.cell? ⟨w.heap.size+1,0,none⟩=some (.slice Aa i.args.length ca)∧wr.cell? ⟨w.heap.size+1,1,none⟩=some (.slice Am i.mem.length cm):=fun wr g=>by
  obtain ⟨q1,q2⟩:=HF.out wr g
  exact ⟨cell_of_row _ _ 0 _ _ _ q1,cell_of_row _ _ 1 _ _ _ q1,cell_of_row _ _ 2 _ _ _ q1,cell_of_row _ _ 3 _ _ _ q1,cell_of_row _ _ 0 _ _ _ q2,cell_of_row _ _ 1 _ _ _ q2⟩
 have HC:=Lib.hid hc0
 obtain ⟨k0,k1,k2,k3,k4,k5⟩:=hc0 W (Gr.refl _)
 clear g0 hfb hib p3 s3 a3 m3 hR hV hc0 hs1 hb
 by_cases hv0:V=0
 ·subst hv0
  have HW:Hid (∀ j z,f.params[j]?=some z→Wd.Wid z):=fun j z hz=>by
   have hv:Ref.Val f:=(Ref.val_iff f).1 HV.out
   exact Rn.wid_of (List.all_eq_true.1 hv.head.1 z (List.mem_of_getElem? hz))
  by_cases hla:i.args.length=f.params.length
  ·by_cases hlm:i.mem.length=f.slots.length
   ·have HR2:Hid ((if (f.params.zip i.args).any (fun q=>decide (Wd.sz q.1≤q.2))=true then 1 else if (f.slots.zip i.mem).any (fun q=>decide ((q.2.length:Int)≠q.1) || q.2.any (fun b=>decide (b < -1) || decide (255<b)))=true then 1 else 0)=R):=by
     have:=HR.out
     rw [if_neg (by decide),if_neg (by omega)] at this
     exact this
    obtain ⟨n,hn⟩:∃ n,f.params.length=n:=⟨_,rfl⟩
    obtain ⟨m,hm⟩:∃ m,f.slots.length=m:=⟨_,rfl⟩
    rw [hn] at hla p1 p2 k0
    rw [hm] at hlm s1 s2 k2
    rw [hla] at a1 a2 k4
    rw [hlm] at m1 m2 k5
    have HC2:Hid (∀ wr,Gr W wr→wr.cell? ⟨w.heap.size,0,none⟩=some (.slice Ap n cp)∧wr.cell? ⟨w.heap.size,2,none⟩=some (.slice As m cs)∧wr.cell? ⟨w.heap.size+1,0,none⟩=some (.slice Aa n ca)∧wr.cell? ⟨w.heap.size+1,1,none⟩=some (.slice Am m cm)):=fun wr g=>by
     obtain ⟨q0,q1,q2,q3,q4,q5⟩:=HC.out wr g
     rw [hn] at q0
     rw [hm] at q2
     rw [hla] at q4
     rw [hlm] at q5
     exact ⟨q0,q2,q4,q5⟩
    have HN1:=Lib.hid hn
    have HN2:=Lib.hid hm
    have HN3:=Lib.hid hla
    have HN4:=Lib.hid hlm
    rw [hn,hm,hla,hlm] at hW
    rw [hn,hm] at CV
    rw [hn,hm,hla,hlm]
    clear hla hlm hn hm
    go_enter Tryz.func13, Tryz.ntmps13
    go_wp2_with (go_at_call 38;(with_reducible refine CV.out.mono ?_);rintro e w1 ⟨rfl,g1⟩;obtain ⟨j0,j2,j4,j5⟩:=HC2.out w1 g1;have HG1:=Lib.hid g1)
    have HNB:Hid (∀ k z x,f.params[k]?=some z→i.args[k]?=some x→Wd.sz z≤x→R=1):=fun k z x h1 h2 h3=>by
     rw [← HR2.out,if_pos (Rn.zip_any_at h1 h2 (by simpa using h3))]
    go_loop [36] (fun s36=>∃ k:Nat,k≤n∧s36=.int .i64 (k:Int)∧Hid (∀ j z x,j<k→f.params[j]?=some z→i.args[j]?=some x→x<Wd.sz z)) (fun s36=>n-(intOf s36).toNat)
    case atStart=>exact ⟨0,Nat.zero_le _,rfl,(fun j z x h=>absurd h (Nat.not_lt_zero _))⟩
    case round =>
     obtain ⟨k,hk,rfl,hok⟩:=hrel
     by_cases hlt:k<n
     ·obtain ⟨z,hz⟩:∃ z,f.params[k]?=some z:=⟨_,List.getElem?_eq_getElem (by have:=HN1.out;omega)⟩
      obtain ⟨x,hx⟩:∃ x,i.args[k]?=some x:=⟨_,List.getElem?_eq_getElem (by have:=HN3.out;omega)⟩
      obtain ⟨bp,op,rfl,cz⟩:=HPC.out w1 HG1.out k z hz
      obtain ⟨ba,oa,rfl,cx⟩:=HAC.out w1 HG1.out k x hx
      have CM:=Lib.hid (bMask_any z w1 (HW.out k z hz))
      have HNB2:=Lib.hid (HNB.out k z x hz hx)
      have HST:Hid (x<Wd.sz z→∀ j z x,j<k+1→f.params[j]?=some z→i.args[j]?=some x→x<Wd.sz z):=fun h j z' x' hj h1 h2=>by
       rcases Nat.lt_or_ge j k with q | q
       ·exact hok.out j z' x' q h1 h2
       ·obtain rfl:j=k:=by omega
        rw [hz] at h1
        rw [hx] at h2
        injection h1 with h1
        injection h2 with h2
        subst h1;subst h2
        exact h
      obtain ⟨s,hs⟩:∃ s,Wd.sz z=s:=⟨_,rfl⟩
      rw [hs] at CM HNB2 HST
      clear hz hx hs
      by_cases hbad:s≤x
      ·have HE:Hid (R=1):=HNB2.out hbad
       have hb2:s-1<x:=by omega
       go_wp2_with (go_at_call 39;(with_reducible refine CM.out.mono ?_);rintro e w2 ⟨rfl,rfl⟩)
       go_ret
       exact ⟨ret_int HE.out.symm,HG0.out.trans HG1.out⟩
      ·have hb2:¬ s-1<x:=by omega
       have HST2:=Lib.hid (HST.out (by omega))
       go_wp2_with (go_at_call 39;(with_reducible refine CM.out.mono ?_);rintro e w2 ⟨rfl,rfl⟩)
       go_round
       case rel=>exact ⟨k+1,by omega,by go_num,HST2⟩
       case measure=>simp [intOf];omega
     ·obtain rfl:n=k:=by omega
      have HR3:Hid ((if (f.slots.zip i.mem).any (fun q=>decide ((q.2.length:Int)≠q.1) || q.2.any (fun b=>decide (b < -1) || decide (255<b)))=true then 1 else 0)=R):=by
       show _=_
       have h:=HR2.out
       rw [Rn.zip_any_none (fun j a b h1 h2=>by
         have hj:=(List.getElem?_eq_some_iff.1 h1).1
         have:=hok.out j a b (by have:=HN1.out;omega) h1 h2
         simpa using this)] at h
       simpa using h
      clear hok hlt hk
      go_wp2
      go_loopw [57] (fun s57 wr=>∃ k:Nat,k≤m∧s57=.int .i64 (k:Int)∧Hid (Gr W wr)∧Hid (∀ j z l,j<k→f.slots[j]?=some z→i.mem[j]?=some l→(decide ((l.length:Int)≠z) || l.any (fun b=>decide (b < -1) || decide (255<b)))=false)) (fun s57 _=>m-(intOf s57).toNat)
      case atStart=>exact ⟨0,Nat.zero_le _,rfl,HG1,(fun j z x h=>absurd h (Nat.not_lt_zero _))⟩
      case round =>
       obtain ⟨k,hk,rfl,hg,hok⟩:=hrel
       obtain ⟨q0,q2,q4,q5⟩:=HC2.out wr hg.out
       by_cases hlt:k<m
       ·obtain ⟨z,hz⟩:∃ z,f.slots[k]?=some z:=⟨_,List.getElem?_eq_getElem (by have:=HN2.out;omega)⟩
        obtain ⟨l,hl⟩:∃ l,i.mem[k]?=some l:=⟨_,List.getElem?_eq_getElem (by have:=HN4.out;omega)⟩
        obtain ⟨bs,os,rfl,cz⟩:=HSC.out wr hg.out k z hz
        obtain ⟨bm,om,Al,cl,rfl,cx,hll,hcall⟩:=HMC.out wr hg.out k l hl
        have CC:=Lib.hid hcall
        have HBAD:Hid ((decide ((l.length:Int)≠z) || l.any (fun b=>decide (b < -1) || decide (255<b)))=true→R=1):=fun h=>by
         rw [← HR3.out,if_pos (Rn.zip_any_at hz hl h)]
        have HST:Hid ((decide ((l.length:Int)≠z) || l.any (fun b=>decide (b < -1) || decide (255<b)))=false→∀ j z l,j<k+1→f.slots[j]?=some z→i.mem[j]?=some l→(decide ((l.length:Int)≠z) || l.any (fun b=>decide (b < -1) || decide (255<b)))=false):=fun h j z' l' hj h1 h2=>by
         rcases Nat.lt_or_ge j k with q | q
         ·exact hok.out j z' l' q h1 h2
         ·obtain rfl:j=k:=by omega
          rw [hz] at h1
          rw [hl] at h2
          injection h1 with h1
          injection h2 with h2
          subst h1;subst h2
          exact h
        obtain ⟨bd,hbd⟩:∃ bd,l.any (fun b=>decide (b < -1) || decide (255<b))=bd:=⟨_,rfl⟩
        rw [hbd] at CC HBAD HST
        clear hz hl hcall hbd
        by_cases hle:(l.length:Int)=z
        ·have hle2:((l.length:Int) != z)=false:=by simp [hle]
         have HLE:=Lib.hid hle
         clear hle
         cases bd with
         | true =>
          have HE:Hid (R=1):=HBAD.out (by simp)
          go_wp2_with (go_at_call 40;(with_reducible refine CC.out.mono ?_);rintro e w2 ⟨rfl,g2⟩)
          go_ret
          exact ⟨ret_int HE.out.symm,HG0.out.trans (hg.out.trans g2)⟩
         | false =>
          have HST2:=Lib.hid (HST.out (by simp [HLE.out]))
          go_wp2_with (go_at_call 40;(with_reducible refine CC.out.mono ?_);rintro e w2 ⟨rfl,g2⟩;have G2:=Lib.hid (hg.out.trans g2))
          refine ⟨⟨k+1,by omega,by go_num,G2,HST2⟩,by simp [intOf];omega⟩
        ·have hle2:((l.length:Int) != z)=true:=by simpa using hle
         have HE:Hid (R=1):=HBAD.out (by simp [hle])
         clear hle
         go_wp2
         go_ret
         exact ⟨ret_int HE.out.symm,HG0.out.trans hg.out⟩
       ·obtain rfl:m=k:=by omega
        have HE:Hid (R=0):=by
         show _=_
         rw [← HR3.out,Rn.zip_any_none (fun j a b h1 h2=>by
           have hj:=(List.getElem?_eq_some_iff.1 h1).1
           exact hok.out j a b (by have:=HN2.out;omega) h1 h2)]
         rfl
        go_wp2
        go_ret
        exact ⟨ret_int HE.out.symm,HG0.out.trans hg.out⟩
   ·have HE:Hid (R=1):=by show _=_;rw [← HR.out,if_neg (by decide),if_pos (.inr hlm)]
    have hlm':¬ ((i.mem.length:Int)=(f.slots.length:Int)):=by omega
    have hla':(i.args.length:Int)=(f.params.length:Int):=by omega
    have hla2:((i.args.length:Int) != (f.params.length:Int))=false:=by simp [hla]
    have hlm2:((i.mem.length:Int) != (f.slots.length:Int))=true:=by simp;omega
    clear hla hla' hlm'
    go_enter Tryz.func13, Tryz.ntmps13
    go_wp2_with (go_at_call 38;(with_reducible refine CV.out.mono ?_);rintro e w1 ⟨rfl,g1⟩;obtain ⟨j0,j1,j2,j3,j4,j5⟩:=HC.out w1 g1;have HG1:=Lib.hid g1)
    go_ret
    exact ⟨ret_int HE.out.symm,HG0.out.trans HG1.out⟩
  ·have HE:Hid (R=1):=by show _=_;rw [← HR.out,if_neg (by decide),if_pos (.inl hla)]
   have hla':¬ ((i.args.length:Int)=(f.params.length:Int)):=by omega
   go_enter Tryz.func13, Tryz.ntmps13
   go_wp2_with (go_at_call 38;(with_reducible refine CV.out.mono ?_);rintro e w1 ⟨rfl,g1⟩;obtain ⟨j0,j1,j2,j3,j4,j5⟩:=HC.out w1 g1;have HG1:=Lib.hid g1)
   go_ret
   exact ⟨ret_int HE.out.symm,HG0.out.trans HG1.out⟩
 ·have HE:Hid (R=V):=by show _=_;rw [← HR.out,if_pos hv0]
  go_enter Tryz.func13, Tryz.ntmps13
  go_wp2_with (go_at_call 38;(with_reducible refine CV.out.mono ?_);rintro e w1 ⟨rfl,g1⟩)
  go_ret
  exact ⟨ret_int HE.out.symm,HG0.out.trans g1⟩
end Go.Proofs.YthfhamagopbgcaaGreat
