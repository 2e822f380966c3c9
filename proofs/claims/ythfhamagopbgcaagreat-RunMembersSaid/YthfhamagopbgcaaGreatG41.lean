/- The program's run: to its end. -/
import Derived.Test.YthfhamagopbgcaaGreatG40
import Derived.Test.YthfhamagopbgcaaGreatG32
import Derived.Deep.LoopGhost
import Derived.Shelf.RegionOpenPlain
namespace Go.Proofs.YthfhamagopbgcaaGreat
set_option linter.unusedSimpArgs false
set_option linter.unusedVariables false
open Go.RowKit

theorem step_app1x {P:Program} {w:World} {ops:Array Oper} {o:Oper} {a:Act} {K:Act→World→Prop} {Q:Exit→Act→World→Prop} {F:Prop} {B n:Nat} {t e:TypeId} {i:TypeInfo} {z:Value} {bytes:Nat}
  (ht:P.underlying t=some (.slice e)) (hi:P.info? e=some i) (hz:i.zero=some z) (hsize:i.size=1) (hby:i.bytes=bytes) (hzs:z.cells.size=1) (hbb:bytes≤128)
  (hgd:o.guard=none) (s x:Operand) (ho:o.op=.call { callee:=.builtin .append,args:=#[s,x],argTypes:=#[t,t] })
  {v:Value} {xs:List Value} (hn:xs.length=n) (hs:a.eval s=v) (hown:Own1 B e w v xs) {y:Value} {e':TypeId} (hy:y.oneCell'=true) (hx:a.eval x=.slice (some ⟨w.heap.size,0,none⟩) 1 1) (hlt:n<1099511627776) (hB:B≤w.heap.size)
  (h:∀ A c w',Own1 B e w' (.slice A (n+1) c) (xs++[y])→(w.alloc (.cells #[y] e')).grownBy w' v.ownBlock→(∀ k,(Value.slice A (n+1) c).ownBlock=some k→v.ownBlock=some k∨w.heap.size≤k)→K (a.put o.dst (.slice A (n+1) c)) w') :
  if Region.wanted o (yielded ops a.tmps)=true then Oper.wp P o a (w.alloc (.cells #[y] e')) K Q else F:=by
 have hw:Region.wanted o (yielded ops a.tmps)=true:=by simp [Region.wanted,hgd]
 rw [if_pos hw]
 subst hn
 refine wp_append_src s x t ho B e i z 1 bytes ht hi hz hsize hby hzs (by omega) v xs.length xs hs (own_gr hown ((Gr.refl _).alloc _)) _ 1 [y] hx (Src.new1 _ _ _) ?_ ?_ ?_ ?_ ?_
 ·intro u hu;simp at hu;subst hu;exact hy
 ·simp only [maxLen];omega
 ·have:(xs.length+1) * bytes≤(xs.length+1) * 128:=Nat.mul_le_mul_left _ hbb
  omega
 ·simp;omega
 ·intro v' w' hown' hg hat
  have hown'':Own1 B e w' v' (xs++[y]):=by unfold Own1;rw [List.length_append];exact hown'
  obtain ⟨A,c,hv⟩:=hown''.form
  rw [List.length_append] at hv
  subst hv
  refine h A c w' hown'' hg fun k hk=>?_
  rcases hat with q | q
  ·exact .inl (q ▸ hk)
  ·have q':(Value.slice A (xs.length+1) c).ownBlock=some (w.alloc (.cells #[y] e')).heap.size:=q
   rw [q'] at hk
   injection hk with hk
   right
   rw [← hk];simp
section
variable {c:Cfg} {W w2:World} {s:Rn.St} {b frm:Int} {vq v':Value} {pick:Rn.Pick} {fin:List Int} {ch:Chooser c pick fin} {O':Nat→Prop} {B:Nat} {xs:List Value} {tmp:Obj}
theorem PS.kept_lt (h:PS c W s b frm vq) (hBm:c.Bm<W.heap.size) {k:Nat} (hk:Kept c k):k<W.heap.size:=by
 rcases hk with hk | rfl | rfl
 ·exact h.mut_lt hk
 ·obtain ⟨-,-,cur,q,-⟩:=h.first
  exact lt_of_heap q
 ·exact hBm
/-- The trace's row grows. -/
theorem PS.pushT (h:PS c W s b frm vq) (hBm:c.Bm<W.heap.size) (hA:ch.At W s.widths O') (ho:Own1 B 3 W vq xs) (hn:∀ k,vq.ownBlock=some k→¬ O' k∧¬ Kept c k∧c.n₀≤k)
  (hg:(W.alloc tmp).grownBy w2 vq.ownBlock) {y:Value} (ho2:Own1 B 3 w2 v' (xs++[y])) (hat:∀ k,v'.ownBlock=some k→vq.ownBlock=some k∨W.heap.size≤k) :
  w2.heap[c.Bs]?=some (.cells (stRow c s.vals.length b frm s.steps vq) 100 (0,0))∧PS c (w2.setCell ⟨c.Bs,12,none⟩ v') s b frm v'∧ch.At (w2.setCell ⟨c.Bs,12,none⟩ v') s.widths O'∧Own1 B 3 (w2.setCell ⟨c.Bs,12,none⟩ v') v' (xs++[y]) ∧
   FrS (fun k=>k=c.Bs∨vq.ownBlock=some k) W (w2.setCell ⟨c.Bs,12,none⟩ v')∧∀ k,v'.ownBlock=some k→¬ O' k∧¬ Kept c k∧c.n₀≤k:=by
 have hF2:FrS (fun k=>vq.ownBlock=some k) W w2:=((FrS.refl _ W).alloc tmp).grown hg (fun k hk=>.inl hk)
 have hp2:=h.away (fun k hk=>⟨(hn k hk).2.2,(hn k hk).2.1⟩) hF2
 have hA2:=ch.keep hA hF2 (fun k hk=>⟨(hn k hk).2.2,(hn k hk).1⟩)
 have hF3:FrS (·=c.Bs) w2 (w2.setCell ⟨c.Bs,12,none⟩ v'):=(FrS.refl (·=c.Bs) w2).setCell (p:=⟨c.Bs,12,none⟩) rfl _
 have hn':∀ k,v'.ownBlock=some k→¬ O' k∧¬ Kept c k∧c.n₀≤k:=fun k hk=>by
  rcases hat k hk with q | q
  ·exact hn k q
  ·exact ⟨fun o=>by have:=(ch.apart hA k o).2.1;omega,fun o=>by have:=h.kept_lt hBm o;omega,by have:=h.n₀;omega⟩
 refine ⟨hp2.st,hp2.stSet (s':=s) rfl rfl rfl hF3 (heap_setCell_at (i:=12) v' hp2.st),ch.keep hA2 hF3 (fun k hk=>⟨by rw [hk];exact h.old.1,fun o=>by have:=(ch.apart hA k o).2.2;exact this (.inl (.inl hk))⟩),?_,?_,hn'⟩
 ·exact own_same ho2 fun k hk=>RowKit.Below.heap_setCell _ _ _ _ (fun e=>(hn' k hk).2.1 (.inl (.inl e)))
 ·exact (hF2.mono fun k hk=>.inr hk).trans (hF3.mono fun k hk=>.inl hk)
end
theorem FrS.weaken {S S':Nat→Prop} {w w':World} (h:FrS S w w') (hs:∀ k,k<w.heap.size→S k→S' k):FrS S' w w':=⟨h.os,h.tape,h.output,h.size,fun k hk hn=>h.block k hk fun q=>hn (hs k hk q)⟩
theorem own_mono {B B':Nat} {e:TypeId} {w:World} {v:Value} {xs:List Value} (h:Own1 B e w v xs) (hB:B'≤B):Own1 B' e w v xs:=by
 obtain ⟨h1,h2⟩:=h
 refine ⟨h1,?_⟩
 rcases h2 with h2 | ⟨k,cap,cur,hv,hb,r⟩
 ·exact .inl h2
 ·exact .inr ⟨k,cap,cur,hv,by omega,r⟩
theorem from_over {f:Fn} {pick:Rn.Pick} {k b:Nat} {frm:Int} {s s':Rn.St} {o:Rn.Out} (h:Rn.block f pick b frm s=(.over o,s')):Rn.from_ f pick (k+1) b frm s=(o,s',[(b:Int)]):=by rw [Rn.from_,h]
theorem from_run {f:Fn} {pick:Rn.Pick} {k b t:Nat} {frm:Int} {s s':Rn.St} (h:Rn.block f pick b frm s=(.run (t:Int),s')):Rn.from_ f pick (k+1) b frm s=((Rn.from_ f pick k t b s').1,(Rn.from_ f pick k t b s').2.1,(b:Int)::(Rn.from_ f pick k t b s').2.2):=by rw [Rn.from_,h];rfl
/-- What may turn behind a world of n blocks. -/
def Gs (c:Cfg) (O:Nat→Prop) (n k:Nat):Prop:=Mut c k∨O k∨n≤k
/-- What a run leaves: where its state and its trace are. -/
def RunP {c:Cfg} {pick:Rn.Pick} {fin:List Int} (ch:Chooser c pick fin) (O:Nat→Prop) (w:World) (B:Nat) (r:Rn.Out × Rn.St × List Int) (e:Ending) (w':World):Prop :=
 e=.returned (.agg (outRow c r.1))∧∃ (b frm:Int) (vq:Value) (O':Nat→Prop),PS c w' r.2.1 b frm vq∧ch.At w' r.2.1.widths O'∧Own1 B 3 w' vq (r.2.2.map (Value.int .i64))∧FrS (fun k=>Mut c k∨O k) w w'∧∀ k,O' k→O k∨w.heap.size≤k
def joined (T:List Int) (r:Rn.Out × Rn.St × List Int):Rn.Out × Rn.St × List Int:=(r.1,r.2.1,T++r.2.2)
set_option maxRecDepth 100000 in
set_option maxHeartbeats 4000000 in
theorem routcome_any {c:Cfg} {w:World} {s:Rn.St} {b:Nat} {frm:Int} (h:PS c w s (b:Int) frm (.slice none 0 0)) (hBm:c.Bm<w.heap.size) (hf:VFn c.f) (hRA:Ref.RcAll) {l:List Ins} (hl:c.f.blocks[b]?=some l) (he:Rn.Ent c.f b frm l s)
  {pick:Rn.Pick} {fin:List Int} (hpk:Rn.PickOk pick) (ch:Chooser c pick fin) {O:Nat→Prop} (hA:ch.At w s.widths O) (hst:s.steps≤400) (hfin:(Rn.from_ c.f pick 401 b frm s).2.1.widths <+: fin) :
  Calls Tryz.prog 48 #[.pointer (some ⟨c.Bs,0,none⟩)] w (RunP ch O w w.heap.size (Rn.from_ c.f pick 401 b frm s)):=by
 obtain ⟨i0,hi,hz0,hz1,hz2⟩:=info_parts info_int
 obtain ⟨R,hR⟩:∃ R,Rn.from_ c.f pick 401 b frm s=R:=⟨_,rfl⟩
 obtain ⟨W,hW⟩:∃ W,w.alloc (.cells #[.int .i64 0,.bool false,.int .i64 0,.int .u32 0,.slice none 0 0] 39)=W:=⟨_,rfl⟩
 have g0:Gr w W:=by rw [← hW];exact (Gr.refl w).alloc _
 have hWs:W.heap.size=w.heap.size+1:=by rw [← hW];simp
 have hres:W.heap[w.heap.size]?=some (.cells #[.int .i64 0,.bool false,.int .i64 0,.int .u32 0,.slice none 0 0] 39 (0,0)):=by rw [← hW];exact heap_alloc_new _ _
 have HFIN:Hid (R.2.1.widths <+: fin):=by show _ <+: _;rw [← hR];exact hfin
 have HP:=Lib.hid (h.gr g0)
 have HA:Hid (ch.At W s.widths O):=ch.keep hA (FrS.of_gr (S:=fun _=>False) g0) (fun k hk=>hk.elim)
 have HA0:=Lib.hid hA
 have HH:=Lib.hid h
 have HRES:=Lib.hid hres
 have HR0:Hid (joined [] (Rn.from_ c.f pick 401 b frm s)=R):=by show _=_;rw [← hR];rfl
 have HF:=Lib.hid hf
 have HE:=Lib.hid he
 have HL:=Lib.hid hl
 have HB:=Lib.hid hBm
 have HG0:=Lib.hid g0
 have HN:Hid (c.n₀≤w.heap.size):=h.n₀
 rw [hR]
 clear h hA he hl hfin hf hBm hres hR g0
 go_enter Tryz.func48, Tryz.ntmps48
 go_wp2
 go_loopg [] 401 (fun kx wr=>∃ (bq:Nat) (fq:Int) (sq:Rn.St) (vq:Value) (T:List Int) (lq:List Ins) (O':Nat→Prop),Hid (PS c wr sq (bq:Int) fq vq)∧Hid (ch.At wr sq.widths O')∧Hid (FrS (Gs c O W.heap.size) W wr∧∀ k,O' k→O k∨W.heap.size≤k) ∧
   Hid (Own1 W.heap.size 3 wr vq (T.map (Value.int .i64)))∧Hid (∀ k,vq.ownBlock=some k→¬ O' k∧¬ Kept c k∧c.n₀≤k)∧Hid (c.f.blocks[bq]?=some lq)∧Hid (Rn.Ent c.f bq fq lq sq)∧sq.steps≤400∧401≤sq.steps+kx∧T.length+kx≤401 ∧
   Hid (joined T (Rn.from_ c.f pick kx bq fq sq)=R))
 case atStart=>exact ⟨b,frm,s,.slice none 0 0,[],l,O,HP,HA,⟨FrS.refl _ _,fun k hk=>.inl hk⟩,Own1.nil _ _ _,(fun k hk=>by cases hk),HL,HE,hst,by omega,by simp,HR0⟩
 case round =>
  obtain ⟨bq,fq,sq,vq,T,lq,O',hp,ha,hfr,hown,hno,hlq,hent,hst1,hst2,hT,hrun⟩:=hrel
  obtain ⟨k,rfl⟩:∃ k,gk=k+1:=⟨gk-1,by omega⟩
  obtain ⟨Av,cv,hv⟩:=hown.out.form
  rw [List.length_map] at hv
  subst hv
  have c12:wr.cell? ⟨c.Bs,12,none⟩=some (.slice Av T.length cv):=hp.out.cell 12
  have c9:wr.cell? ⟨c.Bs,9,none⟩=some (.int .i64 (bq:Int)):=hp.out.cell 9
  have f12:wr.frozen? ⟨c.Bs,12,none⟩=false:=frozen_of_row _ _ 12 _ _ hp.out.st
  have hp1:=hp.out.gr ((Gr.refl wr).drew)
  have P12:∀ o,(wr.alloc o).cell? ⟨c.Bs,12,none⟩=some (.slice Av T.length cv):=fun o=>(hp.out.gr ((Gr.refl _).alloc o)).cell 12
  have mixed:(Tryz.prog).follows .mixedOrders=true:=by kernel_rfl
  have hA1:Hid (ch.At wr.drew sq.widths O'):=ch.keep ha.out (FrS.of_gr (S:=fun _=>False) ((Gr.refl wr).drew)) (fun k hk=>hk.elim)
  have HP1:=Lib.hid hp1
  have HO1:Hid (Own1 W.heap.size 3 wr.drew (.slice Av T.length cv) (T.map (Value.int .i64))):=hown.out.gr ((Gr.refl wr).drew)
  have hWr:W.heap.size≤wr.heap.size:=hfr.out.1.size
  have HBw:Hid (c.Bm<wr.drew.heap.size):=by show _<wr.heap.size;have:=HB.out;omega
  have hTl:T.length<1000:=by omega
  clear hp1
  go_wp2
  go_region_law_o ((refine step_app1x (n:=T.length) (v:=.slice Av T.length cv) Tryz.underlying22 hi hz0 hz1 hz2 rfl (by omega) rfl (.tmp 9) (.tmp 14) rfl (List.length_map _) rfl HO1.out rfl rfl (by omega) (by show _≤wr.heap.size;omega) ?_;intro A2 c2 w2 ho2 hg2 hat2;have HPT:=Lib.hid (HP1.out.pushT HBw.out hA1.out HO1.out hno.out hg2 ho2 hat2);have hx0:w2.cell? ⟨c.Bs,12,none⟩=some (.slice Av T.length cv):=(cell_of_row _ _ 12 _ _ _ HPT.out.1);have y0:w2.frozen? ⟨c.Bs,12,none⟩=false:=(frozen_of_row _ _ 12 _ _ HPT.out.1);clear ho2 hg2 hat2))
  all_goals
   obtain ⟨W3,hW3⟩:∃ W3,w2.setCell ⟨c.Bs,12,none⟩ (.slice A2 (T.length+1) c2)=W3:=⟨_,rfl⟩
   have HQ:=HPT.out
   rw [hW3] at HQ
   rw [hW3]
   obtain ⟨-,hp3,ha3,ho3,hf3,hn3⟩:=HQ
   clear hW3 HPT hx0 y0 P12 c12 c9 f12
   have hk3:∀ k,(Value.slice A2 (T.length+1) c2).ownBlock=some k→W.heap.size≤k:=fun k hk=>(own_row ho3 hk).1
   have hFW3:FrS (Gs c O W.heap.size) W W3:=(hfr.out.1.trans (FrS.of_gr (Gr.refl wr).drew)).trans (hf3.mono fun k hk=>hk.elim (fun e=>.inl (.inl e)) (fun e=>.inr (.inr (own_row hown.out e).1)))
   have hOG:∀ k,O' k→Gs c O W.heap.size k:=fun k hk=>(hfr.out.2 k hk).elim (fun q=>.inr (.inl q)) (fun q=>.inr (.inr q))
   have hON:∀ k,O k→k<w.heap.size:=fun k hk=>(ch.apart HA0.out k hk).2.1
   have hKN:∀ k,Kept c k→k<w.heap.size:=fun k hk=>HH.out.kept_lt HB.out hk
   have hres3:W3.heap[w.heap.size]?=some (.cells #[.int .i64 0,.bool false,.int .i64 0,.int .u32 0,.slice none 0 0] 39 (0,0)):=by
    refine (hFW3.block _ (by omega) ?_).trans HRES.out
    rintro (q | q | q)
    ·have:=hKN _ (.inl q);omega
    ·have:=hON _ q;omega
    ·omega
   obtain ⟨vp',vs',vb',e,-,-,hbs⟩:=hp3.fn
   injection e with e
   injection e with e
   injection e with _ e
   injection e with _ e
   injection e with _ e
   injection e with e2 _
   have hbq:bq<c.f.blocks.length:=(List.getElem?_eq_some_iff.1 hlq.out).1
   obtain ⟨Ab,cb,rfl,b1,b2,b3⟩:=hbs
   obtain ⟨bb,ob,rfl,hbb,b4⟩:=b3 (by omega)
   obtain ⟨u,hu,hblk⟩:=b4 bq lq hlq.out
   have hblk':=hblk
   obtain ⟨Al,cl,rfl,-,-,-⟩:=hblk'
   have c3:W3.cell? ⟨c.Bs,3,none⟩=some (.slice (some ⟨bb,ob,none⟩) c.f.blocks.length cb):=by have:W3.cell? ⟨c.Bs,3,none⟩=some c.vb:=hp3.cell 3;rw [this,e2]
   have c9':W3.cell? ⟨c.Bs,9,none⟩=some (.int .i64 (bq:Int)):=hp3.cell 9
   have hpre:(Rn.block c.f pick bq fq sq).2.widths <+: fin:=by
    refine List.IsPrefix.trans ?_ HFIN.out
    rw [← hrun.out]
    show _ <+: (Rn.from_ c.f pick (k+1) bq fq sq).2.1.widths
    rw [Rn.from_]
    cases hq:Rn.block c.f pick bq fq sq with
    | mk r s2=>cases r with
     | over o=>exact List.prefix_refl _
     | run t=>exact Rn.from_prefix c.f pick k t.toNat bq s2
   have CT:Hid (∀ w4,Gr W3 w4→Calls Tryz.prog 86 #[.pointer (some ⟨c.Bs,0,none⟩),.slice Al lq.length cl] w4 (ThruP ch O' w4 (bq:Int) fq (.slice A2 (T.length+1) c2) (Rn.block c.f pick bq fq sq))):=fun w4 g =>
    rthrough_any (hp3.gr g) HF.out hlq.out (hblk.below (Below.mono g hp3.n₀)) hent.out hpk ch (ch.keep ha3 (FrS.of_gr (S:=fun _=>False) g) (fun k hk=>hk.elim)) hpre hst1
   have hbok:=Rn.block_ok hRA HF.out.val HF.out.im hpk hent.out hlq.out
   have hbst:=Rn.block_steps c.f pick bq fq sq hst1
   have hO3:∀ k,O' k→k<W3.heap.size:=fun k hk=>(ch.apart ha3 k hk).2.1
   have hsz3:=hFW3.size
   cases hq:Rn.block c.f pick bq fq sq with
   | mk r s2 =>
    rw [hq] at CT hbok hbst
    cases r with
    | over o =>
     have HRE:Hid (R=(o,s2,T++[(bq:Int)])):=by (show _=_);rw [← hrun.out,from_over hq];rfl
     obtain ⟨A,n,cp,hM⟩:∃ A n cp,(if o.kind=0 then c.mv else Value.slice none 0 0)=.slice A n cp:=by
      split
      ·exact ⟨_,_,_,rfl⟩
      ·exact ⟨_,_,_,rfl⟩
     have HM:=Lib.hid hM
     have hout:outRow c o=#[.int .i64 o.kind,.bool o.ret.p,.int .i64 o.ret.s,.int .u32 o.ret.n,.slice A n cp]:=by unfold outRow;rw [hM]
     have HOUT:=Lib.hid hout
     have HEND:Hid (∀ w5,Left ch W3.drew O' s2 (bq:Int) fq (.slice A2 (T.length+1) c2) w5→(w5.heap[w.heap.size]?=some (.cells #[.int .i64 0,.bool false,.int .i64 0,.int .u32 0,.slice none 0 0] 39 (0,0))) ∧
         ∀ w6,FrS (·=w.heap.size) w5 w6→RunP ch O w w.heap.size R (.returned (.agg (outRow c o))) w6):=fun w5 hl5=>by
      have hn5:¬ O' w.heap.size:=fun q=>by
       rcases hfr.out.2 _ q with q | q
       ·have:=hON _ q;omega
       ·omega
      have hm5:¬ Mut c w.heap.size:=fun q=>by have:=hKN _ (.inl q);omega
      refine ⟨(hl5.block (by show _<W3.heap.size;omega) hm5 hn5).trans hres3,fun w6 f6=>?_⟩
      obtain ⟨O6,p5,a5,f5,o5⟩:=hl5
      have hn6:¬ O6 w.heap.size:=fun q=>(o5 _ q).elim hn5 (fun q=>by have:W3.heap.size≤w.heap.size:=q;omega)
      have hF5:FrS (Gs c O W.heap.size) W w5:=(hFW3.trans (FrS.of_gr (Gr.refl W3).drew)).trans (f5.mono fun k hk=>hk.elim .inl (hOG k))
      rw [HRE.out]
      refine ⟨rfl,_,_,_,O6,p5.away (fun k hk=>?_) f6,ch.keep a5 f6 (fun k hk=>?_),?_,?_,?_⟩
      ·subst hk;exact ⟨HN.out,fun q=>by have:=hKN _ q;omega⟩
      ·subst hk;exact ⟨HN.out,hn6⟩
      ·rw [List.map_append]
       refine own_mono (own_same (w:=w5) (own_same (w:=W3) ho3 fun k hk=>?_) fun k hk=>?_) (by omega:w.heap.size≤W.heap.size)
       ·exact f5.block k (own_row ho3 hk).2.1 (fun q=>q.elim (fun q=>(hn3 k hk).2.1 (.inl q)) (fun q=>(hn3 k hk).1 q))
       ·exact f6.block k (by have:=(own_row ho3 hk).2.1;have:W3.heap.size≤w5.heap.size:=f5.size;omega) (fun q=>by have:=hk3 k hk;omega)
      ·refine (((FrS.of_gr HG0.out).trans (hF5.mono (S':=fun k=>Gs c O W.heap.size k∨k=w.heap.size) fun k hk=>.inl hk)).trans (f6.mono fun k hk=>.inr hk)).weaken fun k hk hs=>?_
       rcases hs with (q | q | q) | q
       ·exact .inl q
       ·exact .inr q
       ·omega
       ·omega
      ·intro k hk
       rcases o5 k hk with q | q
       ·rcases hfr.out.2 k q with q | q
        ·exact .inl q
        ·exact .inr (by omega)
       ·exact .inr (by have:W3.heap.size≤k:=q;omega)
     clear hbok hbst hpre hblk hp3 ha3 ho3 hf3 hn3 hk3 hFW3 hOG hON hKN hres3 b3 b4 hq hrun hM hO3 e2 hout
     go_wp2
     go_region_with ((go_at_call 86;refine (CT.out _ ((Gr.refl _).drew)).mono ?_;rintro e w5 ⟨hl5,k5,T5,rfl,hk5⟩;rw [HOUT.out] at hk5;have HE5:=Lib.hid (HEND.out w5 hl5);have D5:=Lib.hid hk5;clear hl5 hk5))
     all_goals
      have d0:=cell_of_row _ _ 0 _ _ _ D5.out
      have d1:=cell_of_row _ _ 1 _ _ _ D5.out
      have d2:=cell_of_row _ _ 2 _ _ _ D5.out
      have d3:=cell_of_row _ _ 3 _ _ _ D5.out
      have d4:=cell_of_row _ _ 4 _ _ _ D5.out
      have r0:=cell_of_row _ _ 0 _ _ _ HE5.out.1
      have r1:=cell_of_row _ _ 1 _ _ _ HE5.out.1
      have r2:=cell_of_row _ _ 2 _ _ _ HE5.out.1
      have r3:=cell_of_row _ _ 3 _ _ _ HE5.out.1
      have r4:=cell_of_row _ _ 4 _ _ _ HE5.out.1
      have z0:=frozen_of_row _ _ 0 _ _ HE5.out.1
      have z1:=frozen_of_row _ _ 1 _ _ HE5.out.1
      have z2:=frozen_of_row _ _ 2 _ _ HE5.out.1
      have z3:=frozen_of_row _ _ 3 _ _ HE5.out.1
      have z4:=frozen_of_row _ _ 4 _ _ HE5.out.1
      go_wp2
      have hF9:=(((((FrS.refl (·=w.heap.size) w5).setCell (p:=⟨w.heap.size,0,none⟩) rfl (.int .i64 o.kind)).setCell (p:=⟨w.heap.size,1,none⟩) rfl (.bool o.ret.p)).setCell (p:=⟨w.heap.size,2,none⟩) rfl (.int .i64 o.ret.s)).setCell (p:=⟨w.heap.size,3,none⟩) rfl (.int .u32 o.ret.n)).setCell (p:=⟨w.heap.size,4,none⟩) rfl (.slice A n cp)
      have h9:=heap_setCell_at (i:=4) (.slice A n cp) (heap_setCell_at (i:=3) (.int .u32 o.ret.n) (heap_setCell_at (i:=2) (.int .i64 o.ret.s) (heap_setCell_at (i:=1) (.bool o.ret.p) (heap_setCell_at (i:=0) (.int .i64 o.kind) HE5.out.1))))
      obtain ⟨W9,hW9⟩:∃ W9,((((w5.setCell ⟨w.heap.size,0,none⟩ (.int .i64 o.kind)).setCell ⟨w.heap.size,1,none⟩ (.bool o.ret.p)).setCell ⟨w.heap.size,2,none⟩ (.int .i64 o.ret.s)).setCell ⟨w.heap.size,3,none⟩ (.int .u32 o.ret.n)).setCell ⟨w.heap.size,4,none⟩ (.slice A n cp)=W9:=⟨_,rfl⟩
      rw [hW9] at hF9 h9
      rw [hW9]
      have q0:W9.cell? ⟨w.heap.size,0,none⟩=some (.int .i64 o.kind):=cell_of_row _ _ 0 _ _ _ h9
      have q1:W9.cell? ⟨w.heap.size,1,none⟩=some (.bool o.ret.p):=cell_of_row _ _ 1 _ _ _ h9
      have q2:W9.cell? ⟨w.heap.size,2,none⟩=some (.int .i64 o.ret.s):=cell_of_row _ _ 2 _ _ _ h9
      have q3:W9.cell? ⟨w.heap.size,3,none⟩=some (.int .u32 o.ret.n):=cell_of_row _ _ 3 _ _ _ h9
      have q4:W9.cell? ⟨w.heap.size,4,none⟩=some (.slice A n cp):=cell_of_row _ _ 4 _ _ _ h9
      refine bodyPost_ret (v:=.agg #[.int .i64 o.kind,.bool o.ret.p,.int .i64 o.ret.s,.int .u32 o.ret.n,.slice A n cp]) (by simp [results,Tryz.results48,go_sem,q0,q1,q2,q3,q4]) rfl ?_
      rw [← HOUT.out]
      exact HE5.out.2 _ hF9
    | run t =>
     obtain ⟨m,m1,m2,m3⟩:=hbok
     obtain ⟨tn,rfl⟩:=Int.eq_ofNat_of_zero_le m1
     rw [Int.toNat_natCast] at m2 m3
     have HM2:=Lib.hid m2
     have HM3:=Lib.hid m3
     have HRE:Hid (joined (T++[(bq:Int)]) (Rn.from_ c.f pick k tn bq s2)=R):=by
      show _=_
      rw [← hrun.out,from_run hq]
      simp [joined]
     have hs2:s2.steps≤400:=hbst.1
     have hs3:sq.steps+1≤s2.steps:=hbst.2.2 _ rfl
     have HEND:Hid (∀ w5,Left ch W3.drew O' s2 (bq:Int) fq (.slice A2 (T.length+1) c2) w5→PS c w5 s2 (bq:Int) fq (.slice A2 (T.length+1) c2) ∧
         ∃ O6:Nat→Prop,PS c ((w5.setCell ⟨c.Bs,10,none⟩ (.int .i64 (bq:Int))).setCell ⟨c.Bs,9,none⟩ (.int .i64 (tn:Int))) s2 (tn:Int) (bq:Int) (.slice A2 (T.length+1) c2) ∧
         ch.At ((w5.setCell ⟨c.Bs,10,none⟩ (.int .i64 (bq:Int))).setCell ⟨c.Bs,9,none⟩ (.int .i64 (tn:Int))) s2.widths O6∧(FrS (Gs c O W.heap.size) W ((w5.setCell ⟨c.Bs,10,none⟩ (.int .i64 (bq:Int))).setCell ⟨c.Bs,9,none⟩ (.int .i64 (tn:Int)))∧∀ k,O6 k→O k∨W.heap.size≤k) ∧
         Own1 W.heap.size 3 ((w5.setCell ⟨c.Bs,10,none⟩ (.int .i64 (bq:Int))).setCell ⟨c.Bs,9,none⟩ (.int .i64 (tn:Int))) (.slice A2 (T.length+1) c2) ((T++[(bq:Int)]).map (Value.int .i64))∧∀ k,(Value.slice A2 (T.length+1) c2).ownBlock=some k→¬ O6 k∧¬ Kept c k∧c.n₀≤k):=fun w5 hl5=>by
      obtain ⟨O6,p5,a5,f5,o5⟩:=hl5
      have hF5:FrS (Gs c O W.heap.size) W w5:=(hFW3.trans (FrS.of_gr (Gr.refl W3).drew)).trans (f5.mono fun k hk=>hk.elim .inl (hOG k))
      have f6:FrS (·=c.Bs) w5 ((w5.setCell ⟨c.Bs,10,none⟩ (.int .i64 (bq:Int))).setCell ⟨c.Bs,9,none⟩ (.int .i64 (tn:Int))):=(((FrS.refl (·=c.Bs) w5).setCell (p:=⟨c.Bs,10,none⟩) rfl _).setCell (p:=⟨c.Bs,9,none⟩) rfl _)
      have hBO:¬ O6 c.Bs:=fun q=>(ch.apart a5 _ q).2.2 (.inl (.inl rfl))
      refine ⟨p5,O6,p5.stSet (s':=s2) rfl rfl rfl f6 (heap_setCell_at (i:=9) _ (heap_setCell_at (i:=10) _ p5.st)),ch.keep a5 f6 (fun k hk=>by subst hk;exact ⟨p5.old.1,hBO⟩),⟨hF5.trans (f6.mono fun k hk=>.inl (.inl hk)),fun k hk=>?_⟩,?_,fun k hk=>⟨fun q=>?_,(hn3 k hk).2⟩⟩
      ·rcases o5 k hk with q | q
       ·exact hfr.out.2 k q
       ·exact .inr (by have:W3.heap.size≤k:=q;omega)
      ·rw [List.map_append]
       refine own_same (w:=w5) (own_same (w:=W3) ho3 fun k hk=>?_) fun k hk=>?_
       ·exact f5.block k (own_row ho3 hk).2.1 (fun q=>q.elim (fun q=>(hn3 k hk).2.1 (.inl q)) (fun q=>(hn3 k hk).1 q))
       ·exact f6.block k (by have:=(own_row ho3 hk).2.1;have:W3.heap.size≤w5.heap.size:=f5.size;omega) (fun q=>(hn3 k hk).2.1 (.inl (.inl q)))
      ·rcases o5 k q with q | q
       ·exact (hn3 k hk).1 q
       ·have:W3.heap.size≤k:=q
        have:=(own_row ho3 hk).2.1
        omega
     clear hbst hpre hblk hp3 ha3 ho3 hf3 hn3 hk3 hFW3 hOG hON hKN hres3 b3 b4 hq hrun hO3 e2 m1 m2 m3
     go_wp2
     go_region_with ((go_at_call 86;refine (CT.out _ ((Gr.refl _).drew)).mono ?_;rintro e w5 ⟨hl5,rfl⟩;have HE5:=Lib.hid (HEND.out w5 hl5);clear hl5))
     all_goals
      have r9:w5.cell? ⟨c.Bs,9,none⟩=some (.int .i64 (bq:Int)):=HE5.out.1.cell 9
      have r10:w5.cell? ⟨c.Bs,10,none⟩=some (.int .i64 fq):=HE5.out.1.cell 10
      have z9:=frozen_of_row _ _ 9 _ _ HE5.out.1.st
      have z10:=frozen_of_row _ _ 10 _ _ HE5.out.1.st
      go_wp2
      obtain ⟨O6,j1,j2,j3,j4,j5⟩:=HE5.out.2
      have J1:=Lib.hid j1
      have J2:=Lib.hid j2
      have J3:=Lib.hid j3
      have J4:=Lib.hid j4
      have J5:=Lib.hid j5
      clear j1 j2 j3 j4 j5
      go_roundg k
      case measure=>omega
      case rel=>exact ⟨tn,bq,s2,_,T++[(bq:Int)],m,O6,J1,J2,J3,J4,J5,HM2,HM3,hs2,by omega,by rw [List.length_append,List.length_singleton];omega,HRE⟩
end Go.Proofs.YthfhamagopbgcaaGreat
