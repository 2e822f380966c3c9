/- Parts: Rf Rg Rk Ch Ce. -/
import Derived.Test.YthfhamagopbgcaaGreatG31
import Derived.Deep.RegionWith
import Derived.Test.YthfhamagopbgcaaGreatG20
namespace Go.Proofs.YthfhamagopbgcaaGreat
set_option linter.unusedSimpArgs false
set_option linter.unusedVariables false
open Go.RowKit

namespace Rn
theorem numB_snoc:∀ (l:List Int) (b:Int),numB (l++[b])=numB l+b * 256 ^ l.length
 | [],b=>by simp [numB]
 | a::r,b=>by
  rw [List.cons_append,numB,numB,numB_snoc r b,List.length_cons,Int.pow_succ,Int.mul_add,← Int.add_assoc]
  congr 1
  rw [Int.mul_left_comm,Int.mul_comm 256]
theorem pow_256 (k m:Nat) (h:m=8 * k):(256:Int) ^ k=2 ^ m:=by
 subst h
 rw [Int.pow_mul];rfl
/-- A byte more. -/
theorem num_step {bs:List Int} {k m:Nat} {b x:Int} (hm:m=8 * k) (hk:bs[k]?=some b) (hx:x=numB (bs.take k)) (hn:∀ z ∈ bs.take k,0≤z∧z≤255) (h0:0≤b) (h1:b≤255) (h4:k<4) :
  bits .or .u32 x (b * 2 ^ m % 4294967296)=numB (bs.take (k+1)):=by
 have hlt:=(List.getElem?_eq_some_iff.1 hk).1
 have hl:(bs.take k).length=k:=by rw [List.length_take];omega
 obtain ⟨r0,r1⟩:=numB_range _ hn
 rw [hl,pow_256 k m hm,← hx] at r1
 rw [← hx] at r0
 have hp:(2:Int) ^ m≤16777216:=by
  rcases (by omega:k=0∨k=1∨k=2∨k=3) with rfl | rfl | rfl | rfl <;> subst hm <;> decide
 have hp0:(0:Int)<2 ^ m:=Int.pow_pos (by decide)
 have hb:b * 2 ^ m≤255 * 2 ^ m:=Int.mul_le_mul_of_nonneg_right h1 (by omega)
 have hb0:0≤b * 2 ^ m:=Int.mul_nonneg h0 (by omega)
 rw [Int.emod_eq_of_lt hb0 (by omega),or_high r0 r1 h0 (by omega),List.take_add_one,hk]
 show _=numB (bs.take k++[b])
 rw [numB_snoc,hl,pow_256 k m hm,← hx]
end Rn
def loadI (mem:List (List Int)) (p:Rn.V) (n:Nat):Value:=match Rn.load mem p n with | none=>undI | some v=>vI v
set_option maxRecDepth 100000 in
set_option maxHeartbeats 4000000 in
theorem rload_any {c:Cfg} {w:World} {s:Rn.St} {b frm:Int} {vt:Value} (h:PS c w s b frm vt) (hf:VFn c.f) (hi:Rn.Inv c.f s) (p:Rn.V) (hp:Rn.VOK c.f 33 p) (n:Nat) (hn1:1≤n) (hn:n≤4) :
  Calls Tryz.prog 159 #[.pointer (some ⟨c.Bs,0,none⟩),vv p,.int .i64 n] w fun e w'=>e=.returned (loadI s.mem p n)∧Gr w w':=by
 have hB0:Gr w (w.alloc (.cells #[.bool p.p,.int .i64 p.s,.int .u32 p.n] 37)):=(Gr.refl w).alloc _
 have HB:=Lib.hid hB0
 by_cases hb:Rn.bytesAt s.mem p n=none
 ·have CN:=Lib.hid (rbytes_none (h.gr hB0) hf hi p hp n hn hb)
  have HR:Hid (loadI s.mem p n=undI):=by show _=_;unfold loadI Rn.load;rw [hb];rfl
  clear h hi hp hb hB0
  unfold vv at CN ⊢
  go_enter Tryz.func159, Tryz.ntmps159
  go_wp2_with (first
    | (go_at_call 181;(with_reducible refine CN.out.mono ?_);rintro e w1 ⟨rfl,g1⟩)
    | (go_at_call 158;(with_reducible refine (undef_any _).mono ?_);rintro e w2 ⟨rfl,rfl⟩))
  go_ret
  exact ⟨by rw [HR.out];rfl,HB.out.trans g1⟩
 ·obtain ⟨bj,cp,hus,hcap,hcp,CS⟩:=rbytes_some (h.gr hB0) hf hi p hp n hn1 hn hb
  obtain ⟨bs,hbs⟩:∃ bs,Rn.bytesAt s.mem p n=some bs:=by
   cases q:Rn.bytesAt s.mem p n with
   | none=>exact absurd q hb
   | some bs=>exact ⟨bs,rfl⟩
  obtain ⟨bl,br⟩:=Rn.bytesAt_range hi.bytes hbs
  have hpp:p.p=false:=by
   cases q:p.p with
   | false=>rfl
   | true=>exact absurd (by unfold Rn.bytesAt;rw [if_pos (.inl q)]) hb
  obtain ⟨p1,p2,p3,p4⟩:=hp.ptr hpp
  obtain ⟨bj',cp',l,hus',-,hl,-,-,-,-,-,-,-,-,cur,hcur,hcells⟩:=h.slot hf hi p1 p2
  rw [hus] at hus'
  injection hus' with hus'
  injection hus' with e1 e2
  subst e1;subst e2
  have HC:Hid (∀ w1,Gr w w1→∀ k z,bs[k]?=some z→w1.cell? ⟨bj,p.n.toNat+k,none⟩=some (.int .i64 z)):=by
   intro w1 g1 k z hz
   have hr:=(g1.heap _ (lt_of_heap hcur)).trans hcur
   rw [cell_of_row _ _ _ _ _ _ hr]
   refine hcells _ _ ?_
   have:=hbs
   unfold Rn.bytesAt at this
   split at this
   ·cases this
   ·injection this with this
    rw [← this,hl] at hz
    rw [List.getElem?_take] at hz
    split at hz
    ·rwa [List.getElem?_drop] at hz
    ·cases hz
  have HR:Hid (loadI s.mem p n=if bs.any (fun b=>decide (b<0))=true then vI Rn.poison else vI (Rn.word (Rn.numB bs))):=by
   show _=_
   unfold loadI Rn.load
   rw [hbs]
   simp only [Option.map_some]
   split <;> rfl
  have HBR:=Lib.hid br
  have CSS:=Lib.hid CS
  obtain ⟨R,hR⟩:∃ R,loadI s.mem p n=R:=⟨_,rfl⟩
  rw [hR] at HR ⊢
  obtain ⟨N,hN⟩:∃ N,p.n.toNat=N:=⟨_,rfl⟩
  rw [hN] at HC hcap CSS
  clear hb CS hbs br hp hi h hus hl hcells hcur hB0 hR hN p1 p2 p3 p4 hpp
  unfold vv at CSS ⊢
  go_enter Tryz.func159, Tryz.ntmps159
  go_wp2_with (first
    | (go_at_call 181;(with_reducible refine CSS.out.mono ?_);rintro e w1 ⟨rfl,g1⟩;have HG1:=Lib.hid (HB.out.trans g1)))
  go_loop [9,24] (fun s9 s24=>∃ k:Nat,k≤n∧s24=.int .i64 (k:Int)∧∃ x:Int,s9=.int .u32 x∧Hid (x=Rn.numB (bs.take k)∧∀ z ∈ bs.take k,0≤z∧z≤255)) (fun _ s24=>n-(intOf s24).toNat)
  case atStart=>exact ⟨0,Nat.zero_le _,rfl,0,rfl,rfl,fun z hz=>by simp at hz⟩
  case round =>
   obtain ⟨k,hk,rfl,x,rfl,hx⟩:=hrel
   by_cases hlt:k<n
   ·obtain ⟨z,hz⟩:∃ z,bs[k]?=some z:=⟨_,List.getElem?_eq_getElem (by omega)⟩
    have hc:=HC.out w1 HG1.out k z hz
    have hzr:=HBR.out z (List.mem_of_getElem? hz)
    obtain ⟨z1,z2⟩:=hzr
    have HZ:=Lib.hid hz
    clear hz
    by_cases hneg:z<0
    ·have HE:Hid (vI Rn.poison=R):=by
      show _=_
      rw [HR.out,if_pos]
      rw [List.any_eq_true]
      exact ⟨z,List.mem_of_getElem? HZ.out,by simpa using hneg⟩
     go_wp2_with (go_at_call 162;(with_reducible refine (rpoison_any _).mono ?_);rintro e w8 ⟨rfl,g8⟩)
     go_ret
     exact ⟨by rw [← HE.out];rfl,HG1.out.trans g8⟩
    ·obtain ⟨m,hm⟩:∃ m,m=8 * k:=⟨_,rfl⟩
     have hm8:8 * (k:Int)=(m:Int):=by omega
     have hm32:m<32:=by omega
     have HM:=Lib.hid hm
     have hz0:0≤z:=by omega
     clear hneg hm
     go_wp2
     refine ⟨⟨k+1,by omega,by go_num,_,rfl,?_,?_⟩,?_⟩
     ·exact Rn.num_step HM.out HZ.out hx.out.1 hx.out.2 hz0 z2 (by omega)
     ·intro y hy
      rw [List.take_add_one,HZ.out] at hy
      simp at hy
      rcases hy with hy | rfl
      ·exact hx.out.2 y hy
      ·exact ⟨hz0,z2⟩
     ·simp [intOf];omega
   ·have hkn:k=n:=by omega
    have HE:Hid (vI (Rn.word x)=R):=by
     show _=_
     have e:bs.take k=bs:=List.take_of_length_le (by omega)
     rw [HR.out,hx.out.1,e,if_neg]
     rw [List.any_eq_true]
     rintro ⟨y,hy,hy2⟩
     have:=hx.out.2 y (by rw [e];exact hy)
     simp at hy2;omega
    subst hkn
    go_wp2
    go_ret
    exact ⟨by rw [← HE.out];rfl,HG1.out⟩
end Go.Proofs.YthfhamagopbgcaaGreat
namespace Go.Proofs.YthfhamagopbgcaaGreat
set_option linter.unusedSimpArgs false
set_option linter.unusedVariables false
open Go.RowKit

/-- Nothing that was there has turned but the blocks of S. -/
structure FrS (S:Nat→Prop) (w w':World):Prop where
 os:w'.os=w.os
 tape:w'.tape=w.tape
 output:w'.output=w.output
 size:w.heap.size≤w'.heap.size
 block:∀ k,k<w.heap.size→¬ S k→w'.heap[k]?=w.heap[k]?
section
variable {S S':Nat→Prop} {w w' w'' a b:World}
theorem FrS.refl (S:Nat→Prop) (w:World):FrS S w w:=⟨rfl,rfl,rfl,Nat.le_refl _,fun _ _ _=>rfl⟩
theorem FrS.trans (h:FrS S w w') (k:FrS S w' w''):FrS S w w'' :=
 ⟨k.os.trans h.os,k.tape.trans h.tape,k.output.trans h.output,Nat.le_trans h.size k.size,fun j hj hn=>(k.block j (by have:=h.size;omega) hn).trans (h.block j hj hn)⟩
theorem FrS.of_gr (g:Gr w w'):FrS S w w':=⟨g.os,g.tape,g.output,g.size,fun k hk _=>g.heap k hk⟩
theorem FrS.mono (h:FrS S w w') (hs:∀ k,S k→S' k):FrS S' w w':=⟨h.os,h.tape,h.output,h.size,fun k hk hn=>h.block k hk fun q=>hn (hs k q)⟩
theorem FrS.below {n:Nat} (h:FrS S w w') (hS:∀ k,S k→n≤k) (hn:n≤w.heap.size):Below n w w':=⟨h.os,h.tape,h.output,h.size,fun k hk=>h.block k (by omega) fun q=>by have:=hS k q;omega⟩
theorem FrS.setCell (h:FrS S w a) {p:Addr} (hp:S p.block) (u:Value):FrS S w (a.setCell p u) :=
 ⟨h.os,h.tape,h.output,by have:=h.size;simp;omega,fun k hk hn=>(RowKit.Below.heap_setCell _ _ _ _ (fun e=>hn (by rw [e];exact hp))).trans (h.block k hk hn)⟩
theorem FrS.alloc (h:FrS S w a) (o:Obj):FrS S w (a.alloc o):=h.trans (FrS.of_gr ((Gr.refl a).alloc o))
theorem FrS.drewN (h:FrS S w a) (n:Nat):FrS S w (a.drewN n):=⟨h.os,h.tape,h.output,h.size,h.block⟩
theorem FrS.drew (h:FrS S w a):FrS S w a.drew:=⟨h.os,h.tape,h.output,h.size,h.block⟩
end
/-- The blocks that a run turns. -/
def Mut (c:Cfg) (k:Nat):Prop:=k=c.Bs∨k=c.Bv∨k=c.Bh∨∃ j cp:Nat,c.us[j]?=some (k,cp)
theorem PS.mut {c:Cfg} {w:World} {s:Rn.St} {b frm:Int} {vt:Value} (h:PS c w s b frm vt) {k:Nat} (hk:Mut c k):c.n₀≤k:=by
 obtain ⟨o1,o2,o3,o4,o5,o6⟩:=h.old
 rcases hk with rfl | rfl | rfl | ⟨j,cp,hj⟩
 ·exact o1
 ·exact o2
 ·exact o3
 ·exact (o6 j k cp hj).1
section
variable {c:Cfg} {w w':World} {s:Rn.St} {b frm:Int} {vt:Value}
theorem ne_of_type {w:World} {i j:Nat} {x y:Array Value} {t u:TypeId} {fx fy:Nat × Nat} (h1:w.heap[i]?=some (.cells x t fx)) (h2:w.heap[j]?=some (.cells y u fy)) (hn:t≠u):i≠j:=by
 intro e;subst e
 rw [h1] at h2
 injection h2 with h2
 injection h2 with _ h2
 exact hn h2
theorem apart_two {us:List (Nat × Nat)} (h:(us.map (·.1)).Nodup) {i j b x y:Nat} (hij:i<j) (h1:us[i]?=some (b,x)) (h2:us[j]?=some (b,y)):False:=by
 obtain ⟨l1,e1⟩:=List.getElem?_eq_some_iff.1 h1
 obtain ⟨l2,e2⟩:=List.getElem?_eq_some_iff.1 h2
 have:=List.pairwise_iff_getElem.1 h i j (by simpa using l1) (by simpa using l2) hij
 simp [e1,e2] at this
/-- A slot's bytes are others. -/
theorem PS.memSet (h:PS c w s b frm vt) {j bj cp:Nat} {l l':List Int} {cur:Array Value} (hus:c.us[j]?=some (bj,cp)) (hl:s.mem[j]?=some l) (hll:l'.length=l.length) (hF:FrS (·=bj) w w') (hb:w'.heap[bj]?=some (.cells cur 3 (0,0)))
  (hc:∀ (i:Nat) (z:Int),l'[i]?=some z→cur[i]?=some (.int .i64 z)):PS c w' { s with mem:=s.mem.set j l' } b frm vt:=by
 obtain ⟨q1,q2,cur0,q3,q4⟩:=h.mem.2 j bj cp l hus hl
 have n1:=ne_of_type h.st q3 (by decide)
 have n2:=ne_of_type h.vals q3 (by decide)
 have n3:=ne_of_type h.had q3 (by decide)
 obtain ⟨o1,o2,o3,o4,o5,o6⟩:=h.old
 obtain ⟨o7,o8⟩:=o6 j bj cp hus
 exact {
   st:=(hF.block _ (lt_of_heap h.st) n1).trans h.st
   vals:=(hF.block _ (lt_of_heap h.vals) n2).trans h.vals
   had:=(hF.block _ (lt_of_heap h.had) n3).trans h.had
   hlen:=h.hlen
   mem:=⟨by rw [List.length_set];exact h.mem.1,fun j' b' cp' m h1 h2=>by
     by_cases e:j=j'
     · subst e
       rw [hus] at h1
       injection h1 with h1
       injection h1 with h1 h3
       subst h1;subst h3
       have hlt:=(List.getElem?_eq_some_iff.1 hl).1
       rw [List.getElem?_set_self hlt] at h2
       injection h2 with h2
       subst h2
       exact ⟨by omega,q2,cur,hb,hc⟩
     · rw [List.getElem?_set_ne e] at h2
       obtain ⟨r1,r2,cur',r3,r4⟩:=h.mem.2 j' b' cp' m h1 h2
       have hne:b'≠bj:=by
         intro eb;subst eb
         rcases Nat.lt_or_gt_of_ne e with q | q
         · exact apart_two h.apart q hus h1
         · exact apart_two h.apart q h1 hus
       exact ⟨r1,r2,cur',(hF.block _ (lt_of_heap r3) hne).trans r3,r4⟩⟩
   slots:=⟨h.slots.1,h.slots.2.1,fun hm=>by
     obtain ⟨r1,cur',r2,r3⟩:=h.slots.2.2 hm
     exact ⟨r1,cur',(hF.block _ (lt_of_heap r2) (ne_of_type r2 q3 (by decide))).trans r2,r3⟩⟩
   fn:=h.fn.below (hF.below (fun k hk=>by rw [hk];exact o7) h.n₀)
   first:=by
     obtain ⟨r1,r2,cur',r3,r4⟩:=h.first
     exact ⟨r1,r2,cur',(hF.block _ (lt_of_heap r3) (fun e=>o8 e.symm)).trans r3,r4⟩
   old:=h.old
   apart:=h.apart }
end
end Go.Proofs.YthfhamagopbgcaaGreat
namespace Go.Proofs.YthfhamagopbgcaaGreat
set_option linter.unusedSimpArgs false
set_option linter.unusedVariables false
open Go.RowKit

section
variable {c:Cfg} {w w':World} {s:Rn.St} {b frm:Int} {vt:Value}
theorem PS.setVal (h:PS c w s b frm vt) {v:Nat} {x:Rn.V} (hF:FrS (fun k=>k=c.Bv∨k=c.Bh) w w') (hv:w'.heap[c.Bv]?=some (.cells (encVs (s.vals.set v x)).toArray 37 (0,0)))
  (hh:w'.heap[c.Bh]?=some (.cells ((s.had.set v true).map Value.bool).toArray 4 (0,0))):PS c w' (s.set v x) b frm vt:=by
 obtain ⟨o1,o2,o3,o4,o5,o6⟩:=h.old
 have keep:∀ {k:Nat} {cur:Array Value} {t:TypeId} {fr:Nat × Nat},w.heap[k]?=some (.cells cur t fr)→t≠37→t≠4→w'.heap[k]?=some (.cells cur t fr):=fun hk h1 h2 =>
  (hF.block _ (lt_of_heap hk) (by
    rintro (rfl | rfl)
    · exact ne_of_type hk h.vals h1 rfl
    · exact ne_of_type hk h.had h2 rfl)).trans hk
 exact {
   st:=by
     have:=keep h.st (by decide) (by decide)
     show w'.heap[c.Bs]?=some (.cells (stRow c (s.vals.set v x).length b frm s.steps vt) _ _)
     rw [List.length_set];exact this
   vals:=hv
   had:=hh
   hlen:=by show (s.had.set v true).length=(s.vals.set v x).length;rw [List.length_set,List.length_set];exact h.hlen
   mem:=⟨h.mem.1,fun j b' cp m h1 h2=>by
     obtain ⟨r1,r2,cur,r3,r4⟩:=h.mem.2 j b' cp m h1 h2
     exact ⟨r1,r2,cur,keep r3 (by decide) (by decide),r4⟩⟩
   slots:=⟨h.slots.1,h.slots.2.1,fun hm=>by
     obtain ⟨r1,cur,r2,r3⟩:=h.slots.2.2 hm
     exact ⟨r1,cur,keep r2 (by decide) (by decide),r3⟩⟩
   fn:=h.fn.below (hF.below (fun k hk=>hk.elim (fun e=>by rw [e];exact o2) (fun e=>by rw [e];exact o3)) h.n₀)
   first:=by
     obtain ⟨r1,r2,cur,r3,r4⟩:=h.first
     exact ⟨r1,r2,cur,keep r3 (by decide) (by decide),r4⟩
   old:=h.old
   apart:=h.apart }
theorem row_vals (l:List Rn.V) (v:Nat) (x:Rn.V):(((encVs l).toArray.setIfInBounds (v * 3) (.bool x.p)).setIfInBounds (v * 3+1) (.int .i64 x.s)).setIfInBounds (v * 3+2) (.int .u32 x.n)=(encVs (l.set v x)).toArray:=by
 rw [List.setIfInBounds_toArray,List.setIfInBounds_toArray,List.setIfInBounds_toArray,Nat.mul_comm v 3,encVs_set]
theorem row_had (l:List Bool) (v:Nat):((l.map Value.bool).toArray.setIfInBounds v (.bool true))=((l.set v true).map Value.bool).toArray:=by
 rw [List.setIfInBounds_toArray,List.map_set]
set_option maxRecDepth 100000 in
set_option maxHeartbeats 1000000 in
theorem rset_any (h:PS c w s b frm vt) (v:Nat) (hv:v<s.vals.length) (hn:s.vals.length≤1000) (x:Rn.V) :
  Calls Tryz.prog 130 #[.pointer (some ⟨c.Bs,0,none⟩),.int .i64 v,vv x] w fun e w'=>e=.returned (.tuple #[])∧PS c w' (s.set v x) b frm vt∧FrS (Mut c) w w':=by
 obtain ⟨W,hW⟩:∃ W,w.alloc (.cells #[.bool x.p,.int .i64 x.s,.int .u32 x.n] 37)=W:=⟨_,rfl⟩
 have hB0:Gr w W:=by rw [← hW];exact (Gr.refl w).alloc _
 have hh:=h.gr hB0
 have c5:W.cell? ⟨c.Bs,5,none⟩=some (.slice (some ⟨c.Bv,0,none⟩) s.vals.length s.vals.length):=hh.cell 5
 have c6:W.cell? ⟨c.Bs,6,none⟩=some (.slice (some ⟨c.Bh,0,none⟩) s.vals.length s.vals.length):=hh.cell 6
 have x0:W.cell? ⟨w.heap.size,0,none⟩=some (.bool x.p):=cell_box _ _ 0 (by rw [hW];exact Gr.refl W) rfl
 have x1:W.cell? ⟨w.heap.size,1,none⟩=some (.int .i64 x.s):=cell_box _ _ 1 (by rw [hW];exact Gr.refl W) rfl
 have x2:W.cell? ⟨w.heap.size,2,none⟩=some (.int .u32 x.n):=cell_box _ _ 2 (by rw [hW];exact Gr.refl W) rfl
 obtain ⟨y,hy⟩:∃ y,s.vals[v]?=some y:=⟨_,List.getElem?_eq_getElem hv⟩
 obtain ⟨z,hz⟩:∃ z,s.had[v]?=some z:=⟨_,List.getElem?_eq_getElem (by rw [h.hlen];exact hv)⟩
 obtain ⟨y0,y1,y2⟩:=encVs_get _ _ _ hy
 rw [Nat.mul_comm] at y0 y1 y2
 have d0:W.cell? ⟨c.Bv,v * 3,none⟩=some (.bool y.p):=(cell_of_row _ _ _ _ _ _ hh.vals).trans (by simpa using y0)
 have d1:W.cell? ⟨c.Bv,v * 3+1,none⟩=some (.int .i64 y.s):=(cell_of_row _ _ _ _ _ _ hh.vals).trans (by simpa using y1)
 have d2:W.cell? ⟨c.Bv,v * 3+2,none⟩=some (.int .u32 y.n):=(cell_of_row _ _ _ _ _ _ hh.vals).trans (by simpa using y2)
 have e0:W.cell? ⟨c.Bh,v,none⟩=some (.bool z):=(cell_of_row _ _ _ _ _ _ hh.had).trans (by simp [hz])
 have fv:∀ i,W.frozen? ⟨c.Bv,i,none⟩=false:=fun i=>by unfold World.frozen?;simp [hh.vals]
 have fh:∀ i,W.frozen? ⟨c.Bh,i,none⟩=false:=fun i=>by unfold World.frozen?;simp [hh.had]
 have f0:=fv (v * 3)
 have f1:=fv (v * 3+1)
 have f2:=fv (v * 3+2)
 have f3:=fh v
 have n1:c.Bs≠c.Bv:=ne_of_type h.st h.vals (by decide)
 have n2:c.Bs≠c.Bh:=ne_of_type h.st h.had (by decide)
 have n3:c.Bv≠c.Bh:=ne_of_type h.vals h.had (by decide)
 have n4:c.Bv≠w.heap.size:=by have:=lt_of_heap h.vals;omega
 have n5:c.Bh≠w.heap.size:=by have:=lt_of_heap h.had;omega
 have hv1:=heap_setCell_at (i:=v * 3) (.bool x.p) hh.vals
 have hv2:=heap_setCell_at (i:=v * 3+1) (.int .i64 x.s) hv1
 have hv3:=heap_setCell_at (i:=v * 3+2) (.int .u32 x.n) hv2
 rw [row_vals] at hv3
 have hw3:=((RowKit.Below.heap_setCell ((W.setCell ⟨c.Bv,v * 3,none⟩ (.bool x.p)).setCell ⟨c.Bv,v * 3+1,none⟩ (.int .i64 x.s)) ⟨c.Bv,v * 3+2,none⟩ (.int .u32 x.n) c.Bh n3.symm).trans ((RowKit.Below.heap_setCell (W.setCell ⟨c.Bv,v * 3,none⟩ (.bool x.p)) ⟨c.Bv,v * 3+1,none⟩ (.int .i64 x.s) c.Bh n3.symm).trans (RowKit.Below.heap_setCell W ⟨c.Bv,v * 3,none⟩ (.bool x.p) c.Bh n3.symm))).trans hh.had
 have hw4:=heap_setCell_at (i:=v) (.bool true) hw3
 rw [row_had] at hw4
 have hv4:=(RowKit.Below.heap_setCell (((W.setCell ⟨c.Bv,v * 3,none⟩ (.bool x.p)).setCell ⟨c.Bv,v * 3+1,none⟩ (.int .i64 x.s)).setCell ⟨c.Bv,v * 3+2,none⟩ (.int .u32 x.n)) ⟨c.Bh,v,none⟩ (.bool true) c.Bv n3).trans hv3
 have hF:FrS (fun k=>k=c.Bv∨k=c.Bh) W ((((W.setCell ⟨c.Bv,v * 3,none⟩ (.bool x.p)).setCell ⟨c.Bv,v * 3+1,none⟩ (.int .i64 x.s)).setCell ⟨c.Bv,v * 3+2,none⟩ (.int .u32 x.n)).setCell ⟨c.Bh,v,none⟩ (.bool true)).drew :=
  (((((FrS.refl _ W).setCell (p:=⟨c.Bv,v * 3,none⟩) (.inl rfl) _).setCell (p:=⟨c.Bv,v * 3+1,none⟩) (.inl rfl) _).setCell (p:=⟨c.Bv,v * 3+2,none⟩) (.inl rfl) _).setCell (p:=⟨c.Bh,v,none⟩) (.inr rfl) _).drew
 have HEND:=Lib.hid (And.intro (hh.setVal hF hv4 hw4) ((FrS.of_gr (S:=Mut c) hB0).trans (hF.mono fun k hk=>hk.elim (fun e=>.inr (.inl e)) (fun e=>.inr (.inr (.inl e))))))
 obtain ⟨n,hnn⟩:∃ n,s.vals.length=n:=⟨_,rfl⟩
 rw [hnn] at hv hn c5 c6
 clear h hh hB0 hv1 hv2 hv3 hv4 hw3 hw4 hF fv fh y0 y1 y2 hy hz hnn
 unfold vv
 go_enter Tryz.func130, Tryz.ntmps130
 go_wp2
 go_region_with (fail)
 all_goals go_wp2
 all_goals go_end0
 all_goals exact ⟨rfl,HEND.out⟩
end
end Go.Proofs.YthfhamagopbgcaaGreat
namespace Go.Proofs.YthfhamagopbgcaaGreat
set_option linter.unusedSimpArgs false
set_option linter.unusedVariables false
open Go.RowKit

/-- The blocks that a run's state lies in. -/
def Kept (c:Cfg) (k:Nat):Prop:=Mut c k∨k=c.Bf∨k=c.Bm
section
variable {c:Cfg} {w w' w'':World} {s s' s'':Rn.St} {b frm b' frm' b'' frm'':Int} {vt vt' vt'':Value} {S:Nat→Prop}
/-- What lies elsewhere is turned. -/
theorem PS.away (h:PS c w s b frm vt) (hS:∀ k,S k→c.n₀≤k∧¬ Kept c k) (hF:FrS S w w'):PS c w' s b frm vt:=by
 have keep:∀ {k:Nat} {o:Obj},w.heap[k]?=some o→Kept c k→w'.heap[k]?=some o:=fun hk hK=>(hF.block _ (lt_of_heap hk) (fun q=>(hS _ q).2 hK)).trans hk
 exact {
   st:=keep h.st (.inl (.inl rfl))
   vals:=keep h.vals (.inl (.inr (.inl rfl)))
   had:=keep h.had (.inl (.inr (.inr (.inl rfl))))
   hlen:=h.hlen
   mem:=⟨h.mem.1,fun j b' cp m h1 h2=>by
     obtain ⟨r1,r2,cur,r3,r4⟩:=h.mem.2 j b' cp m h1 h2
     exact ⟨r1,r2,cur,keep r3 (.inl (.inr (.inr (.inr ⟨j,cp,h1⟩)))),r4⟩⟩
   slots:=⟨h.slots.1,h.slots.2.1,fun hm=>by
     obtain ⟨r1,cur,r2,r3⟩:=h.slots.2.2 hm
     exact ⟨r1,cur,keep r2 (.inr (.inr rfl)),r3⟩⟩
   fn:=h.fn.below (hF.below (fun k hk=>(hS k hk).1) h.n₀)
   first:=by
     obtain ⟨r1,r2,cur,r3,r4⟩:=h.first
     exact ⟨r1,r2,cur,keep r3 (.inr (.inl rfl)),r4⟩
   old:=h.old
   apart:=h.apart }
end
/-- Who makes a run's choices; fin: the widths of all the choices that the run will have made; O: the blocks of the chooser. -/
structure Chooser (c:Cfg) (pick:Rn.Pick) (fin:List Int) where
 ty:TypeId
 ptr:Value
 fnum:Nat
 ech:c.ch=.iface ty ptr
 inv:∀ w:World,(method 377 ty ptr "backstay/run.choose").run Tryz.prog w=.ok (fnum,ptr) w
 ent:∀ (n:Int) (w:World),(callFunc fnum #[ptr,.int .i64 n]).run Tryz.prog w=.ok (.enter fnum #[ptr,.int .i64 n]) w
 At:World→List Int→(Nat→Prop)→Prop
 apart:∀ {w:World} {ws:List Int} {O:Nat→Prop},At w ws O→∀ k,O k→c.n₀≤k∧k<w.heap.size∧¬ Kept c k
 keep:∀ {w w':World} {ws:List Int} {O S:Nat→Prop},At w ws O→FrS S w w'→(∀ k,S k→c.n₀≤k∧¬ O k)→At w' ws O
 call:∀ {w:World} {ws:List Int} {O:Nat→Prop} (n:Int),At w ws O→Wd.Wid n→(ws++[n]) <+: fin →
  Calls Tryz.prog fnum #[ptr,.int .i64 n] w fun e w'=>e=.returned (.int .u32 (pick ws.length n))∧FrS O w w'∧∃ O':Nat→Prop,At w' (ws++[n]) O'∧∀ k,O' k→O k∨w.heap.size≤k
/-- What is left: the run's state is s', at the block b', from frm'. -/
def Left {c:Cfg} {pick:Rn.Pick} {fin:List Int} (ch:Chooser c pick fin) (w:World) (O:Nat→Prop) (s':Rn.St) (b' frm':Int) (vt':Value) (w':World):Prop :=
 ∃ O':Nat→Prop,PS c w' s' b' frm' vt'∧ch.At w' s'.widths O'∧FrS (fun k=>Mut c k∨O k) w w'∧∀ k,O' k→O k∨w.heap.size≤k
section
variable {c:Cfg} {pick:Rn.Pick} {fin:List Int} {ch:Chooser c pick fin} {w w' w'':World} {s s' s'':Rn.St} {b frm b' frm' b'' frm'':Int} {vt vt' vt'':Value} {O:Nat→Prop}
theorem Left.of_mut (hA:ch.At w s.widths O) (h:PS c w' s' b' frm' vt') (e:s'.widths=s.widths) (hF:FrS (Mut c) w w') (hm:∀ k,Mut c k→c.n₀≤k):Left ch w O s' b' frm' vt' w' :=
 ⟨O,h,by rw [e];exact ch.keep hA hF (fun k hk=>⟨hm k hk,fun q=>(ch.apart hA k q).2.2 (.inl hk)⟩),hF.mono (fun k hk=>.inl hk),fun k hk=>.inl hk⟩
theorem Left.of_gr (hA:ch.At w s.widths O) (h:PS c w s b frm vt) (g:Gr w w'):Left ch w O s b frm vt w' :=
 Left.of_mut hA (h.gr g) rfl (FrS.of_gr g) (fun k hk=>h.mut hk)
/-- The chooser has been called. -/
theorem Left.chosen {n:Int} (hA:ch.At w s.widths O) (h:PS c w s b frm vt) (hF:FrS O w w') {O':Nat→Prop} (hA':ch.At w' (s.widths++[n]) O') (hO:∀ k,O' k→O k∨w.heap.size≤k):Left ch w O (s.chose n) b frm vt w':=by
 have hp:PS c w' s b frm vt:=h.away (fun k hk=>⟨(ch.apart hA k hk).1,(ch.apart hA k hk).2.2⟩) hF
 exact ⟨O',⟨hp.st,hp.vals,hp.had,hp.hlen,hp.mem,hp.slots,hp.fn,hp.first,hp.old,hp.apart⟩,hA',hF.mono (fun k hk=>.inr hk),hO⟩
/-- A block that lies elsewhere stays as it is. -/
theorem Left.block (h:Left ch w O s' b' frm' vt' w') {r:Nat} (hr:r<w.heap.size) (h1:¬ Mut c r) (h2:¬ O r):w'.heap[r]?=w.heap[r]?:=by
 obtain ⟨O',-,-,hF,-⟩:=h
 exact hF.block r hr (fun q=>q.elim h1 h2)
/-- One behind the other. -/
theorem left_trans (hF:FrS (fun k=>Mut c k∨O k) w w') {O':Nat→Prop} (hO:∀ k,O' k→O k∨w.heap.size≤k) (h:Left ch w' O' s'' b'' frm'' vt'' w''):Left ch w O s'' b'' frm'' vt'' w'':=by
 obtain ⟨O'',p,a,f,o⟩:=h
 refine ⟨O'',p,a,⟨f.os.trans hF.os,f.tape.trans hF.tape,f.output.trans hF.output,Nat.le_trans hF.size f.size,fun k hk hn=>?_⟩,fun k hk=>?_⟩
 ·refine (f.block k (by have:=hF.size;omega) fun q=>q.elim (fun q=>hn (.inl q)) fun q=>?_).trans (hF.block k hk hn)
  rcases hO k q with q | q
  ·exact hn (.inr q)
  ·omega
 ·rcases o k hk with q | q
  ·exact hO k q
  ·exact .inr (by have:=hF.size;omega)
theorem Left.gr (h:Left ch w O s' b' frm' vt' w') (g:Gr w' w''):Left ch w O s' b' frm' vt' w'':=by
 obtain ⟨O',p,a,f,o⟩:=h
 exact left_trans f o (Left.of_gr a p g)
end
end Go.Proofs.YthfhamagopbgcaaGreat
namespace Go.Proofs.YthfhamagopbgcaaGreat
set_option linter.unusedSimpArgs false
set_option linter.unusedVariables false
open Go.RowKit

theorem FrS.grown {S:Nat→Prop} {w a b:World} {row:Option Nat} (h:FrS S w a) (g:a.grownBy b row) (hr:∀ k,row=some k→S k∨w.heap.size≤k):FrS S w b :=
 ⟨g.os.trans h.os,g.tape.trans h.tape,g.output.trans h.output,Nat.le_trans h.size g.size,fun k hk hn=>(g.block k (by have:=h.size;omega) (fun e=>by
   rcases hr k e.symm with q | q
   · exact hn q
   · omega)).trans (h.block k hk hn)⟩
theorem info_u32:(Tryz.prog.info? 35).map (fun i=>(i.zero,i.size,i.bytes))=some (some (.int .u32 0),1,4):=by kernel_rfl
/-- Where the choices lie that are gone through: the path, the widths, how many are used. -/
structure ExAt (B Bg:Nat) (w:World) (p ws:List Int) (u:Nat) (vp vw:Value):Prop where
 st:w.heap[Bg]?=some (.cells #[vp,vw,.int .i64 u] 86 (0,0))
 pth:Own1 B 35 w vp (p.map (Value.int .u32))
 wid:Own1 B 3 w vw (ws.map (Value.int .i64))
 ge:B≤Bg
def exO (Bg:Nat) (vp vw:Value) (k:Nat):Prop:=k=Bg∨vp.ownBlock=some k∨vw.ownBlock=some k
theorem own_row {B:Nat} {e:TypeId} {w:World} {v:Value} {xs:List Value} (h:Own1 B e w v xs) {k:Nat} (hk:v.ownBlock=some k):B≤k∧k<w.heap.size∧∃ cur,w.heap[k]?=some (.cells cur e (0,0)):=by
 rcases h.2 with ⟨rfl,_⟩ | ⟨g,cap,cur,rfl,hb,hg,_⟩
 ·simp [Value.ownBlock] at hk
 ·simp [Value.ownBlock] at hk;subst hk;exact ⟨hb,lt_of_heap hg,cur,hg⟩
theorem own_same {B:Nat} {e:TypeId} {w w':World} {v:Value} {xs:List Value} (h:Own1 B e w v xs) (hw:∀ k,v.ownBlock=some k→w'.heap[k]?=w.heap[k]?):Own1 B e w' v xs:=by
 obtain ⟨h1,h2⟩:=h
 refine ⟨h1,?_⟩
 rcases h2 with h2 | ⟨k,cap,cur,hv,hb,hg,r⟩
 ·exact .inl h2
 ·exact .inr ⟨k,cap,cur,hv,hb,(hw k (by rw [hv];rfl)).trans hg,r⟩
theorem ExAt.frs {B Bg:Nat} {w w':World} {p ws:List Int} {u:Nat} {vp vw:Value} {S:Nat→Prop} (h:ExAt B Bg w p ws u vp vw) (hF:FrS S w w') (hS:∀ k,exO Bg vp vw k→¬ S k):ExAt B Bg w' p ws u vp vw where
 st:=(hF.block Bg (lt_of_heap h.st) (hS Bg (.inl rfl))).trans h.st
 pth:=own_same h.pth fun k hk=>hF.block k (own_row h.pth hk).2.1 (hS k (.inr (.inl hk)))
 wid:=own_same h.wid fun k hk=>hF.block k (own_row h.wid hk).2.1 (hS k (.inr (.inr hk)))
 ge:=h.ge
theorem ExAt.used {B Bg:Nat} {w:World} {p ws:List Int} {u:Nat} {vp vw:Value} (h:ExAt B Bg w p ws u vp vw) (n:Nat):ExAt B Bg (w.setCell ⟨Bg,2,none⟩ (.int .i64 n)) p ws n vp vw where
 st:=heap_setCell_at (i:=2) (.int .i64 n) h.st
 pth:=own_same h.pth fun k hk=>RowKit.Below.heap_setCell _ _ _ _ (by obtain ⟨-,-,cur,q⟩:=own_row h.pth hk;exact ne_of_type q h.st (by decide))
 wid:=own_same h.wid fun k hk=>RowKit.Below.heap_setCell _ _ _ _ (by obtain ⟨-,-,cur,q⟩:=own_row h.wid hk;exact ne_of_type q h.st (by decide))
 ge:=h.ge
theorem own_cell {B:Nat} {e:TypeId} {w:World} {v:Value} {xs:List Value} (h:Own1 B e w v xs) {j:Nat} {x:Value} (hx:xs[j]?=some x):∃ b c,v=.slice (some ⟨b,0,none⟩) xs.length c∧xs.length≤c∧c≤17592186044416000000∧w.cell? ⟨b,j,none⟩=some x∧w.frozen? ⟨b,j,none⟩=false∧b<w.heap.size:=by
 have hj:=(List.getElem?_eq_some_iff.1 hx).1
 rcases h.2 with ⟨rfl,h0⟩ | ⟨g,cap,cur,rfl,hb,hg,h1,h2,h3,h4⟩
 ·omega
 ·refine ⟨g,cap,rfl,h1,by unfold maxLen at h2;omega,?_,frozen_of_row _ _ _ _ _ hg,lt_of_heap hg⟩
  rw [cell_of_row _ _ _ _ _ _ hg,← hx,← h4]
  rw [List.getElem?_take,if_pos (by omega)]
  simp
set_option maxRecDepth 100000 in
set_option maxHeartbeats 1000000 in
theorem exchoose_in {B Bg:Nat} {w:World} {p ws:List Int} {u:Nat} {vp vw:Value} (h:ExAt B Bg w p ws u vp vw) (hu:u<p.length) (hp:p.length≤1000000) (n:Int) :
  Calls Tryz.prog 264 #[.pointer (some ⟨Bg,0,none⟩),.int .i64 n] w fun e w'=>e=.returned (.int .u32 (p.getD u 0))∧ExAt B Bg w' p ws (u+1) vp vw∧FrS (fun k=>k=Bg) w w':=by
 obtain ⟨z,hz⟩:∃ z,p[u]?=some z:=⟨_,List.getElem?_eq_getElem hu⟩
 obtain ⟨b,c,rfl,hc,hc2,e0,-,hb⟩:=own_cell h.pth (j:=u) (x:=.int .u32 z) (by rw [List.getElem?_map,hz];rfl)
 rw [List.length_map] at hc
 have hbg:b≠Bg:=by
  obtain ⟨-,-,cur,q⟩:=own_row h.pth (k:=b) rfl
  exact ne_of_type q h.st (by decide)
 have c0:w.cell? ⟨Bg,0,none⟩=some (.slice (some ⟨b,0,none⟩) p.length c):=by have:=cell_of_row _ _ 0 _ _ _ h.st;rw [this];simp
 have c2:w.cell? ⟨Bg,2,none⟩=some (.int .i64 u):=cell_of_row _ _ 2 _ _ _ h.st
 have f2:w.frozen? ⟨Bg,2,none⟩=false:=frozen_of_row _ _ 2 _ _ h.st
 have HEND:Hid (∀ k,ExAt B Bg ((w.drewN k).setCell ⟨Bg,2,none⟩ (.int .i64 ((u:Int)+1))) p ws (u+1) (.slice (some ⟨b,0,none⟩) (p.map (Value.int .u32)).length c) vw∧FrS (fun k=>k=Bg) w ((w.drewN k).setCell ⟨Bg,2,none⟩ (.int .i64 ((u:Int)+1)))):=fun k=>by
  have h1:=h.frs (FrS.of_gr (S:=fun _=>False) ((Gr.refl w).drewN k)) (fun _ _ q=>q)
  exact ⟨h1.used (u+1),((FrS.refl (fun k=>k=Bg) w).drewN k).setCell (p:=⟨Bg,2,none⟩) rfl _⟩
 have hne:(u:Int)≠(p.length:Int):=by omega
 have d0:∀ k v,((w.drewN k).setCell ⟨Bg,2,none⟩ v).cell? ⟨b,u,none⟩=some (.int .u32 z):=fun k v=>(World.cell?_setCell_far _ ⟨Bg,2,none⟩ ⟨b,u,none⟩ v (by exact fun q=>hbg q.symm)).trans e0
 have HZ:Hid (z=p.getD u 0):=by show _=_;rw [List.getD_eq_getElem?_getD,hz];rfl
 clear h hz
 go_enter Tryz.func264, Tryz.ntmps264
 go_wp2
 go_quiet ((fail))
 all_goals go_wp2
 all_goals go_quiet ((fail))
 all_goals go_wp2
 all_goals go_ret
 all_goals exact ⟨ret_int HZ.out,(HEND.out _).1.frs (FrS.of_gr (S:=fun _=>False) ((Gr.refl _).drewN _)) (fun _ _ q=>q),(HEND.out _).2.drewN _⟩
/-- One element more, laid in a block of its own; where the row is then. -/
theorem app1x {P:Program} {w:World} {ops:Array Oper} {rest:List Oper} {o:Oper} {a:Act} {Q:Exit→Act→World→Prop} {B n:Nat} {t e:TypeId} {i:TypeInfo} {z:Value} {bytes:Nat}
  (ht:P.underlying t=some (.slice e)) (hi:P.info? e=some i) (hz:i.zero=some z) (hsize:i.size=1) (hby:i.bytes=bytes) (hzs:z.cells.size=1) (hbb:bytes≤128)
  (hgd:o.guard=none) (s x:Operand) (ho:o.op=.call { callee:=.builtin .append,args:=#[s,x],argTypes:=#[t,t] })
  {v:Value} {xs:List Value} (hn:xs.length=n) (hs:a.eval s=v) (hown:Own1 B e w v xs) {y:Value} {e':TypeId} (hy:y.oneCell'=true) (hx:a.eval x=.slice (some ⟨w.heap.size,0,none⟩) 1 1) (hlt:n<1099511627776) (hB:B≤w.heap.size)
  (h:∀ A c w',Own1 B e w' (.slice A (n+1) c) (xs++[y])→(w.alloc (.cells #[y] e')).grownBy w' v.ownBlock→(∀ k,(Value.slice A (n+1) c).ownBlock=some k→v.ownBlock=some k∨w.heap.size≤k)→wpList P ops Q rest (a.put o.dst (.slice A (n+1) c)) w') :
  wpList P ops Q (o::rest) a (w.alloc (.cells #[y] e')):=by
 subst hn
 refine wpList_append_src hgd s x t ho B e i z 1 bytes ht hi hz hsize hby hzs (by omega) v xs.length xs hs (own_gr hown ((Gr.refl _).alloc _)) _ 1 [y] hx (Src.new1 _ _ _) ?_ ?_ ?_ ?_ ?_
 ·intro u hu;simp at hu;subst hu;exact hy
 ·simp only [maxLen];omega
 ·have:(xs.length+1) * bytes≤(xs.length+1) * 128:=Nat.mul_le_mul_left _ hbb
  omega
 ·simp;omega
 ·intro v' w' hown' hg hat
  have hown'':Own1 B e w' v' (xs++[y]):=by unfold Own1;rw [List.length_append];exact hown'
  obtain ⟨A,c,hv⟩:=hown''.form
  rw [List.length_append] at hv
  subst hv
  refine h A c w' hown'' hg fun k hk=>?_
  rcases hat with q | q
  ·exact .inl (q ▸ hk)
  ·have q':(Value.slice A (xs.length+1) c).ownBlock=some (w.alloc (.cells #[y] e')).heap.size:=q
   rw [q'] at hk
   injection hk with hk
   right
   rw [← hk];simp
section
variable {B Bg:Nat} {W w2:World} {p ws:List Int} {u:Nat} {vp vw v':Value} {tmp:Obj}
theorem ExAt.pushP (h:ExAt B Bg W p ws u vp vw) {z:Int} (hg:(W.alloc tmp).grownBy w2 vp.ownBlock) (ho:Own1 B 35 w2 v' (p.map (Value.int .u32)++[.int .u32 z])) (hat:∀ k,v'.ownBlock=some k→vp.ownBlock=some k∨W.heap.size≤k) :
  w2.heap[Bg]?=some (.cells #[vp,vw,.int .i64 u] 86 (0,0))∧ExAt B Bg (w2.setCell ⟨Bg,0,none⟩ v') (p++[z]) ws u v' vw∧FrS (exO Bg vp vw) W (w2.setCell ⟨Bg,0,none⟩ v')∧∀ k,exO Bg v' vw k→exO Bg vp vw k∨W.heap.size≤k:=by
 have hF2:FrS (exO Bg vp vw) W w2:=((FrS.refl _ W).alloc tmp).grown hg (fun k hk=>.inl (.inr (.inl hk)))
 have hne:∀ {k:Nat},vp.ownBlock=some k→k≠Bg:=fun hk=>by
  obtain ⟨-,-,cur,q⟩:=own_row h.pth hk
  exact ne_of_type q h.st (by decide)
 have hnw:∀ {k:Nat},vw.ownBlock=some k→k≠Bg∧vp.ownBlock≠some k:=fun hk=>by
  obtain ⟨-,-,cur,q⟩:=own_row h.wid hk
  refine ⟨ne_of_type q h.st (by decide),fun e=>?_⟩
  obtain ⟨-,-,cur',q'⟩:=own_row h.pth e
  exact ne_of_type q q' (by decide) rfl
 have keep:∀ k,k<W.heap.size→vp.ownBlock≠some k→w2.heap[k]?=W.heap[k]?:=fun k hk hn=>(hg.block k (by simp;omega) (fun e=>hn e.symm)).trans (((Gr.refl W).alloc tmp).heap k hk)
 have hst:w2.heap[Bg]?=some (.cells #[vp,vw,.int .i64 u] 86 (0,0)):=(keep Bg (lt_of_heap h.st) (fun e=>hne e rfl)).trans h.st
 have hn':∀ {k:Nat},v'.ownBlock=some k→k≠Bg:=fun hk=>by
  obtain ⟨-,-,cur,q⟩:=own_row ho hk
  exact ne_of_type q hst (by decide)
 refine ⟨hst,⟨heap_setCell_at (i:=0) v' hst,?_,?_,h.ge⟩,hF2.setCell (p:=⟨Bg,0,none⟩) (.inl rfl) _,fun k hk=>?_⟩
 ·rw [List.map_append]
  exact own_same ho fun k hk=>RowKit.Below.heap_setCell _ _ _ _ (hn' hk)
 ·exact own_same h.wid fun k hk=>(RowKit.Below.heap_setCell _ _ _ _ (hnw hk).1).trans (keep k (own_row h.wid hk).2.1 (hnw hk).2)
 ·rcases hk with hk | hk | hk
  ·exact .inl (.inl hk)
  ·exact (hat k hk).elim (fun q=>.inl (.inr (.inl q))) .inr
  ·exact .inl (.inr (.inr hk))
theorem ExAt.pushW (h:ExAt B Bg W p ws u vp vw) {z:Int} (hg:(W.alloc tmp).grownBy w2 vw.ownBlock) (ho:Own1 B 3 w2 v' (ws.map (Value.int .i64)++[.int .i64 z])) (hat:∀ k,v'.ownBlock=some k→vw.ownBlock=some k∨W.heap.size≤k) :
  w2.heap[Bg]?=some (.cells #[vp,vw,.int .i64 u] 86 (0,0))∧ExAt B Bg (w2.setCell ⟨Bg,1,none⟩ v') p (ws++[z]) u vp v'∧FrS (exO Bg vp vw) W (w2.setCell ⟨Bg,1,none⟩ v')∧∀ k,exO Bg vp v' k→exO Bg vp vw k∨W.heap.size≤k:=by
 have hF2:FrS (exO Bg vp vw) W w2:=((FrS.refl _ W).alloc tmp).grown hg (fun k hk=>.inl (.inr (.inr hk)))
 have hnw:∀ {k:Nat},vw.ownBlock=some k→k≠Bg:=fun hk=>by
  obtain ⟨-,-,cur,q⟩:=own_row h.wid hk
  exact ne_of_type q h.st (by decide)
 have hne:∀ {k:Nat},vp.ownBlock=some k→k≠Bg∧vw.ownBlock≠some k:=fun hk=>by
  obtain ⟨-,-,cur,q⟩:=own_row h.pth hk
  refine ⟨ne_of_type q h.st (by decide),fun e=>?_⟩
  obtain ⟨-,-,cur',q'⟩:=own_row h.wid e
  exact ne_of_type q q' (by decide) rfl
 have keep:∀ k,k<W.heap.size→vw.ownBlock≠some k→w2.heap[k]?=W.heap[k]?:=fun k hk hn=>(hg.block k (by simp;omega) (fun e=>hn e.symm)).trans (((Gr.refl W).alloc tmp).heap k hk)
 have hst:w2.heap[Bg]?=some (.cells #[vp,vw,.int .i64 u] 86 (0,0)):=(keep Bg (lt_of_heap h.st) (fun e=>hnw e rfl)).trans h.st
 have hn':∀ {k:Nat},v'.ownBlock=some k→k≠Bg:=fun hk=>by
  obtain ⟨-,-,cur,q⟩:=own_row ho hk
  exact ne_of_type q hst (by decide)
 refine ⟨hst,⟨heap_setCell_at (i:=1) v' hst,?_,?_,h.ge⟩,hF2.setCell (p:=⟨Bg,1,none⟩) (.inl rfl) _,fun k hk=>?_⟩
 ·exact own_same h.pth fun k hk=>(RowKit.Below.heap_setCell _ _ _ _ (hne hk).1).trans (keep k (own_row h.pth hk).2.1 (hne hk).2)
 ·rw [List.map_append]
  exact own_same ho fun k hk=>RowKit.Below.heap_setCell _ _ _ _ (hn' hk)
 ·rcases hk with hk | hk | hk
  ·exact .inl (.inl hk)
  ·exact .inl (.inr (.inl hk))
  ·exact (hat k hk).elim (fun q=>.inl (.inr (.inr q))) .inr
end
set_option maxRecDepth 100000 in
set_option maxHeartbeats 1000000 in
theorem exchoose_out {B Bg:Nat} {w:World} {p ws:List Int} {vp vw:Value} (h:ExAt B Bg w p ws p.length vp vw) (hl:ws.length=p.length) (hp:p.length≤1000000) (n:Int) :
  Calls Tryz.prog 264 #[.pointer (some ⟨Bg,0,none⟩),.int .i64 n] w fun e w'=>e=.returned (.int .u32 0)∧∃ vp' vw',ExAt B Bg w' (p++[0]) (ws++[n]) (p.length+1) vp' vw'∧FrS (exO Bg vp vw) w w'∧∀ k,exO Bg vp' vw' k→exO Bg vp vw k∨w.heap.size≤k:=by
 obtain ⟨iu,hiu,hu0,hu1,hu2⟩:=info_parts info_u32
 obtain ⟨i0,hi,hz0,hz1,hz2⟩:=info_parts info_int
 obtain ⟨A,c,rfl⟩:=h.pth.form
 obtain ⟨A',c',rfl⟩:=h.wid.form
 rw [List.length_map] at h
 rw [List.length_map] at h
 rw [List.length_map,List.length_map]
 have c0:w.cell? ⟨Bg,0,none⟩=some (.slice A p.length c):=cell_of_row _ _ 0 _ _ _ h.st
 have c2:w.cell? ⟨Bg,2,none⟩=some (.int .i64 p.length):=cell_of_row _ _ 2 _ _ _ h.st
 have HH:=Lib.hid h
 have HB:Hid (B≤w.heap.size):=by show _≤_;have:=h.ge;have:=lt_of_heap h.st;omega
 have HL:=Lib.hid hl
 have hlw:ws.length≤1000000:=by omega
 clear h hl
 go_enter Tryz.func264, Tryz.ntmps264
 go_wp2
 go_quiet ((fail))
 obtain ⟨W1,hW1⟩:∃ W1,w.drewN nq=W1:=⟨_,rfl⟩
 have g1:Gr w W1:=by rw [← hW1];exact (Gr.refl w).drewN _
 have h1:=HH.out.frs (FrS.of_gr (S:=fun _=>False) g1) (fun _ _ q=>q)
 have H1:=Lib.hid h1
 have G1:=Lib.hid g1
 have d0:W1.cell? ⟨Bg,0,none⟩=some (.slice A p.length c):=cell_of_row _ _ 0 _ _ _ h1.st
 have z0:W1.frozen? ⟨Bg,0,none⟩=false:=frozen_of_row _ _ 0 _ _ h1.st
 rw [hW1]
 clear hW1 h1 g1
 go_wp2_with (first
   | (at_builtin;refine app1x (n:=p.length) (v:=.slice A p.length c) Tryz.underlying26 hiu hu0 hu1 hu2 rfl (by omega) rfl (.tmp 19) (.tmp 20) rfl (List.length_map _) rfl H1.out.pth rfl rfl (by omega) (by have:=HB.out;have:=G1.out.size;omega) ?_;intro A2 c2 w2 ho2 hg2 hat2;
       obtain ⟨r0,r1,r2,r3⟩:=H1.out.pushP hg2 ho2 hat2;have hx0:w2.cell? ⟨Bg,0,none⟩=some (.slice A p.length c):=cell_of_row _ _ 0 _ _ _ r0;have y0:w2.frozen? ⟨Bg,0,none⟩=false:=frozen_of_row _ _ 0 _ _ r0;
       obtain ⟨W3,hW3⟩:∃ W3,w2.setCell ⟨Bg,0,none⟩ (.slice A2 (p.length+1) c2)=W3:=⟨_,rfl⟩;rw [hW3] at r1 r2;have H3:=Lib.hid r1;have F3:=Lib.hid r2;have O3:=Lib.hid r3;
       have e1:W3.cell? ⟨Bg,1,none⟩=some (.slice A' ws.length c'):=(cell_of_row _ _ 1 _ _ _ r1.st);have e2:W3.frozen? ⟨Bg,1,none⟩=false:=(frozen_of_row _ _ 1 _ _ r1.st);clear r0 r1 r2 r3 ho2 hg2 hat2)
   | (at_builtin;refine app1x (n:=ws.length) (v:=.slice A' ws.length c') Tryz.underlying22 hi hz0 hz1 hz2 rfl (by omega) rfl (.tmp 28) (.tmp 30) rfl (List.length_map _) rfl H3.out.wid rfl rfl (by omega) (by have:=HB.out;have:=G1.out.size;have:=F3.out.size;omega) ?_;intro A4 c4 w4 ho4 hg4 hat4;
       obtain ⟨r0,r1,r2,r3⟩:=H3.out.pushW hg4 ho4 hat4;have hx1:w4.cell? ⟨Bg,1,none⟩=some (.slice A' ws.length c'):=cell_of_row _ _ 1 _ _ _ r0;have y1:w4.frozen? ⟨Bg,1,none⟩=false:=frozen_of_row _ _ 1 _ _ r0;
       obtain ⟨W5,hW5⟩:∃ W5,w4.setCell ⟨Bg,1,none⟩ (.slice A4 (ws.length+1) c4)=W5:=⟨_,rfl⟩;rw [hW5] at r1 r2;have H5:=Lib.hid r1;have F5:=Lib.hid r2;have O5:=Lib.hid r3;
       have e3:W5.cell? ⟨Bg,2,none⟩=some (.int .i64 p.length):=(cell_of_row _ _ 2 _ _ _ r1.st);have e4:W5.frozen? ⟨Bg,2,none⟩=false:=(frozen_of_row _ _ 2 _ _ r1.st);clear r0 r1 r2 r3 ho4 hg4 hat4))
 obtain ⟨W6,hW6⟩:∃ W6,W5.setCell ⟨Bg,2,none⟩ (.int .i64 ((p.length:Int)+1))=W6:=⟨_,rfl⟩
 have h6:=H5.out.used (p.length+1)
 rw [show ((p.length+1:Nat):Int)=(p.length:Int)+1 from rfl,hW6] at h6
 have hF6:FrS (exO Bg (.slice A2 (p.length+1) c2) (.slice A4 (ws.length+1) c4)) W5 W6:=by rw [← hW6];exact (FrS.refl _ W5).setCell (p:=⟨Bg,2,none⟩) (.inl rfl) _
 obtain ⟨b,cc,ev,-,-,q1,-,-⟩:=own_cell h6.pth (j:=p.length) (x:=.int .u32 0) (by rw [List.getElem?_map,List.getElem?_append_right (Nat.le_refl _)];simp)
 injection ev with ev1 ev2 ev3
 subst ev1
 have d1:W6.cell? ⟨Bg,0,none⟩=some (.slice (some ⟨b,0,none⟩) (p.length+1) c2):=cell_of_row _ _ 0 _ _ _ h6.st
 have d2:W6.cell? ⟨Bg,2,none⟩=some (.int .i64 ((p.length:Int)+1)):=cell_of_row _ _ 2 _ _ _ h6.st
 have hc2:p.length+1≤c2:=by
  obtain ⟨_,_,ee,hh,_⟩:=own_form h6.pth
  injection ee with _ e1 e2
  simp at e1;omega
 have HEND:Hid (∀ w9,Gr W6 w9→∃ vp' vw',ExAt B Bg w9 (p++[0]) (ws++[n]) (p.length+1) vp' vw'∧FrS (exO Bg (.slice A p.length c) (.slice A' ws.length c')) w w9∧∀ k,exO Bg vp' vw' k→exO Bg (.slice A p.length c) (.slice A' ws.length c') k∨w.heap.size≤k):=fun w9 g9=>by
  have s1:=G1.out.size
  have s3:=F3.out.size
  have s5:=F5.out.size
  refine ⟨_,_,h6.frs (FrS.of_gr (S:=fun _=>False) g9) (fun _ _ q=>q),?_,?_⟩
  ·have f1:FrS (fun k=>exO Bg (.slice A p.length c) (.slice A' ws.length c') k∨w.heap.size≤k) w w9 :=
    ((((FrS.of_gr G1.out).trans (F3.out.mono fun k hk=>.inl hk)).trans (F5.out.mono fun k hk=>(O3.out k hk).imp (fun q=>q) (fun q=>by omega))).trans
      (hF6.mono fun k hk=>(O5.out k hk).elim (fun q=>(O3.out k q).imp (fun q=>q) (fun q=>by omega)) (fun q=>.inr (by omega)))).trans (FrS.of_gr g9)
   exact ⟨f1.os,f1.tape,f1.output,f1.size,fun k hk hn=>f1.block k hk (fun q=>q.elim hn (fun q=>by omega))⟩
  ·intro k hk
   rcases O5.out k hk with q | q
   ·exact (O3.out k q).imp (fun q=>q) (fun q=>by omega)
   ·exact .inr (by omega)
 rw [hW6]
 clear hW6 h6 hF6 ev2 ev3
 go_quiet ((fail))
 all_goals go_wp2
 all_goals go_ret
 all_goals exact ⟨rfl,HEND.out _ ((Gr.refl _).drewN _)⟩
end Go.Proofs.YthfhamagopbgcaaGreat
