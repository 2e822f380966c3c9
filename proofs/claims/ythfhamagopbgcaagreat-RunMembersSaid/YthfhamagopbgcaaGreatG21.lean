/- Parts: Sk Sl Sm Si. -/
import Derived.Test.YthfhamagopbgcaaGreatG20
namespace Go.Proofs.YthfhamagopbgcaaGreat
set_option linter.unusedSimpArgs false
set_option linter.unusedVariables false
namespace Rn

/-- How many outcomes come before x. -/
def below (x:Out) (l:List Out):Nat:=l.countP fun o=>decide (cmpOut o x<0)
theorem below_le (x:Out) (l:List Out):below x l≤l.length:=List.countP_le_length
theorem asc_tail {y:Out} {r:List Out} (h:Asc (y::r)):Asc r:=by unfold Asc at *;rw [List.pairwise_cons] at h;exact h.2
/-- Behind one that does not come before x there is none that does. -/
theorem below_none (x:Out):∀ (l:List Out) (y:Out),Asc (y::l)→¬ cmpOut y x<0→∀ z ∈ l,¬ cmpOut z x<0:=by
 intro l y h hy z hz hzx
 unfold Asc at h
 rw [List.pairwise_cons] at h
 have h1:=h.1 z hz
 have h2:cmpOut z x=-1:=by have:=isCmp_out.three z x;omega
 have:=isCmp_out.trans _ _ _ h1 h2
 omega
theorem below_at (x:Out):∀ (l:List Out),Asc l→(∀ j y,l[j]?=some y→(cmpOut y x<0↔j<below x l))
 | [],_,j,y,h=>by simp at h
 | y::r,ha,j,z,hz=>by
  by_cases hy:cmpOut y x<0
  ·have e:below x (y::r)=below x r+1:=by unfold below;rw [List.countP_cons_of_pos (by simpa using hy)]
   rw [e]
   cases j with
   | zero=>simp at hz;subst hz;exact ⟨fun _=>Nat.succ_pos _,fun _=>hy⟩
   | succ j=>rw [List.getElem?_cons_succ] at hz;rw [below_at x r (asc_tail ha) j z hz];omega
  ·have hn:=below_none x r y ha hy
   have e:below x (y::r)=0:=by
    unfold below
    rw [List.countP_eq_zero]
    intro o ho
    rcases List.mem_cons.1 ho with rfl | ho
    ·simpa using hy
    ·simpa using hn o ho
   rw [e]
   constructor
   ·intro hzx
    exfalso
    rcases List.mem_cons.1 (List.mem_of_getElem? hz) with rfl | q
    ·exact hy hzx
    ·exact hn z q hzx
   ·intro q;omega
/-- What an insertion is. -/
theorem insert_found (x:Out):∀ (l:List Out),Asc l→l[below x l]?=some x→insert x l=l
 | [],_,h=>by simp at h
 | y::r,ha,h=>by
  rw [insert]
  split
  ·rfl
  next e =>
   by_cases hy:cmpOut y x<0
   ·have eb:below x (y::r)=below x r+1:=by unfold below;rw [List.countP_cons_of_pos (by simpa using hy)]
    rw [eb,List.getElem?_cons_succ] at h
    rw [if_neg (by have:=isCmp_out.swap x y;omega),insert_found x r (asc_tail ha) h]
   ·exfalso
    have eb:below x (y::r)=0:=by
     have:=(below_at x (y::r) ha 0 y rfl)
     omega
    rw [eb] at h
    simp at h
    subst h
    exact e ((isCmp_out.zero _ _).2 rfl)
theorem insert_new (x:Out):∀ (l:List Out),Asc l→l[below x l]?≠some x→insert x l=l.take (below x l)++x::l.drop (below x l)
 | [],_,_=>rfl
 | y::r,ha,h=>by
  rw [insert]
  by_cases hy:cmpOut y x<0
  ·have eb:below x (y::r)=below x r+1:=by unfold below;rw [List.countP_cons_of_pos (by simpa using hy)]
   rw [eb,List.getElem?_cons_succ] at h
   have hs:=isCmp_out.swap x y
   rw [if_neg (by omega),if_neg (by omega),insert_new x r (asc_tail ha) h,eb]
   rfl
  ·have eb:below x (y::r)=0:=by
    have:=(below_at x (y::r) ha 0 y rfl)
    omega
   rw [eb] at h ⊢
   have hne:cmpOut x y≠0:=fun e=>h (by rw [(isCmp_out.zero _ _).1 e];rfl)
   have hs:=isCmp_out.swap x y
   have ht:=isCmp_out.three x y
   rw [if_neg hne,if_pos (by omega)]
   rfl
end Rn
end Go.Proofs.YthfhamagopbgcaaGreat
namespace Go.Proofs.YthfhamagopbgcaaGreat
set_option linter.unusedSimpArgs false
set_option linter.unusedVariables false
namespace Rn
open Ref

theorem exec_ways (f:Fn) (pick:Pick) (x:Ins) (s:St) (M:Res × St→Prop) (hgo:∀ t,M (.go t,s)) (hfin:M (.fin undefd,s)) (hret:x.op=31→M (.fin ⟨0,(x.args.map s.get).getD 0 zero,s.mem⟩,s)) (hval:∀ v,M (.val v,s))
  (hon:∀ m,M (.on,{ s with mem:=m })) (hch:∀ v,M (.val v,s.chose x.width)):M (exec f pick x s):=by
 unfold exec
 dsimp only
 by_cases h1:x.op=29
 ·rw [if_pos h1];exact hgo _
 rw [if_neg h1]
 by_cases h2:x.op=30
 ·rw [if_pos h2]
  split
  ·exact hfin
  ·exact hgo _
 rw [if_neg h2]
 by_cases h3:x.op=31
 ·rw [if_pos h3];exact hret h3
 rw [if_neg h3]
 by_cases h4:x.op=32
 ·rw [if_pos h4];exact hfin
 rw [if_neg h4]
 by_cases h5:x.op=26
 ·rw [if_pos h5]
  split
  ·exact hfin
  ·exact hval _
 rw [if_neg h5]
 by_cases h6:x.op=27
 ·rw [if_pos h6]
  split
  ·exact hfin
  ·exact hon _
 rw [if_neg h6]
 by_cases h7:x.op=21
 ·rw [if_pos h7]
  split
  ·exact hch _
  ·exact hval _
 rw [if_neg h7]
 by_cases h8:x.op=23
 ·rw [if_pos h8];exact hch _
 rw [if_neg h8]
 by_cases h9:x.op=15
 ·rw [if_pos h9];split <;> exact hval _
 rw [if_neg h9]
 by_cases h10:1≤x.op∧x.op≤13
 ·rw [if_pos h10]
  split
  ·exact hfin
  ·exact hval _
 rw [if_neg h10]
 split <;> exact hval _
theorem exec_steps (f:Fn) (pick:Pick) (x:Ins) (s:St):(exec f pick x s).2.steps=s.steps :=
 exec_ways f pick x s (fun r=>r.2.steps=s.steps) (fun _=>rfl) rfl (fun _=>rfl) (fun _=>rfl) (fun _=>rfl) (fun _=>rfl)
theorem runIns_steps (f:Fn) (pick:Pick) (rs:List V):∀ (l:List Ins) (i v:Nat) (s:St),s.steps≤400 →
  (runIns f pick rs l i v s).2.steps≤400∧s.steps≤(runIns f pick rs l i v s).2.steps∧(∀ t,(runIns f pick rs l i v s).1=.run t→s.steps+1≤(runIns f pick rs l i v s).2.steps)
 | [],i,v,s,h=>⟨h,Nat.le_refl _,fun t q=>by simp [runIns] at q⟩
 | x::r,i,v,s,h=>by
  rw [runIns]
  split
  next h1=>exact ⟨h,Nat.le_refl _,fun t q=>by cases q⟩
  next h1 =>
   split
   next h2 =>
    obtain ⟨q1,q2,q3⟩:=runIns_steps f pick rs r (i+1) (v+1) (s.tick.set v (rs.getD i zero)) (by show s.steps+1≤400;omega)
    have e:(s.tick.set v (rs.getD i zero)).steps=s.steps+1:=rfl
    rw [e] at q2 q3
    exact ⟨q1,by omega,fun t q=>by have:=q3 t q;omega⟩
   next h2 =>
    have hs:=exec_steps f pick x s.tick
    have e:s.tick.steps=s.steps+1:=rfl
    rw [e] at hs
    split
    next y s' hq =>
     rw [hq] at hs
     have hs':s'.steps=s.steps+1:=hs
     obtain ⟨q1,q2,q3⟩:=runIns_steps f pick rs r (i+1) (v+1) (s'.set v y) (by show s'.steps≤400;omega)
     have e2:(s'.set v y).steps=s'.steps:=rfl
     rw [e2] at q2 q3
     exact ⟨q1,by omega,fun t q=>by have:=q3 t q;omega⟩
    next s' hq =>
     rw [hq] at hs
     have hs':s'.steps=s.steps+1:=hs
     obtain ⟨q1,q2,q3⟩:=runIns_steps f pick rs r (i+1) (v+1) s' (by omega)
     exact ⟨q1,by omega,fun t q=>by have:=q3 t q;omega⟩
    next t' s' hq =>
     rw [hq] at hs
     have hs':s'.steps=s.steps+1:=hs
     exact ⟨by show s'.steps≤400;omega,by show _≤s'.steps;omega,fun t q=>by show _≤s'.steps;omega⟩
    next o s' hq =>
     rw [hq] at hs
     have hs':s'.steps=s.steps+1:=hs
     exact ⟨by show s'.steps≤400;omega,by show _≤s'.steps;omega,fun t q=>by cases q⟩
theorem block_steps (f:Fn) (pick:Pick) (b:Nat) (frm:Int) (s:St) (h:s.steps≤400) :
  (block f pick b frm s).2.steps≤400∧s.steps≤(block f pick b frm s).2.steps∧(∀ t,(block f pick b frm s).1=.run t→s.steps+1≤(block f pick b frm s).2.steps):=runIns_steps f pick _ _ _ _ _ h
/-- What an outcome is like; s: the state at the end. -/
def OutOf (f:Fn) (s:St) (o:Out):Prop :=
 (o.kind=0∧o.mem=s.mem∧o.ret.s=0∧0≤o.ret.n∧o.ret.n<4294967296)∨o=undefd∨o=long
theorem exec_fin (f:Fn) (pick:Pick) (x:Ins) (s:St) {o:Out} (h:(exec f pick x s).1=.fin o):o=undefd∨(x.op=31∧o=⟨0,(x.args.map s.get).getD 0 zero,s.mem⟩):=by
 have:=exec_ways f pick x s (fun r=>∀ o,r.1=.fin o→o=undefd∨(x.op=31∧o=⟨0,(x.args.map s.get).getD 0 zero,s.mem⟩))
  (fun _ o h=>by cases h) (fun o h=>by injection h with h;exact .inl h.symm) (fun e o h=>by injection h with h;exact .inr ⟨e,h.symm⟩) (fun _ o h=>by cases h) (fun _ o h=>by cases h) (fun _ o h=>by cases h)
 exact this o h
section
variable {f:Fn} {b:Nat} {l:List Ins} {pick:Pick}
theorem fin_ok (hv:Val f) (hi:Im f) {i:Nat} {s:St} (h:Mid f b i l s) (hl:f.blocks[b]?=some l) {x:Ins} (hx:l[i]?=some x) (ho:x.op≠28) {o:Out} (hf:(exec f pick x s).1=.fin o):OutOf f s o:=by
 rcases exec_fin f pick x s hf with e | ⟨e,rfl⟩
 ·exact .inr (.inl e)
 ·left
  cases shp hv hi (List.mem_of_getElem? hl) (List.mem_of_getElem? hx) with
  | ret0 o ha hr hw=>rw [ha];exact ⟨rfl,rfl,rfl,Int.le_refl 0,by show (0:Int)<4294967296;decide⟩
  | ret o a ha ka hr hw =>
   have hk:=arg_there hv h hl hx ho (v:=a) (by simp [ha]) (by have:=hr.1;omega)
   rw [ka] at hk
   obtain ⟨q1,q2⟩:=hk.num hr
   have q3:=Wd.sz_32 hr
   rw [ha]
   exact ⟨rfl,rfl,q1,q2.1,Int.lt_of_lt_of_le q2.2 q3⟩
  | _=>exfalso;omega
/-- What a block leaves. -/
def BlockOk (f:Fn) (b:Nat):Nx × St→Prop
 | (.run t,s')=>∃ m,0≤t∧f.blocks[t.toNat]?=some m∧Ent f t.toNat b m s'
 | (.over o,s')=>Inv f s'∧OutOf f s' o
theorem runIns_ok (hA:RcAll) (hv:Val f) (hi:Im f) (hpk:PickOk pick) {frm:Int} {s0:St} (he:Ent f b frm l s0) (hl:f.blocks[b]?=some l) :
  ∀ (r:List Ins) (k:Nat) (s:St),l.drop k=r→Mid f b k l s→BlockOk f b (runIns f pick ((phis l).map (phiRead s0 frm)) r k (Ref.number f b+k) s)
 | [],k,s,_,hm=>⟨hm.toInv,.inr (.inl rfl)⟩
 | x::r,k,s,hr,hm=>by
  have hx:l[k]?=some x:=by
   have:(l.drop k)[0]?=some x:=by rw [hr];rfl
   rwa [List.getElem?_drop,Nat.add_zero] at this
  have hr':l.drop (k+1)=r:=by
   rw [show k+1=k+1 from rfl,← List.drop_drop,hr];rfl
  have ht:Mid f b k l s.tick:=hm.like (like_tick s)
  rw [runIns]
  split
  next h1=>exact ⟨hm.toInv,.inr (.inr rfl)⟩
  next h1 =>
   split
   next h2 =>
    rw [List.length_map] at h2
    exact runIns_ok hA hv hi hpk he hl r (k+1) _ hr' (phi_set hv he ht hl hx h2)
   next h2 =>
    rw [List.length_map] at h2
    have ho:x.op≠28:=fun q=>h2 ((phi_iff hv (List.mem_of_getElem? hl) hx).1 q)
    have hex:=exec_ok hv hi hpk ht hl hx ho
    split
    next y s' hq =>
     rw [hq] at hex
     obtain ⟨w1,w2,w3⟩:=hex
     exact runIns_ok hA hv hi hpk he hl r (k+1) _ hr' (w3.set hl hx w1 w2)
    next s' hq =>
     rw [hq] at hex
     obtain ⟨w1,w2⟩:=hex
     exact runIns_ok hA hv hi hpk he hl r (k+1) _ hr' (w2.skip hx w1)
    next t s' hq =>
     rw [hq] at hex
     obtain ⟨w1,rfl,w2⟩:=hex
     obtain ⟨m,m1,m2,m3,-⟩:=leave hA hv hi ht hl hx ho w1 w2
     exact ⟨m,m1,m2,m3⟩
    next o s' hq =>
     have hf:=fin_ok (pick:=pick) hv hi ht hl hx ho (o:=o) (by rw [hq])
     rw [hq] at hex
     obtain rfl:=hex
     exact ⟨ht.toInv,hf⟩
theorem block_ok (hA:RcAll) (hv:Val f) (hi:Im f) (hpk:PickOk pick) {frm:Int} {s:St} (he:Ent f b frm l s) (hl:f.blocks[b]?=some l):BlockOk f b (block f pick b frm s):=by
 unfold block
 rw [List.getD_eq_getElem?_getD,hl]
 exact runIns_ok hA hv hi hpk he hl l 0 s rfl he.toMid
/-- A run ends in a state that is right. -/
theorem from_ok (hA:RcAll) (hv:Val f) (hi:Im f) (hpk:PickOk pick):∀ (n b:Nat) (frm:Int) (s:St) (l:List Ins),f.blocks[b]?=some l→Ent f b frm l s→s.steps≤400→401≤s.steps+n →
  Inv f (from_ f pick n b frm s).2.1∧OutOf f (from_ f pick n b frm s).2.1 (from_ f pick n b frm s).1∧(from_ f pick n b frm s).2.1.steps≤400
 | 0,b,frm,s,l,_,_,h1,h2=>by omega
 | n+1,b,frm,s,l,hl,he,h1,h2=>by
  have hb:=block_ok hA hv hi hpk he hl
  have hs:=block_steps f pick b frm s h1
  rw [from_]
  cases hq:block f pick b frm s with
  | mk q s' =>
   rw [hq] at hb hs
   cases q with
   | over o=>exact ⟨hb.1,hb.2,hs.1⟩
   | run t =>
    obtain ⟨m,m1,m2,m3⟩:=hb
    have h3:s.steps+1≤s'.steps:=hs.2.2 t rfl
    exact from_ok hA hv hi hpk n t.toNat b s' m m2 m3 hs.1 (by omega)
end
end Rn
end Go.Proofs.YthfhamagopbgcaaGreat
namespace Go.Proofs.YthfhamagopbgcaaGreat
set_option linter.unusedSimpArgs false
set_option linter.unusedVariables false
namespace Rn
open Ref

theorem exec_wid (f:Fn) (pick:Pick) (x:Ins) (s:St):(exec f pick x s).2.widths=s.widths∨((exec f pick x s).2.widths=s.widths++[x.width]∧(x.op=21∨x.op=23)):=by
 unfold exec
 dsimp only
 by_cases h1:x.op=29
 ·rw [if_pos h1];exact .inl rfl
 rw [if_neg h1]
 by_cases h2:x.op=30
 ·rw [if_pos h2];split <;> exact .inl rfl
 rw [if_neg h2]
 by_cases h3:x.op=31
 ·rw [if_pos h3];exact .inl rfl
 rw [if_neg h3]
 by_cases h4:x.op=32
 ·rw [if_pos h4];exact .inl rfl
 rw [if_neg h4]
 by_cases h5:x.op=26
 ·rw [if_pos h5];split <;> exact .inl rfl
 rw [if_neg h5]
 by_cases h6:x.op=27
 ·rw [if_pos h6];split <;> exact .inl rfl
 rw [if_neg h6]
 by_cases h7:x.op=21
 ·rw [if_pos h7]
  split
  ·exact .inr ⟨rfl,.inl h7⟩
  ·exact .inl rfl
 rw [if_neg h7]
 by_cases h8:x.op=23
 ·rw [if_pos h8];exact .inr ⟨rfl,.inr h8⟩
 rw [if_neg h8]
 by_cases h9:x.op=15
 ·rw [if_pos h9];split <;> exact .inl rfl
 rw [if_neg h9]
 by_cases h10:1≤x.op∧x.op≤13
 ·rw [if_pos h10];split <;> exact .inl rfl
 rw [if_neg h10]
 split <;> exact .inl rfl
/-- No more choices than steps, all of right widths. -/
def WOk (s:St):Prop:=s.widths.length≤s.steps∧∀ z ∈ s.widths,Wd.Wid z
theorem exec_wok {f:Fn} {pick:Pick} {x:Ins} {s:St} (hx:x.op=21∨x.op=23→Wd.Wid x.width) (h:WOk s):WOk (exec f pick x s.tick).2:=by
 have e:s.tick.steps=s.steps+1:=rfl
 have e2:s.tick.widths=s.widths:=rfl
 unfold WOk
 rw [exec_steps,e]
 rcases exec_wid f pick x s.tick with q | ⟨q,q2⟩
 ·rw [q,e2];exact ⟨by have:=h.1;omega,h.2⟩
 ·rw [q,e2,List.length_append,List.length_singleton]
  refine ⟨by have:=h.1;omega,fun z hz=>?_⟩
  rcases List.mem_append.1 hz with hz | hz
  ·exact h.2 z hz
  ·rw [List.mem_singleton.1 hz];exact hx q2
theorem runIns_wok (f:Fn) (pick:Pick) (rs:List V):∀ (l:List Ins) (i v:Nat) (s:St),(∀ x ∈ l,x.op=21∨x.op=23→Wd.Wid x.width)→WOk s→WOk (runIns f pick rs l i v s).2
 | [],i,v,s,_,h=>h
 | x::r,i,v,s,hl,h=>by
  rw [runIns]
  have hr:∀ y ∈ r,y.op=21∨y.op=23→Wd.Wid y.width:=fun y hy=>hl y (List.mem_cons_of_mem _ hy)
  split
  ·exact h
  ·split
   ·exact runIns_wok f pick rs r _ _ _ hr ⟨by have:=h.1;show s.widths.length≤s.steps+1;omega,h.2⟩
   ·have hs:=exec_wok (f:=f) (pick:=pick) (hl x (List.mem_cons_self)) h
    split
    next y s' hq=>rw [hq] at hs;exact runIns_wok f pick rs r _ _ _ hr hs
    next s' hq=>rw [hq] at hs;exact runIns_wok f pick rs r _ _ _ hr hs
    next t' s' hq=>rw [hq] at hs;exact hs
    next o s' hq=>rw [hq] at hs;exact hs
theorem wid_chosen {f:Fn} (hv:Val f) (hi:Im f) {b:Nat} {l:List Ins} (hl:f.blocks[b]?=some l):∀ x ∈ l,x.op=21∨x.op=23→Wd.Wid x.width:=fun x hx ho=>by
 cases shp hv hi (List.mem_of_getElem? hl) hx with
 | freeze h1 a h2 h3 h4=>exact h4
 | any h1 h2 h3=>exact h3
 | _=>exfalso;omega
theorem block_wok {f:Fn} (hv:Val f) (hi:Im f) (pick:Pick) (b:Nat) (frm:Int) {s:St} (h:WOk s):WOk (block f pick b frm s).2:=by
 unfold block
 cases hl:f.blocks[b]? with
 | none=>rw [List.getD_eq_getElem?_getD,hl];exact h
 | some l=>rw [List.getD_eq_getElem?_getD,hl];exact runIns_wok _ _ _ _ _ _ _ (wid_chosen hv hi hl) h
theorem from_wok {f:Fn} (hv:Val f) (hi:Im f) (pick:Pick):∀ (n b:Nat) (frm:Int) (s:St),WOk s→WOk (from_ f pick n b frm s).2.1
 | 0,b,frm,s,h=>h
 | n+1,b,frm,s,h=>by
  rw [from_]
  have hs:=block_wok hv hi pick b frm h
  split
  next o s' hq=>rw [hq] at hs;exact hs
  next t s' hq=>rw [hq] at hs;exact from_wok hv hi pick n _ _ _ hs
/-- What is true of every run. -/
theorem run_ok {f:Fn} {i:Inp} (hA:RcAll) (hv:Val f) (hi:Im f) (hin:validInput f i=0) (ha:∀ a ∈ i.args,0≤a) (p:List Int) :
  (wids f i p).length≤400∧(∀ z ∈ wids f i p,Wd.Wid z)∧Inv f (run f (given p) i).2.1∧OutOf f (run f (given p) i).2.1 (run f (given p) i).1:=by
 obtain ⟨l,h1,h2⟩:=start_ent hA hin ha
 obtain ⟨q1,q2,q3⟩:=from_ok hA hv hi (given_ok p) 401 0 (-1) (start f i) l h1 h2 (Nat.zero_le _) (by omega)
 have w:=from_wok hv hi (given p) 401 0 (-1) (start f i) ⟨Nat.zero_le _,fun z hz=>by cases hz⟩
 have e:run f (given p) i=from_ f (given p) 401 0 (-1) (start f i):=rfl
 unfold wids
 rw [e]
 exact ⟨by have:=w.1;omega,w.2,q1,q2⟩
theorem wid_at {ws:List Int} (h:∀ z ∈ ws,Wd.Wid z) {j:Nat} (hj:j<ws.length):Wd.Wid (ws.getD j 0):=by
 rw [List.getD_eq_getElem?_getD,List.getElem?_eq_getElem hj]
 exact h _ (List.getElem_mem hj)
/-- The choices are words. -/
theorem good_words {f:Fn} {i:Inp} {p:List Int} (h:Good f i p) (hw:∀ z ∈ wids f i p,Wd.Wid z):∀ z ∈ padded p (wids f i p).length,0≤z∧z<4294967296:=fun z hz=>by
 unfold padded at hz
 rcases List.mem_append.1 hz with hz | hz
 ·obtain ⟨j,hj⟩:=List.getElem?_of_mem hz
  have hjl:=(List.getElem?_eq_some_iff.1 hj).1
  obtain ⟨h1,h2⟩:=h.2 j hjl
  have h3:Wd.sz ((wids f i p).getD j 0)≤4294967296:=Wd.sz_32 (wid_at hw (by have:=h.1;omega))
  rw [List.getD_eq_getElem?_getD,hj] at h1 h2
  exact ⟨h1,Int.lt_of_lt_of_le h2 h3⟩
 ·rw [(List.mem_replicate.1 hz).2];decide
/-- One round. -/
theorem explore_round {f:Fn} {i:Inp} {n:Nat} {p:List Int} {outs:List Out} {R:Option (List Out)} (h:explore f i (n+1) p outs=R) :
  (nextK (padded p (wids f i p).length) (wids f i p) (wids f i p).length=none→R=some (insert (run f (given p) i).1 outs)) ∧
  ∀ k,nextK (padded p (wids f i p).length) (wids f i p) (wids f i p).length=some k→explore f i n (bump (padded p (wids f i p).length) k) (insert (run f (given p) i).1 outs)=R:=by
 rw [explore] at h
 constructor
 ·intro q
  unfold wids at q
  rw [q] at h
  exact h.symm
 ·intro k q
  unfold wids at q
  rw [q] at h
  exact h
theorem insert_len (x:Out):∀ l:List Out,(insert x l).length≤l.length+1
 | []=>Nat.le_refl _
 | y::r=>by
  rw [insert]
  split
  ·exact Nat.le_succ _
  ·split
   ·exact Nat.le_refl _
   ·have:=insert_len x r
    simp only [List.length_cons];omega
end Rn
end Go.Proofs.YthfhamagopbgcaaGreat
namespace Go.Proofs.YthfhamagopbgcaaGreat
set_option linter.unusedSimpArgs false
set_option linter.unusedVariables false
namespace Rn

def kAdd:Ins:=⟨1,8,2,[0,1],0,[]⟩
def kFreeze:Ins:=⟨21,8,0,[2],0,[]⟩
def kRet:Ins:=⟨31,0,0,[3],0,[]⟩
def kFn:Fn:={ params:=[8,8],ret:=8,slots:=[],blocks:=[[kAdd,kFreeze,kRet]] }
def kInp:Inp:=⟨[127,1],[]⟩
theorem k_valid:validInput kFn kInp=0:=by decide +kernel
theorem k_run:(run kFn (given [258]) kInp).1=⟨0,word 2,[]⟩∧(run kFn (given [258]) kInp).2.1.widths=[8]:=by decide +kernel
set_option maxRecDepth 100000 in
theorem k_all:(all kFn kInp).map List.length=some 256:=by decide +kernel
end Rn
end Go.Proofs.YthfhamagopbgcaaGreat
