/- The outcome of every run is among all outcomes. No program in sight. -/
import Derived.Test.YthfhamagopbgcaaGreatG21
namespace Go.Proofs.YthfhamagopbgcaaGreat
set_option linter.unusedSimpArgs false
set_option linter.unusedVariables false
namespace Rn
open Ref

/-- An instruction does the same by two picks that choose the same where it chooses. -/
theorem exec_agree (f:Fn) {pick pick':Pick} (x:Ins) (s:St) (h:(exec f pick x s).2.widths=s.widths++[x.width]→pick s.widths.length x.width=pick' s.widths.length x.width):exec f pick x s=exec f pick' x s:=by
 by_cases hc:x.op=23∨(x.op=21∧((x.args.map s.get).getD 0 zero).p=true)
 ·have hw:(exec f pick x s).2.widths=s.widths++[x.width]:=by
   unfold exec
   dsimp only
   rcases hc with o | ⟨o,p⟩
   ·simp [o,St.chose]
   ·simp only [o,p];simp [St.chose]
  have e:chosen pick s x.width=chosen pick' s x.width:=by unfold chosen;rw [h hw]
  unfold exec
  dsimp only
  rcases hc with o | ⟨o,p⟩
  ·simp [o,e]
  ·simp only [o,p];simp [e]
 ·unfold exec
  dsimp only
  by_cases o1:x.op=21
  ·have hp:¬ ((x.args.map s.get).getD 0 zero).p=true:=fun q=>hc (.inr ⟨o1,q⟩)
   rw [if_neg (by omega),if_neg (by omega),if_neg (by omega),if_neg (by omega),if_neg (by omega),if_neg (by omega),if_pos o1,if_neg hp,if_neg (by omega),if_neg (by omega),if_neg (by omega),if_neg (by omega),if_neg (by omega),if_neg (by omega),if_pos o1,if_neg hp]
  ·have o2:x.op≠23:=fun q=>hc (.inl q)
   simp [o1,o2]
theorem runIns_agree (f:Fn) {pick pick':Pick} (reads:List V) (ws:List Int) (h:∀ (j:Nat) (n:Int),ws[j]?=some n→pick j n=pick' j n):∀ (l:List Ins) (i v:Nat) (s:St),(runIns f pick reads l i v s).2.widths <+: ws→runIns f pick reads l i v s=runIns f pick' reads l i v s
 | [],i,v,s,_=>rfl
 | x::r,i,v,s,hp=>by
  by_cases h1:s.steps=400
  ·rw [runIns,runIns,if_pos h1,if_pos h1]
  by_cases h2:i<reads.length
  ·have e:∀ pk,runIns f pk reads (x::r) i v s=runIns f pk reads r (i+1) (v+1) (s.tick.set v (reads.getD i zero)):=fun pk=>by rw [runIns,if_neg h1,if_pos h2]
   rw [e] at hp
   rw [e,e]
   exact runIns_agree f reads ws h r _ _ _ hp
  have e:exec f pick x s.tick=exec f pick' x s.tick:=exec_agree f x s.tick fun hw=>h _ _ (by
    have q:=(step_prefix f pick reads x r i v s h1 h2).trans hp
    rw [hw] at q
    obtain ⟨t,rfl⟩:=q
    rw [List.append_assoc,List.getElem?_append_right (Nat.le_refl _),Nat.sub_self];rfl)
  rw [runIns,if_neg h1,if_neg h2] at hp
  rw [runIns,runIns,if_neg h1,if_neg h1,if_neg h2,if_neg h2,← e]
  cases hq:exec f pick x s.tick with
  | mk q s' =>
   rw [hq] at hp
   cases q with
   | val y=>exact runIns_agree f reads ws h r _ _ _ hp
   | on=>exact runIns_agree f reads ws h r _ _ _ hp
   | go t=>rfl
   | fin o=>rfl
theorem from_agree (f:Fn) {pick pick':Pick} (ws:List Int) (h:∀ (j:Nat) (n:Int),ws[j]?=some n→pick j n=pick' j n):∀ (k b:Nat) (frm:Int) (s:St),(from_ f pick k b frm s).2.1.widths <+: ws→from_ f pick k b frm s=from_ f pick' k b frm s
 | 0,_,_,_,_=>rfl
 | k+1,b,frm,s,hp=>by
  have key:(block f pick b frm s).2.widths <+: (from_ f pick (k+1) b frm s).2.1.widths:=by
   rw [from_]
   cases hq:block f pick b frm s with
   | mk q s' =>
    cases q with
    | over o=>exact List.prefix_refl _
    | run t=>exact from_prefix f pick k t.toNat b s'
  have e:block f pick b frm s=block f pick' b frm s:=runIns_agree f _ ws h _ _ _ _ (key.trans hp)
  rw [from_] at hp
  rw [from_,from_,← e]
  cases hq:block f pick b frm s with
  | mk q s' =>
   rw [hq] at hp
   cases q with
   | over o=>rfl
   | run t =>
    have:=from_agree f ws h k t.toNat b s' hp
    dsimp only
    rw [this]
/-- Two runs whose picks choose the same wherever the first one chooses are one. -/
theorem run_agree {f:Fn} {i:Inp} {pick pick':Pick} (h:∀ (j:Nat) (n:Int),(run f pick i).2.1.widths[j]?=some n→pick j n=pick' j n):run f pick i=run f pick' i:=from_agree f _ h 401 0 (-1) (start f i) (List.prefix_refl _)
theorem nextK_ge (p w:List Int):∀ (n k:Nat),k<n→p.getD k 0+1<Wd.sz (w.getD k 0)→∃ k',nextK p w n=some k'∧k≤k'
 | 0,k,h,_=>absurd h (Nat.not_lt_zero _)
 | n+1,k,h,h2=>by
  rw [nextK]
  split
  next h1=>exact ⟨n,rfl,by omega⟩
  next h1 =>
   have hne:k≠n:=fun e=>h1 (by rw [← e];exact h2)
   exact nextK_ge p w n k (by omega) h2
theorem getD_out {p:List Int} {j:Nat} (h:p.length≤j):p.getD j 0=0:=by rw [List.getD_eq_getElem?_getD,List.getElem?_eq_none h];rfl
/-- p comes before q, or is q. -/
def Lee (p q:List Int):Prop:=(∀ j:Nat,p.getD j 0=q.getD j 0)∨∃ k:Nat,(∀ j,j<k→p.getD j 0=q.getD j 0)∧p.getD k 0<q.getD k 0
theorem lee_zero {p q:List Int} {k:Nat} (h1:∀ j,j<k→p.getD j 0=q.getD j 0) (h2:∀ j,k≤j→p.getD j 0=0) (h3:∀ j:Nat,0≤q.getD j 0):Lee p q:=by
 by_cases h:∃ j:Nat,p.getD j 0<q.getD j 0
 ·obtain ⟨j,hj⟩:=h
  have key:∀ n:Nat,(∃ j:Nat,j<n∧p.getD j 0<q.getD j 0)→Lee p q:=by
   intro n
   induction n with
   | zero=>rintro ⟨j,hj,-⟩;omega
   | succ n ih =>
    rintro ⟨j,hj,hlt⟩
    by_cases hx:∃ j:Nat,j<n∧p.getD j 0<q.getD j 0
    ·exact ih hx
    ·refine .inr ⟨j,fun m hm=>?_,hlt⟩
     have hn:¬ p.getD m 0<q.getD m 0:=fun e=>hx ⟨m,by omega,e⟩
     rcases Nat.lt_or_ge m k with r | r
     ·exact h1 m r
     ·have:=h2 m r;have:=h3 m;omega
  exact key (j+1) ⟨j,Nat.lt_succ_self _,hj⟩
 ·left
  intro j
  rcases Nat.lt_or_ge j k with r | r
  ·exact h1 j r
  ·have:=h2 j r
   have:=h3 j
   have hn:¬ p.getD j 0<q.getD j 0:=fun e=>h ⟨j,e⟩
   omega
theorem given_mod (p:List Int) (j:Nat) (n:Int):given p j n=p.getD j 0 % Wd.sz n:=by
 unfold given
 split
 ·rfl
 next h=>rw [getD_out (by omega)];simp
theorem good_pos {f:Fn} {i:Inp} {p:List Int} (h:Good f i p) (j:Nat):0≤p.getD j 0:=by
 rcases Nat.lt_or_ge j p.length with q | q
 ·exact (h.2 j q).1
 ·rw [getD_out q];exact Int.le_refl 0
theorem good_at {f:Fn} {i:Inp} {p:List Int} (h:Good f i p) {j:Nat} {n:Int} (hn:(wids f i p)[j]?=some n):p.getD j 0<Wd.sz n∧given p j n=p.getD j 0:=by
 have hlt:p.getD j 0<Wd.sz n:=by
  rcases Nat.lt_or_ge j p.length with q | q
  ·have:=(h.2 j q).2
   rw [List.getD_eq_getElem?_getD (l:=wids f i p),hn] at this
   exact this
  ·rw [getD_out q];exact Wd.sz_pos _
 exact ⟨hlt,by rw [given_mod];exact Int.emod_eq_of_lt (good_pos h j) hlt⟩
theorem explore_keep {f:Fn} {i:Inp}:∀ (n:Nat) (p:List Int) (outs R:List Out),explore f i n p outs=some R→∀ o ∈ outs,o ∈ R
 | 0,p,outs,R,h=>by simp [explore] at h
 | n+1,p,outs,R,h=>by
  intro o ho
  obtain ⟨e1,e2⟩:=explore_round h
  have hi:o ∈ insert (run f (given p) i).1 outs:=(insert_mem _ _ _).2 (.inr ho)
  cases hk:nextK (padded p (wids f i p).length) (wids f i p) (wids f i p).length with
  | none=>have:=e1 hk;injection this with this;rw [this];exact hi
  | some k=>exact explore_keep n _ _ R (e2 k hk) o hi
theorem explore_has {f:Fn} {i:Inp} {q:List Int} (hq:Good f i q):∀ (n:Nat) (p:List Int) (outs R:List Out),explore f i n p outs=some R→Good f i p→Lee p q→(run f (given q) i).1 ∈ R
 | 0,p,outs,R,h,_,_=>by simp [explore] at h
 | n+1,p,outs,R,h,hp,hl=>by
  obtain ⟨e1,e2⟩:=explore_round h
  have hq0:=good_pos hq
  have hp0:=good_pos hp
  have same:(∀ j,j<(wids f i p).length→p.getD j 0=q.getD j 0)→(run f (given q) i).1 ∈ R:=by
   intro hs
   have hr:run f (given p) i=run f (given q) i:=run_agree fun j n hn=>by
    have hj:j<(wids f i p).length:=(List.getElem?_eq_some_iff.1 hn).1
    obtain ⟨g1,g2⟩:=good_at hp hn
    rw [given_mod q,← hs j hj,Int.emod_eq_of_lt (hp0 j) g1,g2]
   rw [← hr]
   have hi:(run f (given p) i).1 ∈ insert (run f (given p) i).1 outs:=(insert_mem _ _ _).2 (.inl rfl)
   cases hk:nextK (padded p (wids f i p).length) (wids f i p) (wids f i p).length with
   | none=>have:=e1 hk;injection this with this;rw [this];exact hi
   | some k=>exact explore_keep n _ _ R (e2 k hk) _ hi
  rcases hl with hl | ⟨k,hk1,hk2⟩
  ·exact same fun j _=>hl j
  ·rcases Nat.lt_or_ge k (wids f i p).length with hkn | hkn
   ·have hag:∀ j,j<k→∀ n,given p j n=given q j n:=fun j hj n=>by rw [given_mod,given_mod,hk1 j hj]
    have hw:(wids f i q).getD k 0=(wids f i p).getD k 0:=by
     rcases run_det hag f i with e | ⟨ws,w1,w2,w3⟩
     ·unfold wids;rw [e]
     ·have w2':ws <+: wids f i p:=w2
      have w3':ws <+: wids f i q:=w3
      rw [prefix_getD w2' w1,prefix_getD w3' w1]
    have hkq:k<q.length:=by
     apply Classical.byContradiction
     intro hge
     have:=getD_out (p:=q) (j:=k) (by omega)
     have:=hp0 k
     omega
    have hb:=(hq.2 k hkq).2
    rw [hw] at hb
    obtain ⟨k',hk',hle⟩:=nextK_ge (padded p (wids f i p).length) (wids f i p) _ k hkn (by rw [padded_get];omega)
    obtain ⟨g1,-⟩:=good_next hp hk'
    have hlen:=padded_len hp.1
    have hkn':=(nextK_some _ _ _ _ hk').1
    have hkl:k'<(padded p (wids f i p).length).length:=by rw [hlen];exact hkn'
    refine explore_has hq n _ _ R (e2 k' hk') g1 ?_
    rcases Nat.lt_or_ge k k' with hlt | hge
    ·refine .inr ⟨k,fun j hj=>?_,?_⟩
     ·rw [bump_lt hkl (by omega),padded_get,hk1 j hj]
     ·rw [bump_lt hkl hlt,padded_get];exact hk2
    ·obtain rfl:k'=k:=by omega
     by_cases heq:p.getD k' 0+1=q.getD k' 0
     ·refine lee_zero (k:=k'+1) (fun j hj=>?_) (fun j hj=>?_) hq0
      ·rcases Nat.lt_or_ge j k' with r | r
       ·rw [bump_lt hkl r,padded_get,hk1 j r]
       ·obtain rfl:j=k':=by omega
        rw [bump_self hkl,padded_get,heq]
      ·exact getD_out (by rw [bump_len hkl];omega)
     ·refine .inr ⟨k',fun j hj=>by rw [bump_lt hkl hj,padded_get,hk1 j hj],by rw [bump_self hkl,padded_get];omega⟩
   ·exact same fun j hj=>hk1 j (by omega)
theorem explore_asc {f:Fn} {i:Inp}:∀ (n:Nat) (p:List Int) (outs R:List Out),explore f i n p outs=some R→Asc outs→Asc R∧R.length≤outs.length+n
 | 0,p,outs,R,h,_=>by simp [explore] at h
 | n+1,p,outs,R,h,ha=>by
  obtain ⟨e1,e2⟩:=explore_round h
  have h1:=insert_asc (run f (given p) i).1 outs ha
  have h2:=insert_len (run f (given p) i).1 outs
  cases hk:nextK (padded p (wids f i p).length) (wids f i p) (wids f i p).length with
  | none=>have:=e1 hk;injection this with this;rw [this];exact ⟨h1,by omega⟩
  | some k =>
   obtain ⟨q1,q2⟩:=explore_asc n _ _ R (e2 k hk) h1
   exact ⟨q1,by omega⟩
theorem all_asc {f:Fn} {i:Inp} {outs:List Out} (h:all f i=some outs):Asc outs∧outs.length≤256:=by
 obtain ⟨h1,h2⟩:=explore_asc 256 [] [] outs h (by unfold Asc;exact List.Pairwise.nil)
 exact ⟨h1,by simpa using h2⟩
/-- ALL OUTCOMES ARE ALL. -/
theorem members {f:Fn} {i:Inp} {outs:List Out} (h:all f i=some outs) (picks:List Int):(run f (given picks) i).1 ∈ outs:=by
 obtain ⟨ws,hws⟩:∃ ws,wids f i picks=ws:=⟨_,rfl⟩
 obtain ⟨q,hq⟩:∃ q,(List.range ws.length).map (fun j=>given picks j (ws.getD j 0))=q:=⟨_,rfl⟩
 have hql:q.length=ws.length:=by rw [← hq];simp
 have hqj:∀ (j:Nat) (n:Int),ws[j]?=some n→q.getD j 0=given picks j n:=fun j n hn=>by
  have hj:=(List.getElem?_eq_some_iff.1 hn).1
  have e:q[j]?=some (given picks j (ws.getD j 0)):=by rw [← hq];simp [hj]
  rw [List.getD_eq_getElem?_getD,e,List.getD_eq_getElem?_getD,hn];rfl
 have hr:run f (given picks) i=run f (given q) i:=run_agree fun j n hn=>by
  have hn':ws[j]?=some n:=by rw [← hws];exact hn
  rw [given_mod q,hqj j n hn',given_mod picks,Int.emod_emod]
 have hg:Good f i q:=by
  have hwq:wids f i q=ws:=by unfold wids;rw [← hr];exact hws
  refine ⟨by rw [hwq];omega,fun j hj=>?_⟩
  obtain ⟨n,hn⟩:∃ n,ws[j]?=some n:=⟨_,List.getElem?_eq_getElem (by omega)⟩
  have hsz:=Wd.sz_pos n
  rw [hwq,hqj j n hn,given_mod,List.getD_eq_getElem?_getD (l:=ws),hn]
  exact ⟨Int.emod_nonneg _ (by omega),Int.emod_lt_of_pos _ hsz⟩
 rw [hr]
 exact explore_has hg 256 [] [] outs h (good_nil f i) (lee_zero (k:=0) (fun j hj=>absurd hj (Nat.not_lt_zero _)) (fun j _=>getD_out (Nat.zero_le _)) (good_pos hg))
end Rn
end Go.Proofs.YthfhamagopbgcaaGreat
