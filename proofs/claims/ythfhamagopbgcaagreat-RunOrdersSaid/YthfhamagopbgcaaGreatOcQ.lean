/- The document's order of outcomes. -/
import Derived.Test.YthfhamagopbgcaaGreatG36
import Derived.Deep.RegionWith
namespace Go.Proofs.YthfhamagopbgcaaGreat
set_option linter.unusedSimpArgs false
set_option linter.unusedVariables false
open Go.RowKit

theorem r5sign_any (x y:Int) (w:World):Calls Tryz.prog 84 #[.int .i64 x,.int .i64 y] w fun e w'=>e=.returned (.int .i64 (Rn.sgn x y))∧w'=w:=by
 have hs:∀ z,((x<y∧z=-1)∨(¬ x<y∧y<x∧z=1)∨(¬ x<y∧¬ y<x∧z=0))→z=Rn.sgn x y:=by
  intro z h
  unfold Rn.sgn
  rcases h with ⟨h1,h2⟩ | ⟨h1,h2,h3⟩ | ⟨h1,h2,h3⟩
  ·rw [if_pos h1];exact h2
  ·rw [if_neg h1,if_pos h2];exact h3
  ·rw [if_neg h1,if_neg h2];exact h3
 have HS:=Lib.hid hs
 clear hs
 rcases Int.lt_trichotomy x y with h | h | h
 ·go_enter Tryz.func84, Tryz.ntmps84
  go_wp2
  go_ret
  exact ⟨ret_int (HS.out _ (.inl ⟨h,rfl⟩)),rfl⟩
 ·subst h
  go_enter Tryz.func84, Tryz.ntmps84
  go_wp2
  go_ret
  exact ⟨ret_int (HS.out _ (.inr (.inr ⟨by omega,by omega,rfl⟩))),rfl⟩
 ·have h2:¬ x<y:=by omega
  go_enter Tryz.func84, Tryz.ntmps84
  go_wp2
  go_ret
  exact ⟨ret_int (HS.out _ (.inr (.inl ⟨h2,h,rfl⟩))),rfl⟩
theorem r5bit_any (b:Bool) (w:World):Calls Tryz.prog 83 #[.bool b] w fun e w'=>e=.returned (.int .i64 (Rn.bit b))∧w'=w:=by
 cases b
 all_goals
  go_enter Tryz.func83, Tryz.ntmps83
  go_wp2
  go_ret
  exact ⟨ret_int (by decide),rfl⟩
namespace Rn
theorem cmpInts_end {a b:List Int} {k:Nat} (ha:k≤a.length) (hb:k≤b.length) (h:k=a.length∨k=b.length):cmpInts (a.drop k) (b.drop k)=sgn a.length b.length:=by
 rcases h with rfl | rfl
 ·rw [List.drop_eq_nil_of_le (Nat.le_refl a.length)]
  rcases Nat.lt_or_ge a.length b.length with q | q
  ·rw [List.drop_eq_getElem_cons q,cmpInts];unfold sgn;rw [if_pos (by omega)]
  ·rw [List.drop_eq_nil_of_le q,cmpInts];unfold sgn;rw [if_neg (by omega),if_neg (by omega)]
 ·rw [List.drop_eq_nil_of_le (Nat.le_refl b.length)]
  rcases Nat.lt_or_ge b.length a.length with q | q
  ·rw [List.drop_eq_getElem_cons q,cmpInts];unfold sgn;rw [if_neg (by omega),if_pos (by omega)]
  ·rw [List.drop_eq_nil_of_le q,cmpInts];unfold sgn;rw [if_neg (by omega),if_neg (by omega)]
theorem cmpMem_end {a b:List (List Int)} {k:Nat} (ha:k≤a.length) (hb:k≤b.length) (h:k=a.length∨k=b.length):cmpMem (a.drop k) (b.drop k)=sgn a.length b.length:=by
 rcases h with rfl | rfl
 ·rw [List.drop_eq_nil_of_le (Nat.le_refl a.length)]
  rcases Nat.lt_or_ge a.length b.length with q | q
  ·rw [List.drop_eq_getElem_cons q,cmpMem];unfold sgn;rw [if_pos (by omega)]
  ·rw [List.drop_eq_nil_of_le q,cmpMem];unfold sgn;rw [if_neg (by omega),if_neg (by omega)]
 ·rw [List.drop_eq_nil_of_le (Nat.le_refl b.length)]
  rcases Nat.lt_or_ge b.length a.length with q | q
  ·rw [List.drop_eq_getElem_cons q,cmpMem];unfold sgn;rw [if_neg (by omega),if_pos (by omega)]
  ·rw [List.drop_eq_nil_of_le q,cmpMem];unfold sgn;rw [if_neg (by omega),if_neg (by omega)]
end Rn
set_option maxRecDepth 100000 in
set_option maxHeartbeats 4000000 in
theorem r5ints_any {B:Nat} {w:World} {v v':Value} {a b:List Int} (hv:IntsAt B w v a) (hv':IntsAt B w v' b) (hB:B≤w.heap.size) :
  Calls Tryz.prog 82 #[v,v'] w fun e w'=>e=.returned (.int .i64 (Rn.cmpInts a b))∧Gr w w':=by
 obtain ⟨A,ca,rfl,a1,a2,a3⟩:=hv
 obtain ⟨A',cb,rfl,b1,b2,b3⟩:=hv'
 obtain ⟨R,hR⟩:∃ R,Rn.cmpInts a b=R:=⟨_,rfl⟩
 have H0:=Lib.hid hR
 have HA:Hid (∀ wr,Gr w wr→∀ k x,a[k]?=some x→∃ ba oa,A=some ⟨ba,oa,none⟩∧∀ u:GrW wr,u.val.cell? ⟨ba,oa+k,none⟩=some (.int .i64 x)):=fun wr g k x hx=>by
  obtain ⟨ba,oa,e,hb,a4⟩:=a3 (by have:=(List.getElem?_eq_some_iff.1 hx).1;omega)
  exact ⟨ba,oa,e,fun u=>((g.trans u.gr).cell _ _ (by omega)).trans (a4 k x hx)⟩
 have HB:Hid (∀ wr,Gr w wr→∀ k x,b[k]?=some x→∃ ba oa,A'=some ⟨ba,oa,none⟩∧∀ u:GrW wr,u.val.cell? ⟨ba,oa+k,none⟩=some (.int .i64 x)):=fun wr g k x hx=>by
  obtain ⟨ba,oa,e,hb,b4⟩:=b3 (by have:=(List.getElem?_eq_some_iff.1 hx).1;omega)
  exact ⟨ba,oa,e,fun u=>((g.trans u.gr).cell _ _ (by omega)).trans (b4 k x hx)⟩
 rw [hR]
 clear hR a3 b3
 go_enter Tryz.func82, Tryz.ntmps82
 go_wp2
 go_loopw [5] (fun s5 wr=>∃ k:Nat,k≤a.length∧k≤b.length∧s5=.int .i64 (k:Int)∧Hid (Rn.cmpInts (a.drop k) (b.drop k)=R)∧Hid (Gr w wr)) (fun s5 _=>a.length-(intOf s5).toNat)
 case atStart=>exact ⟨0,Nat.zero_le _,Nat.zero_le _,rfl,H0,Gr.refl w⟩
 case round =>
  obtain ⟨k,hka,hkb,rfl,HK,HG⟩:=hrel
  by_cases hlt:k<a.length
  ·by_cases hlb:k<b.length
   ·obtain ⟨x,hx⟩:∃ x,a[k]?=some x:=⟨_,List.getElem?_eq_getElem hlt⟩
    obtain ⟨y,hy⟩:∃ y,b[k]?=some y:=⟨_,List.getElem?_eq_getElem hlb⟩
    obtain ⟨ba,oa,rfl,U1⟩:=HA.out wr HG.out k x hx
    obtain ⟨bb,ob,rfl,U2⟩:=HB.out wr HG.out k y hy
    have da:a.drop k=x::a.drop (k+1):=by rw [List.drop_eq_getElem_cons hlt];congr 1;rw [List.getElem?_eq_getElem hlt] at hx;injection hx
    have db:b.drop k=y::b.drop (k+1):=by rw [List.drop_eq_getElem_cons hlb];congr 1;rw [List.getElem?_eq_getElem hlb] at hy;injection hy
    have CC:=Lib.hid fun (u:GrW wr)=>still_gr (r5sign_any x y u.val)
    have HQ:Hid ((if Rn.sgn x y=0 then Rn.cmpInts (a.drop (k+1)) (b.drop (k+1)) else Rn.sgn x y)=R):=by
     show _=_
     have:=HK.out
     rw [da,db,Rn.cmpInts] at this
     exact this
    obtain ⟨d,hd⟩:∃ d,Rn.sgn x y=d:=⟨_,rfl⟩
    rw [hd] at CC HQ
    clear hx hy da db hd HK
    by_cases h0:d=0
    ·subst h0
     go_wp2
     refine wp_region_quietGr (by kernel_rfl) (by kernel_rfl) ?_
     repeat (go_big_quiet_step ((rename_i u;go_at_call 84;exact grW_call u (CC.out u))))
     refine wpQuiet_nil ?_
     intro w9 hw9
     obtain ⟨u9,rfl⟩:=hw9
     have G9:=Lib.hid (HG.out.trans u9.gr)
     clear U1 U2
     go_wp2
     go_roundw
     case rel=>exact ⟨k+1,by omega,by omega,by go_num,by (show _=_);have:=HQ.out;simpa using this,G9.out⟩
     case measure=>simp [intOf];omega
    ·have HE:Hid (R=d):=by show _=_;have:=HQ.out;rw [if_neg h0] at this;exact this.symm
     go_wp2
     refine wp_region_quietGr (by kernel_rfl) (by kernel_rfl) ?_
     repeat (go_big_quiet_step ((rename_i u;go_at_call 84;exact grW_call u (CC.out u))))
     refine wpQuiet_nil ?_
     intro w9 hw9
     obtain ⟨u9,rfl⟩:=hw9
     have G9:=Lib.hid (HG.out.trans u9.gr)
     clear U1 U2
     go_wp2
     go_ret
     exact ⟨ret_int HE.out.symm,G9.out⟩
   ·obtain rfl:k=b.length:=by omega
    have HE:Hid (R=Rn.sgn a.length b.length):=by show _=_;rw [← HK.out];exact Rn.cmpInts_end hka hkb (.inr rfl)
    have CC:=Lib.hid (r5sign_any a.length b.length wr)
    clear HK
    go_wp2_with (go_at_call 84;(with_reducible refine CC.out.mono ?_);rintro e w1 ⟨rfl,rfl⟩)
    go_ret
    exact ⟨ret_int HE.out.symm,HG.out⟩
  ·obtain rfl:k=a.length:=by omega
   have HE:Hid (R=Rn.sgn a.length b.length):=by show _=_;rw [← HK.out];exact Rn.cmpInts_end hka hkb (.inl rfl)
   have CC:=Lib.hid (r5sign_any a.length b.length wr)
   clear HK
   go_wp2_with (go_at_call 84;(with_reducible refine CC.out.mono ?_);rintro e w1 ⟨rfl,rfl⟩)
   go_ret
   exact ⟨ret_int HE.out.symm,HG.out⟩
end Go.Proofs.YthfhamagopbgcaaGreat
