/- The program's order of outcomes: lists of numbers, lists of lists. -/
import Derived.Test.YthfhamagopbgcaaGreatG00
import Derived.Test.YthfhamagopbgcaaGreatG25
import Derived.Test.YthfhamagopbgcaaGreatG20
namespace Go.Proofs.YthfhamagopbgcaaGreat
set_option linter.unusedSimpArgs false
set_option linter.unusedVariables false
open Go.RowKit

theorem cmpI_any (x y:Int) (w:World):Calls Tryz.prog 88 #[.int .i64 x,.int .i64 y] w fun e w'=>e=.returned (.int .i64 (Rn.sgn x y))∧w'=w:=Tryz.cmp_Compare_int x y w
theorem isNaN_any (x:Int) (w:World):Calls Tryz.prog 133 #[.int .u32 x] w fun e w'=>e=.returned (.bool false)∧w'=w:=by
 go_enter Tryz.func133, Tryz.ntmps133
 go_wp2
 go_ret
 exact ⟨rfl,rfl⟩
theorem cmpU_any (x y:Int) (w:World):Calls Tryz.prog 90 #[.int .u32 x,.int .u32 y] w fun e w'=>e=.returned (.int .i64 (Rn.sgn x y))∧w'=w:=by
 have H:Hid (∀ z,z=Rn.sgn x y→Ending.returned (.int .i64 z)=.returned (.int .i64 (Rn.sgn x y))):=fun z h=>by rw [h]
 have hs:∀ z,((x<y∧z=-1)∨(¬ x<y∧y<x∧z=1)∨(¬ x<y∧¬ y<x∧z=0))→z=Rn.sgn x y:=by
  intro z h
  unfold Rn.sgn
  rcases h with ⟨h1,h2⟩ | ⟨h1,h2,h3⟩ | ⟨h1,h2,h3⟩
  ·rw [if_pos h1];exact h2
  ·rw [if_neg h1,if_pos h2];exact h3
  ·rw [if_neg h1,if_neg h2];exact h3
 have HS:=Lib.hid hs
 clear hs
 rcases Int.lt_trichotomy x y with h | h | h
 ·have h2:¬ y<x:=by omega
  go_enter Tryz.func90, Tryz.ntmps90
  go_wp2_with (go_at_call 133;(with_reducible refine (isNaN_any _ _).mono ?_);rintro e w1 ⟨rfl,rfl⟩)
  go_ret
  exact ⟨H.out _ (HS.out _ (.inl ⟨h,rfl⟩)),rfl⟩
 ·subst h
  go_enter Tryz.func90, Tryz.ntmps90
  go_wp2_with (go_at_call 133;(with_reducible refine (isNaN_any _ _).mono ?_);rintro e w1 ⟨rfl,rfl⟩)
  go_ret
  exact ⟨H.out _ (HS.out _ (.inr (.inr ⟨by omega,by omega,rfl⟩))),rfl⟩
 ·have h2:¬ x<y:=by omega
  go_enter Tryz.func90, Tryz.ntmps90
  go_wp2_with (go_at_call 133;(with_reducible refine (isNaN_any _ _).mono ?_);rintro e w1 ⟨rfl,rfl⟩)
  go_ret
  exact ⟨H.out _ (HS.out _ (.inr (.inl ⟨h2,h,rfl⟩))),rfl⟩
set_option maxRecDepth 100000 in
set_option maxHeartbeats 4000000 in
theorem cmpInts_any {B:Nat} {w:World} {v v':Value} {a b:List Int} (hv:IntsAt B w v a) (hv':IntsAt B w v' b) :
  Calls Tryz.prog 92 #[v,v'] w fun e w'=>e=.returned (.int .i64 (Rn.cmpInts a b))∧w'=w:=by
 obtain ⟨A,ca,rfl,a1,a2,a3⟩:=hv
 obtain ⟨A',cb,rfl,b1,b2,b3⟩:=hv'
 obtain ⟨R,hR⟩:∃ R,Rn.cmpInts a b=R:=⟨_,rfl⟩
 have H0:=Lib.hid hR
 rw [hR]
 clear hR
 go_enter Tryz.func92, Tryz.ntmps92
 go_wp2
 go_loop [11] (fun s11=>∃ k:Nat,k≤a.length∧k≤b.length∧s11=.int .i64 (k:Int)∧Hid (Rn.cmpInts (a.drop k) (b.drop k)=R)) (fun s11=>a.length-(intOf s11).toNat)
 case atStart=>exact ⟨0,Nat.zero_le _,Nat.zero_le _,rfl,H0⟩
 case round =>
  obtain ⟨k,hka,hkb,rfl,HK⟩:=hrel
  by_cases hlt:k<a.length
  ·obtain ⟨x,hx⟩:∃ x,a[k]?=some x:=⟨_,List.getElem?_eq_getElem hlt⟩
   obtain ⟨ba,oa,rfl,-,a4⟩:=a3 (by omega)
   have c1:=a4 k x hx
   have da:a.drop k=x::a.drop (k+1):=by rw [List.drop_eq_getElem_cons hlt];congr 1;rw [List.getElem?_eq_getElem hlt] at hx;injection hx
   by_cases hlb:k<b.length
   ·obtain ⟨y,hy⟩:∃ y,b[k]?=some y:=⟨_,List.getElem?_eq_getElem hlb⟩
    obtain ⟨bb,ob,rfl,-,b4⟩:=b3 (by omega)
    have c2:=b4 k y hy
    have db:b.drop k=y::b.drop (k+1):=by rw [List.drop_eq_getElem_cons hlb];congr 1;rw [List.getElem?_eq_getElem hlb] at hy;injection hy
    have CC:=Lib.hid (cmpI_any x y w)
    have HQ:Hid ((if Rn.sgn x y=0 then Rn.cmpInts (a.drop (k+1)) (b.drop (k+1)) else Rn.sgn x y)=R):=by
     show _=_
     have:=HK.out
     rw [da,db,Rn.cmpInts] at this
     exact this
    obtain ⟨d,hd⟩:∃ d,Rn.sgn x y=d:=⟨_,rfl⟩
    rw [hd] at CC HQ
    clear hx hy da db a3 a4 b3 b4 hd HK
    by_cases h0:d=0
    ·subst h0
     go_wp2_with (go_at_call 88;(with_reducible refine CC.out.mono ?_);rintro e w1 ⟨rfl,rfl⟩)
     go_round
     case rel=>exact ⟨k+1,by omega,by omega,by go_num,by (show _=_);have:=HQ.out;simpa using this⟩
     case measure=>simp [intOf];omega
    ·have HE:Hid (R=d):=by show _=_;have:=HQ.out;rw [if_neg h0] at this;exact this.symm
     go_wp2_with (go_at_call 88;(with_reducible refine CC.out.mono ?_);rintro e w1 ⟨rfl,rfl⟩)
     go_ret
     exact ⟨ret_int HE.out.symm,rfl⟩
   ·have HE:Hid (R=1):=by
     show _=_
     have:=HK.out
     rw [da,List.drop_eq_nil_of_le (show b.length≤k by omega),Rn.cmpInts] at this
     exact this.symm
    clear hx da a3 a4 b3 HK
    go_wp2
    go_ret
    exact ⟨ret_int HE.out.symm,rfl⟩
  ·obtain rfl:k=a.length:=by omega
   by_cases hlb:a.length<b.length
   ·have HE:Hid (R=-1):=by
     show _=_
     have:=HK.out
     rw [List.drop_eq_nil_of_le (Nat.le_refl a.length),List.drop_eq_getElem_cons hlb,Rn.cmpInts] at this
     exact this.symm
    clear a3 b3 HK
    go_wp2
    go_ret
    exact ⟨ret_int HE.out.symm,rfl⟩
   ·have HE:Hid (R=0):=by
     show _=_
     have:=HK.out
     rw [List.drop_eq_nil_of_le (Nat.le_refl a.length),List.drop_eq_nil_of_le (show b.length≤a.length by omega),Rn.cmpInts] at this
     exact this.symm
    clear a3 b3 HK
    go_wp2
    go_ret
    exact ⟨ret_int HE.out.symm,rfl⟩
set_option maxRecDepth 100000 in
set_option maxHeartbeats 4000000 in
theorem cmpTab_any {B:Nat} {w:World} {v v':Value} {a b:List (List Int)} (hv:TabAt B w v a) (hv':TabAt B w v' b) :
  Calls Tryz.prog 91 #[v,v',.func (.func 92) #[] #[]] w fun e w'=>e=.returned (.int .i64 (Rn.cmpMem a b))∧w'=w:=by
 obtain ⟨A,ca,rfl,a1,a2,a3⟩:=hv
 obtain ⟨A',cb,rfl,b1,b2,b3⟩:=hv'
 obtain ⟨R,hR⟩:∃ R,Rn.cmpMem a b=R:=⟨_,rfl⟩
 have H0:=Lib.hid hR
 rw [hR]
 clear hR
 go_enter Tryz.func91, Tryz.ntmps91
 go_wp2
 go_loop [13] (fun s13=>∃ k:Nat,k≤a.length∧k≤b.length∧s13=.int .i64 (k:Int)∧Hid (Rn.cmpMem (a.drop k) (b.drop k)=R)) (fun s13=>a.length-(intOf s13).toNat)
 case atStart=>exact ⟨0,Nat.zero_le _,Nat.zero_le _,rfl,H0⟩
 case round =>
  obtain ⟨k,hka,hkb,rfl,HK⟩:=hrel
  by_cases hlt:k<a.length
  ·obtain ⟨x,hx⟩:∃ x,a[k]?=some x:=⟨_,List.getElem?_eq_getElem hlt⟩
   obtain ⟨ba,oa,rfl,-,a4⟩:=a3 (by omega)
   obtain ⟨u,c1,hu⟩:=a4 k x hx
   have da:a.drop k=x::a.drop (k+1):=by rw [List.drop_eq_getElem_cons hlt];congr 1;rw [List.getElem?_eq_getElem hlt] at hx;injection hx
   by_cases hlb:k<b.length
   ·obtain ⟨y,hy⟩:∃ y,b[k]?=some y:=⟨_,List.getElem?_eq_getElem hlb⟩
    obtain ⟨bb,ob,rfl,-,b4⟩:=b3 (by omega)
    obtain ⟨u',c2,hu'⟩:=b4 k y hy
    have db:b.drop k=y::b.drop (k+1):=by rw [List.drop_eq_getElem_cons hlb];congr 1;rw [List.getElem?_eq_getElem hlb] at hy;injection hy
    have CC:=Lib.hid (cmpInts_any hu hu')
    have HQ:Hid ((if Rn.cmpInts x y=0 then Rn.cmpMem (a.drop (k+1)) (b.drop (k+1)) else Rn.cmpInts x y)=R):=by
     show _=_
     have:=HK.out
     rw [da,db,Rn.cmpMem] at this
     exact this
    obtain ⟨d,hd⟩:∃ d,Rn.cmpInts x y=d:=⟨_,rfl⟩
    rw [hd] at CC HQ
    obtain ⟨Au,cu,rfl,-,-,-⟩:=hu
    obtain ⟨Au',cu',rfl,-,-,-⟩:=hu'
    clear hx hy da db a3 a4 b3 b4 hd HK
    by_cases h0:d=0
    ·subst h0
     go_wp2_with (go_at_call 92;(with_reducible refine CC.out.mono ?_);rintro e w1 ⟨rfl,rfl⟩)
     go_round
     case rel=>exact ⟨k+1,by omega,by omega,by go_num,by (show _=_);have:=HQ.out;simpa using this⟩
     case measure=>simp [intOf];omega
    ·have HE:Hid (R=d):=by show _=_;have:=HQ.out;rw [if_neg h0] at this;exact this.symm
     go_wp2_with (go_at_call 92;(with_reducible refine CC.out.mono ?_);rintro e w1 ⟨rfl,rfl⟩)
     go_ret
     exact ⟨ret_int HE.out.symm,rfl⟩
   ·have HE:Hid (R=1):=by
     show _=_
     have:=HK.out
     rw [da,List.drop_eq_nil_of_le (show b.length≤k by omega),Rn.cmpMem] at this
     exact this.symm
    obtain ⟨Au,cu,rfl,-,-,-⟩:=hu
    clear hx da a3 a4 b3 HK
    go_wp2
    go_ret
    exact ⟨ret_int HE.out.symm,rfl⟩
  ·obtain rfl:k=a.length:=by omega
   by_cases hlb:a.length<b.length
   ·have HE:Hid (R=-1):=by
     show _=_
     have:=HK.out
     rw [List.drop_eq_nil_of_le (Nat.le_refl a.length),List.drop_eq_getElem_cons hlb,Rn.cmpMem] at this
     exact this.symm
    clear a3 b3 HK
    go_wp2
    go_ret
    exact ⟨ret_int HE.out.symm,rfl⟩
   ·have HE:Hid (R=0):=by
     show _=_
     have:=HK.out
     rw [List.drop_eq_nil_of_le (Nat.le_refl a.length),List.drop_eq_nil_of_le (show b.length≤a.length by omega),Rn.cmpMem] at this
     exact this.symm
    clear a3 b3 HK
    go_wp2
    go_ret
    exact ⟨ret_int HE.out.symm,rfl⟩
end Go.Proofs.YthfhamagopbgcaaGreat
