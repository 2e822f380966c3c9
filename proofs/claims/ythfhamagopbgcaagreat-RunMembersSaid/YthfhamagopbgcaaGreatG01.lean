/- import Derived.Test.YthfhamagopbgcaaGreatZb -/
import Derived.Test.YthfhamagopbgcaaGreatG00
import Derived.Test.YthfhamagopbgcaaGreatProg
import Derived.BigQuiet
import Derived.Lib.Hide
namespace Go.Proofs.YthfhamagopbgcaaGreat
open Go.RowKit

set_option maxHeartbeats 400000 in
theorem isWidth_any (n:Int) (w:World):Calls Tryz.prog 73 #[.int .i64 n] w fun e w'=>e=.returned (.bool (Ref.isWidth n))∧w=w':=by
 go_enter Tryz.func73, Tryz.ntmps73
 go_wp2
 all_goals go_ret
 all_goals exact ⟨ret_bool (by grind [Ref.isWidth]),rfl⟩

set_option maxHeartbeats 400000 in
theorem isLast_any (n:Int) (w:World):Calls Tryz.prog 118 #[.int .i64 n] w fun e w'=>e=.returned (.bool (Ref.isLast n))∧w=w':=by
 go_enter Tryz.func118, Tryz.ntmps118
 go_wp2
 all_goals go_ret
 all_goals exact ⟨ret_bool (by grind [Ref.isLast]),rfl⟩

set_option maxHeartbeats 400000 in
theorem plain_any (o wd fl im:Int) (va vt:Value) (w:World):Calls Tryz.prog 145 #[.agg #[.int .i64 o,.int .i64 wd,.int .i64 fl,va,.int .u32 im,vt]] w fun e w' =>
  e=.returned (.bool (Ref.plain0 fl im))∧Gr w w':=by
 go_enter Tryz.func145, Tryz.ntmps145
 go_wp2
 all_goals go_ret
 all_goals exact ⟨ret_bool (by grind [Ref.plain0]),(Gr.refl _).alloc _⟩

set_option maxHeartbeats 1000000 in
theorem arith_any (o wd fl im:Int) (va vt:Value) (w:World):Calls Tryz.prog 146 #[.agg #[.int .i64 o,.int .i64 wd,.int .i64 fl,va,.int .u32 im,vt]] w fun e w' =>
  e=.returned (.bool (Ref.arith0 o fl))∧Gr w w':=by
 go_enter Tryz.func146, Tryz.ntmps146
 go_wp2
 all_goals go_ret
 all_goals exact ⟨ret_bool (by grind [Ref.arith0]),(Gr.refl _).alloc _⟩

/-- '1 << n', n from 0 to 32, does not wrap. -/
theorem wrap64_pow (m:Nat) (h:m≤32):wrap64 (2 ^ m)=2 ^ m:=by
 have h1:(2:Int) ^ m≤2 ^ 32:=by
  have:=Nat.pow_le_pow_right (show 0<2 by omega) h
  exact_mod_cast this
 have h2:(0:Int)<2 ^ m:=by
  have:=Nat.pow_pos (n:=m) (show 0<2 by omega)
  exact_mod_cast this
 unfold wrap64
 omega

set_option maxHeartbeats 400000 in
theorem isWordOf_any (n x:Int) (w:World) (hx:0≤x) (hx':x<4294967296):Calls Tryz.prog 144 #[.int .i64 n,.int .u32 x] w fun e w'=>e=.returned (.bool (Ref.isWordOf n x))∧w=w':=by
 by_cases hw:1≤n∧n≤32
 ·have h1:Ref.isWidth n=true:=by grind [Ref.isWidth]
  obtain ⟨hlo,hhi⟩:=hw
  obtain ⟨m,rfl⟩:=Int.eq_ofNat_of_zero_le (show 0≤n by omega)
  have c:=isWidth_any m w
  rw [h1] at c
  have C:=Lib.hid c
  clear c
  go_enter Tryz.func144, Tryz.ntmps144
  go_wp2_with (go_at_call 73;refine C.out.mono ?_;rintro e w' ⟨rfl,rfl⟩)
  go_ret
  exact ⟨ret_bool (by rw [wrap64_pow m (by omega)];simp [Ref.isWordOf,h1]),rfl⟩
 ·have h1:Ref.isWidth n=false:=by grind [Ref.isWidth]
  have c:=isWidth_any n w
  rw [h1] at c
  have C:=Lib.hid c
  clear c
  go_enter Tryz.func144, Tryz.ntmps144
  go_wp2_with (go_at_call 73;refine C.out.mono ?_;rintro e w' ⟨rfl,rfl⟩)
  go_ret
  exact ⟨ret_bool (by simp [Ref.isWordOf,h1]),rfl⟩

set_option maxHeartbeats 400000 in
theorem has_any (v:Value) (l:List Int) (n:Int) (w:World) (B:Nat) (hv:IntsAt B w v l):Calls Tryz.prog 147 #[v,.int .i64 n] w fun e w'=>e=.returned (.bool (Ref.has l n))∧w=w':=by
 obtain ⟨A,c,rfl,h1,h2,h3⟩:=hv
 go_enter Tryz.func147, Tryz.ntmps147
 go_wp2
 go_loop [5] (fun i=>∃ k:Nat,k≤l.length∧i=.int .i64 k∧Hid (Ref.has l n=Ref.has (l.drop k) n)) (fun i=>l.length-(intOf i).toNat)
 case atStart=>exact ⟨0,Nat.zero_le _,rfl,rfl⟩
 case round =>
  obtain ⟨k,hk,rfl,hrest⟩:=hrel
  rcases hr:l.drop k with _ | ⟨z,r⟩
  ·have hkn:=drop_nil hr hk
   subst hkn
   clear hr
   go_wp2
   go_ret
   exact ⟨ret_bool (by rw [hrest.out];simp [Ref.has]),rfl⟩
  ·obtain ⟨hlt,hl,hr'⟩:=drop_cons hr
   obtain ⟨b,o,rfl,hb,hcells⟩:=h3 (by omega)
   have hu:=hcells k z hl
   have HR:Hid (Ref.has l n=(decide (z=n) || Ref.has r n)):=by
    show _=_
    rw [hrest.out,hr];rfl
   have HR':Hid (l.drop (k+1)=r):=hr'
   clear hr hl hr' hrest hcells h3
   go_wp2
   ·go_ret
    exact ⟨ret_bool (by rw [HR.out];grind),rfl⟩
   ·go_round
    case rel=>exact ⟨k+1,by omega,by go_num,by show _=_;rw [HR.out,HR'.out];grind⟩
    case measure=>simp [intOf];omega

set_option maxHeartbeats 600000 in
theorem SameInts_any (va vb:Value) (a b:List Int) (w:World) (ha:IntsAt w.heap.size w va a) (hb:IntsAt w.heap.size w vb b) :
  Calls Tryz.prog 19 #[va,vb] w fun e w'=>e=.returned (.bool (decide (a=b)))∧Gr w w':=by
 obtain ⟨A,ca,rfl,ha1,ha2,ha3⟩:=ha
 obtain ⟨A',cb,rfl,hb1,hb2,hb3⟩:=hb
 by_cases hlen:a.length=b.length
 ·have hl1:((a.length:Int) != (b.length:Int))=false:=by rw [hlen];simp
  have HL:Hid (a.length=b.length):=hlen
  clear hlen
  go_enter Tryz.func19, Tryz.ntmps19
  go_wp2
  go_loopw [5] (fun i wr=>∃ k:Nat,k≤a.length∧i=.int .i64 k∧Hid (a.take k=b.take k)∧Gr w wr) (fun i _=>a.length-(intOf i).toNat)
  case atStart=>exact ⟨0,Nat.zero_le _,rfl,rfl,Gr.refl _⟩
  case round =>
   obtain ⟨k,hk,rfl,hrest,hg⟩:=hrel
   by_cases hlt:k<a.length
   ·have hltb:k<b.length:=by have:=HL.out;omega
    obtain ⟨ba,oa,rfl,hba,hca⟩:=ha3 (by omega)
    obtain ⟨bb,ob,rfl,hbb,hcb⟩:=hb3 (by omega)
    obtain ⟨x,hx⟩:∃ x,x=a[k]:=⟨_,rfl⟩
    obtain ⟨y,hy⟩:∃ y,y=b[k]:=⟨_,rfl⟩
    have hu:=(hg.cell _ _ hba).trans (hca k x (by rw [hx];simp [hlt]))
    have hv:=(hg.cell _ _ hbb).trans (hcb k y (by rw [hy];simp [hltb]))
    have HX:Hid (a.take (k+1)=a.take k++[x]):=by show _=_;rw [hx,List.take_succ_eq_append_getElem hlt]
    have HY:Hid (b.take (k+1)=b.take k++[y]):=by show _=_;rw [hy,List.take_succ_eq_append_getElem hltb]
    have HX':Hid (a[k]?=some x):=by show _=_;rw [hx];simp [hlt]
    have HY':Hid (b[k]?=some y):=by show _=_;rw [hy];simp [hltb]
    have z1:(0:Int)≤(k:Int):=by omega
    have z2:(k:Int)<(a.length:Int):=by omega
    have z3:(k:Int)<(b.length:Int):=by omega
    clear hx hy hca hcb ha3 hb3
    go_wp2
    go_quiet (fail)
    go_wp2
    ·go_ret
     exact ⟨ret_bool (by
       have:a≠b:=by rintro rfl;have h1:=HX'.out;have h2:=HY'.out;rw [h1] at h2;cases h2;simp_all
       simp [this]),hg.drewN _⟩
    ·go_roundw
     case rel=>exact ⟨k+1,by omega,by go_num,by show _=_;rw [HX.out,HY.out,hrest.out];grind,hg.drewN _⟩
     case measure=>simp [intOf];omega
   ·obtain rfl:k=a.length:=by omega
    go_wp2
    go_ret
    exact ⟨ret_bool (by
      have h1:=hrest.out
      rw [List.take_length,HL.out,List.take_length] at h1
      simp [h1]),hg⟩
 ·have hl1:((a.length:Int) != (b.length:Int))=true:=by simp;omega
  have hne:Hid (a≠b):=fun h=>hlen (by rw [h])
  go_enter Tryz.func19, Tryz.ntmps19
  go_wp2
  go_ret
  exact ⟨ret_bool (by simp [hne.out]),Gr.refl _⟩
end Go.Proofs.YthfhamagopbgcaaGreat
