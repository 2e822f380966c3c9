/- import Derived.Test.YthfhamagopbgcaaGreatZb -/
import Derived.Test.YthfhamagopbgcaaGreatG00
import Derived.Test.YthfhamagopbgcaaGreatProg
namespace Go.Proofs.YthfhamagopbgcaaGreat
open Go.RowKit

def longIns (x:Ins):Bool:=decide (40<x.args.length) || decide (40<x.to.length)
def longBlk (l:List Ins):Bool:=decide (100<l.length) || l.any longIns
def longFn (f:Fn):Bool:=decide (20<f.params.length) || decide (20<f.slots.length) || decide (40<f.blocks.length) || f.blocks.any longBlk

set_option maxHeartbeats 1000000 in
theorem Long_any (v:Value) (f:Fn) (w:World) (hf:FnAt w.heap.size w v f) :
  Calls Tryz.prog 36 #[v] w fun e w'=>e=.returned (.bool (longFn f))∧Below w.heap.size w w':=by
 obtain ⟨vp,vs,vb,rfl,hp,hs,hb⟩:=hf
 obtain ⟨Ap,cp,rfl,hp1,hp2,hp3⟩:=hp
 obtain ⟨As,cs,rfl,hs1,hs2,hs3⟩:=hs
 obtain ⟨Ab,cb,rfl,hb1,hb2,hb3⟩:=hb
 clear hp3 hs3
 have hB0:Below w.heap.size w (w.alloc (.cells #[.slice Ap f.params.length cp,.int .i64 f.ret,.slice As f.slots.length cs,.slice Ab f.blocks.length cb] 25)):=(Below.refl _ _).alloc (Nat.le_refl _) _
 go_enter Tryz.func36, Tryz.ntmps36
 go_wp2
 ·go_ret
  exact ⟨ret_bool (by simp [longFn];omega),hB0⟩
 ·have e0:Hid (longFn f=f.blocks.any longBlk):=by
   show longFn f=_
   have h1:¬ 20<f.params.length:=by omega
   have h2:¬ 20<f.slots.length:=by omega
   have h3:¬ 40<f.blocks.length:=by omega
   simp [longFn,h1,h2,h3]
  go_loop [3,4] (fun b _=>∃ k:Nat,k≤f.blocks.length∧b=.int .i64 k∧Hid (f.blocks.any longBlk=(f.blocks.drop k).any longBlk)) (fun b _=>f.blocks.length-(intOf b).toNat)
  case atStart=>exact ⟨0,Nat.zero_le _,rfl,rfl⟩
  case round =>
   obtain ⟨k,hk,rfl,hrest⟩:=hrel
   rcases hr:f.blocks.drop k with _ | ⟨l,r⟩
   ·have hkn:=drop_nil hr hk
    subst hkn
    clear hr
    go_wp2
    go_ret
    exact ⟨ret_bool (by rw [e0.out,hrest.out];simp),hB0⟩
   ·obtain ⟨hlt,hl,hr'⟩:=drop_cons hr
    obtain ⟨bb,ob,rfl,hbb,hcells⟩:=hb3 (by omega)
    obtain ⟨u,hu,hul⟩:=hcells k l hl
    obtain ⟨Al,cl,rfl,hl1,hl2,hl3⟩:=hul
    have HR:Hid (f.blocks.any longBlk=(longBlk l || r.any longBlk)):=by
     show _=_
     rw [hrest.out,hr];rfl
    have HR':Hid (f.blocks.drop (k+1)=r):=hr'
    clear hr hl hr' hrest hcells hb3
    by_cases h100:100<l.length
    ·go_wp2
     go_ret
     exact ⟨ret_bool (by rw [e0.out,HR.out];simp [longBlk,h100]),hB0⟩
    ·go_wp2
     go_loop [4] (fun i=>∃ j:Nat,j≤l.length∧i=.int .i64 j∧Hid (longBlk l=(l.drop j).any longIns)) (fun i=>l.length-(intOf i).toNat)
     case atStart=>exact ⟨0,Nat.zero_le _,rfl,by show _=_;simp [longBlk,h100]⟩
     case round =>
      obtain ⟨j,hj,rfl,hrest2⟩:=hrel
      rcases hr2:l.drop j with _ | ⟨x,r2⟩
      ·have hjn:=drop_nil hr2 hj
       subst hjn
       clear hr2
       go_wp2
       go_round
       case rel=>exact ⟨k+1,by omega,by go_num,by show _=_;rw [HR.out,hrest2.out,HR'.out];simp⟩
       case measure=>simp [intOf];omega
      ·obtain ⟨hlt2,hx,hr2'⟩:=drop_cons hr2
       obtain ⟨bl,ol,rfl,hbl,hcells2⟩:=hl3 (by omega)
       obtain ⟨va,vt,_,_,_,ha,_,ht,hva,hvt⟩:=hcells2 j x hx
       obtain ⟨Aa,ca,rfl,ha1,ha2,_⟩:=hva
       obtain ⟨At,ct,rfl,ht1,ht2,_⟩:=hvt
       have HR2:Hid (longBlk l=(longIns x || r2.any longIns)):=by
        show _=_
        rw [hrest2.out,hr2];rfl
       have HR2':Hid (l.drop (j+1)=r2):=hr2'
       clear hr2 hx hr2' hrest2 hcells2 hl3
       go_wp2
       ·go_ret
        exact ⟨ret_bool (by rw [e0.out,HR.out,HR2.out];have h:40<x.args.length∨40<x.to.length:=by omega
                            simp [longIns,h]),hB0⟩
       ·go_round
        case rel=>exact ⟨j+1,by omega,by go_num,by show _=_;rw [HR2.out,HR2'.out];have h:¬ 40<x.args.length∧¬ 40<x.to.length:=by omega
                                                   simp [longIns,h]⟩
        case measure=>simp [intOf];omega
       ·go_ret
        exact ⟨ret_bool (by rw [e0.out,HR.out,HR2.out];have h:40<x.args.length∨40<x.to.length:=by omega
                            simp [longIns,h]),hB0⟩
 ·go_ret
  exact ⟨ret_bool (by have h:20<f.slots.length:=by omega
                      simp [longFn,h]),hB0⟩
 ·go_ret
  exact ⟨ret_bool (by have h:20<f.params.length:=by omega
                      simp [longFn,h]),hB0⟩
end Go.Proofs.YthfhamagopbgcaaGreat
