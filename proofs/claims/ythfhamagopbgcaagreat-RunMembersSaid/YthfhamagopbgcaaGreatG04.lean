/- Parts: RefC RefE RefF RefG RefH. -/
import Derived.Test.YthfhamagopbgcaaGreatG01
import Derived.Test.YthfhamagopbgcaaGreatG00
import Derived.Lib.Hide
import Derived.Test.YthfhamagopbgcaaGreatProg
namespace Go.Proofs.YthfhamagopbgcaaGreat
open Go.RowKit

set_option maxHeartbeats 1000000 in
theorem Number_any (v:Value) (f:Fn) (n:Nat) (w:World) (hf:FnAt w.heap.size w v f) (hn:n≤f.blocks.length) (hs:f.blocks.length≤100000) :
  Calls Tryz.prog 80 #[v,.int .i64 n] w fun e w'=>e=.returned (.int .i64 (Ref.number f n))∧Gr w w':=by
 obtain ⟨vp,vs,vb,rfl,hp,hs',hb⟩:=hf
 obtain ⟨Ap,cp,rfl,hp1,hp2,hp3⟩:=hp
 obtain ⟨As,cs,rfl,hs1,hs2,hs3⟩:=hs'
 obtain ⟨Ab,cb,rfl,hb1,hb2,hb3⟩:=hb
 clear hp3 hs3
 have hB0:Gr w (w.alloc (.cells #[.slice Ap f.params.length cp,.int .i64 f.ret,.slice As f.slots.length cs,.slice Ab f.blocks.length cb] 25)):=(Gr.refl _).alloc _
 go_enter Tryz.func80, Tryz.ntmps80
 go_wp2
 go_loop [5,6] (fun s b=>∃ k N:Nat,k≤n∧b=.int .i64 k∧s=.int .i64 N∧N≤17592186044416 * (k+1)∧Hid (N=Ref.number f k)) (fun _ b=>n-(intOf b).toNat)
 case atStart=>exact ⟨0,_,Nat.zero_le _,rfl,rfl,by omega,by show _=_;simp [Ref.number,Ref.total]⟩
 case round =>
  obtain ⟨k,N,hk,rfl,rfl,hN,hrest⟩:=hrel
  by_cases hlt:k<n
  ·obtain ⟨bb,ob,rfl,hbb,hcells⟩:=hb3 (by omega)
   obtain ⟨l,hl⟩:∃ l,f.blocks[k]?=some l:=⟨f.blocks[k],by simp [show k<f.blocks.length by omega]⟩
   obtain ⟨u,hu,hul⟩:=hcells k l hl
   obtain ⟨Al,cl,rfl,hl1,hl2,hl3⟩:=hul
   have HL:Hid (Ref.number f (k+1)=Ref.number f k+l.length):=by
    show _=_
    unfold Ref.number;rw [Ref.total_take_succ _ _ _ hl];omega
   clear hl hcells hb3 hl3
   go_wp2
   go_round
   case rel=>exact ⟨k+1,N+l.length,by omega,by go_num,by go_num,by omega,by show _=_;rw [HL.out,hrest.out]⟩
   case measure=>simp [intOf];omega
  ·obtain rfl:k=n:=by omega
   go_wp2
   go_ret
   exact ⟨ret_int (by rw [hrest.out]),hB0⟩

set_option maxHeartbeats 400000 in
theorem count_any (v:Value) (f:Fn) (w:World) (hf:FnAt w.heap.size w v f) (hs:f.blocks.length≤100000) :
  Calls Tryz.prog 148 #[v] w fun e w'=>e=.returned (.int .i64 (Ref.count f))∧Gr w w':=by
 have hf0:=hf
 obtain ⟨vp,vs,vb,rfl,hp,hs',hb⟩:=hf
 obtain ⟨Ap,cp,rfl,hp1,hp2,hp3⟩:=hp
 obtain ⟨As,cs,rfl,hs1,hs2,hs3⟩:=hs'
 obtain ⟨Ab,cb,rfl,hb1,hb2,hb3⟩:=hb
 clear hp3 hs3 hb3
 have hB0:Gr w (w.alloc (.cells #[.slice Ap f.params.length cp,.int .i64 f.ret,.slice As f.slots.length cs,.slice Ab f.blocks.length cb] 25)):=(Gr.refl _).alloc _
 have C:=Number_any _ f f.blocks.length _ (hf0.gr hB0) (Nat.le_refl _) hs
 have H:=Lib.hid C
 clear C hf0
 go_enter Tryz.func148, Tryz.ntmps148
 go_wp2_with fail
 refine H.out.mono ?_
 rintro e w1 ⟨rfl,g1⟩
 go_wp2_with fail
 go_ret
 exact ⟨rfl,hB0.trans g1⟩

set_option maxHeartbeats 1000000 in
theorem where_any (v:Value) (f:Fn) (z:Int) (w:World) (hf:FnAt w.heap.size w v f) (hs:f.blocks.length≤100000) (hz1:-9223372036854775808≤z) (hz2:z≤9223372036854775807) :
  Calls Tryz.prog 149 #[v,.int .i64 z] w fun e w'=>e=.returned (.tuple #[.int .i64 (Ref.whereIs f z).1,.int .i64 (Ref.whereIs f z).2])∧Gr w w':=by
 obtain ⟨vp,vs,vb,rfl,hp,hs',hb⟩:=hf
 obtain ⟨Ap,cp,rfl,hp1,hp2,hp3⟩:=hp
 obtain ⟨As,cs,rfl,hs1,hs2,hs3⟩:=hs'
 obtain ⟨Ab,cb,rfl,hb1,hb2,hb3⟩:=hb
 clear hp3 hs3
 have hB0:Gr w (w.alloc (.cells #[.slice Ap f.params.length cp,.int .i64 f.ret,.slice As f.slots.length cs,.slice Ab f.blocks.length cb] 25)):=(Gr.refl _).alloc _
 go_enter Tryz.func149, Tryz.ntmps149
 go_wp2
 go_loop [6,7] (fun s b=>∃ k N:Nat,k≤f.blocks.length∧b=.int .i64 k∧s=.int .i64 N∧N≤17592186044416 * (k+1)∧Hid (Ref.whereIs f z=Ref.whereFrom z (f.blocks.drop k) k N)) (fun _ b=>f.blocks.length-(intOf b).toNat)
 case atStart=>exact ⟨0,_,Nat.zero_le _,rfl,rfl,by omega,by show _=_;simp [Ref.whereIs]⟩
 case round =>
  obtain ⟨k,N,hk,rfl,rfl,hN,hrest⟩:=hrel
  rcases hr:f.blocks.drop k with _ | ⟨l,r⟩
  ·have hkn:=drop_nil hr hk
   subst hkn
   have HR:Hid (Ref.whereIs f z=(-1,-1)):=by show _=_;rw [hrest.out,hr];rfl
   clear hr hrest
   go_wp2
   go_ret2
   exact ⟨ret_val (by rw [HR.out];rfl),hB0⟩
  ·obtain ⟨hlt,hl,hr'⟩:=drop_cons hr
   obtain ⟨bb,ob,rfl,hbb,hcells⟩:=hb3 (by omega)
   obtain ⟨u,hu,hul⟩:=hcells k l hl
   obtain ⟨Al,cl,rfl,hl1,hl2,hl3⟩:=hul
   have HR:Hid (Ref.whereIs f z=if (N:Int)≤z∧z<N+l.length then ((k:Int),z-N) else Ref.whereFrom z r (k+1) (N+l.length)):=by
    show _=_;rw [hrest.out,hr];rfl
   have HR':Hid (f.blocks.drop (k+1)=r):=hr'
   clear hr hl hr' hrest hcells hb3 hl3
   by_cases h1:(N:Int)≤z
   ·by_cases h2:z<N+l.length
    ·go_wp2
     go_ret2
     exact ⟨ret_val (by rw [HR.out,if_pos ⟨h1,h2⟩];rfl),hB0⟩
    ·go_wp2
     go_round
     case rel=>exact ⟨k+1,N+l.length,by omega,by go_num,by go_num,by omega,by show _=_;rw [HR.out,if_neg (by omega),HR'.out]⟩
     case measure=>simp [intOf];omega
   ·go_wp2
    go_round
    case rel=>exact ⟨k+1,N+l.length,by omega,by go_num,by go_num,by omega,by show _=_;rw [HR.out,if_neg (by omega),HR'.out]⟩
    case measure=>simp [intOf];omega

set_option maxRecDepth 100000 in
set_option maxHeartbeats 1000000 in
theorem kind_any (v:Value) (f:Fn) (z:Int) (w:World) (hf:FnAt w.heap.size w v f) (hs:f.blocks.length≤100000) (hz1:-9223372036854775808≤z) (hz2:z≤9223372036854775807) :
  Calls Tryz.prog 121 #[v,.int .i64 z] w fun e w'=>e=.returned (.int .i64 (Ref.kind f z))∧Gr w w':=by
 have hf0:=hf
 obtain ⟨vp,vs,vb,rfl,hp,hs',hb⟩:=hf
 obtain ⟨Ap,cp,rfl,hp1,hp2,hp3⟩:=hp
 obtain ⟨As,cs,rfl,hs1,hs2,hs3⟩:=hs'
 obtain ⟨Ab,cb,rfl,hb1,hb2,hb3⟩:=hb
 clear hs3
 have hB0:Gr w (w.alloc (.cells #[.slice Ap f.params.length cp,.int .i64 f.ret,.slice As f.slots.length cs,.slice Ab f.blocks.length cb] 25)):=(Gr.refl _).alloc _
 by_cases hz:z<0
 ·clear hp3 hb3 hf0
  go_enter Tryz.func121, Tryz.ntmps121
  go_wp2
  go_ret
  exact ⟨ret_int (by unfold Ref.kind;rw [if_pos (by omega)]),hB0⟩
 ·have C:=count_any _ f _ (hf0.gr hB0) hs
  have HC:=Lib.hid C
  clear C
  by_cases hc:(Ref.count f:Int)≤z
  ·clear hp3 hb3 hf0
   go_enter Tryz.func121, Tryz.ntmps121
   go_wp2_with (go_at_call 148;refine HC.out.mono ?_;rintro e w1 ⟨rfl,g1⟩)
   go_ret
   exact ⟨ret_int (by unfold Ref.kind;rw [if_pos (by omega)]),hB0.trans g1⟩
  ·by_cases hp:z<f.params.length
   ·obtain ⟨bp,op,rfl,hbp,hcp⟩:=hp3 (by omega)
    obtain ⟨n,rfl⟩:=Int.eq_ofNat_of_zero_le (show 0≤z by omega)
    obtain ⟨y,hy⟩:∃ y,f.params[n]?=some y:=⟨f.params[n]'(by omega),by simp [show n<f.params.length by omega]⟩
    have hcell:=hcp n y hy
    have hk:Ref.kind f n=y:=by unfold Ref.kind;rw [if_neg (by omega),if_pos (by omega)];simp [hy]
    have HK:=Lib.hid hk
    have z0:(0:Int)≤n:=by omega
    have z1:n<f.params.length:=by omega
    clear hk hy hcp hp3 hb3 hf0
    go_enter Tryz.func121, Tryz.ntmps121
    go_wp2_with (go_at_call 148;refine HC.out.mono ?_;rintro e w1 ⟨rfl,g1⟩;have hc0:=g1.cell w.heap.size 0 (by simp);have hc3:=g1.cell w.heap.size 3 (by simp);have hc4:=(g1.cell bp (op+n) (by simp;omega)).trans ((hB0.cell bp (op+n) hbp).trans hcell);simp at hc0 hc3)
    go_ret
    exact ⟨ret_int (by rw [HK.out]),hB0.trans g1⟩
   ·obtain ⟨j,i,l,x,hw,hl,hx,-⟩:=Ref.whereIs_some f z (by omega) (by omega)
    obtain ⟨hjl,-⟩:=List.getElem?_eq_some_iff.1 hl
    obtain ⟨hil,-⟩:=List.getElem?_eq_some_iff.1 hx
    obtain ⟨bb,ob,rfl,hbb,hcells⟩:=hb3 (by omega)
    obtain ⟨u,hu,hul⟩:=hcells j l hl
    obtain ⟨Al,cl,rfl,hl1,hl2,hl3⟩:=hul
    obtain ⟨bl,ol,rfl,hbl,hcl⟩:=hl3 (by omega)
    obtain ⟨va,vt,-,hwd,-,-,-,-,-,-⟩:=hcl i x hx
    have HK:Hid (Ref.kind f z=x.width):=by
     show _=_
     unfold Ref.kind
     rw [if_neg (by omega),if_neg (by omega),hw]
     simp [Ref.insAt?,hl,hx]
    have HC2:Hid (∀ w1,Gr w w1→Calls Tryz.prog 149 #[.agg #[.slice Ap f.params.length cp,.int .i64 f.ret,.slice As f.slots.length cs,.slice (some ⟨bb,ob,none⟩) f.blocks.length cb],.int .i64 z] w1 fun e w'=>e=.returned (.tuple #[.int .i64 j,.int .i64 i])∧Gr w1 w'):=fun w1 g1=>by
     have:=where_any _ f z w1 (hf0.gr g1) hs hz1 hz2
     rw [hw] at this
     exact this
    clear hw hl hx hp3 hb3 hf0 hcells hl3 hcl
    go_enter Tryz.func121, Tryz.ntmps121
    go_wp2_with (first
      | (go_at_call 148;refine HC.out.mono ?_;rintro e w1 ⟨rfl,g1⟩;have hc0:=g1.cell w.heap.size 0 (by simp);have hc1:=g1.cell w.heap.size 1 (by simp);have hc2:=g1.cell w.heap.size 2 (by simp);have hc3:=g1.cell w.heap.size 3 (by simp);simp at hc0 hc1 hc2 hc3)
      | (go_at_call 149;refine (HC2.out _ (hB0.trans g1)).mono ?_;rintro e w2 ⟨rfl,g2⟩;have g12:=g1.trans g2;have hd3:=g12.cell w.heap.size 3 (by simp);simp at hd3;have hu2:=((hB0.trans g12).cell bb (ob+j) hbb).trans hu;have hwd2:=((hB0.trans g12).cell bl (ol+i * 6+1) hbl).trans hwd))
    go_ret
    exact ⟨ret_int (by rw [HK.out]),(hB0.trans g1).trans g2⟩
end Go.Proofs.YthfhamagopbgcaaGreat
namespace Go.Proofs.YthfhamagopbgcaaGreat
open Go.RowKit

theorem info_int:(Tryz.prog.info? 3).map (fun i=>(i.zero,i.size,i.bytes))=some (some (.int .i64 0),1,8):=by kernel_rfl
theorem info_ints:(Tryz.prog.info? 22).map (fun i=>(i.zero,i.size,i.bytes))=some (some (.slice none 0 0),1,24):=by kernel_rfl

theorem before_snoc (v:Int):∀ (g:List (List Int)) (b k:Nat) (l:List Int),g[k]?=some l →
  Ref.beforeFrom v (g.take (k+1)) b=Ref.beforeFrom v (g.take k) b++(if Ref.has l v then [((b+k:Nat):Int)] else []):=by
 intro g
 induction g with
 | nil=>intro b k l h;simp at h
 | cons a r ih =>
  intro b k l h
  cases k with
  | zero =>
   simp at h;subst h
   simp [Ref.beforeFrom]
  | succ k =>
   have:=ih (b+1) k l (by simpa using h)
   simp only [List.take_succ_cons,Ref.beforeFrom,this]
   rw [show b+1+k=b+(k+1) by omega]
   split <;> simp
theorem before_len (v:Int):∀ (g:List (List Int)) (b:Nat),(Ref.beforeFrom v g b).length≤g.length:=by
 intro g
 induction g with
 | nil=>intro b;simp [Ref.beforeFrom]
 | cons a r ih =>
  intro b
  have:=ih (b+1)
  simp only [Ref.beforeFrom]
  split <;> simp <;> omega

set_option maxHeartbeats 1000000 in
theorem before_any (vg:Value) (g:List (List Int)) (z:Int) (w:World) (hg:TabAt w.heap.size w vg g) (hsm:g.length≤100000) :
  Calls Tryz.prog 120 #[vg,.int .i64 z] w fun e w'=>∃ v,e=.returned v∧IntsAt w'.heap.size w' v (Ref.before g z)∧Gr w w':=by
 obtain ⟨A,c,rfl,g1,g2,g3⟩:=hg
 obtain ⟨i0,hi,hz0,hz1,hz2⟩:=info_parts info_int
 go_enter Tryz.func120, Tryz.ntmps120
 go_wp2
 go_loopw [5,6] (fun s b wr=>∃ k:Nat,k≤g.length∧b=.int .i64 k∧Own1 w.heap.size 3 wr s ((Ref.beforeFrom z (g.take k) 0).map (Value.int .i64))∧Gr w wr) (fun _ b _=>g.length-(intOf b).toNat)
 case atStart=>exact ⟨0,Nat.zero_le _,rfl,Own1.nil _ _ _,Gr.refl _⟩
 case round =>
  obtain ⟨k,hk,rfl,hown,hgr⟩:=hrel
  by_cases hlt:k<g.length
  ·obtain ⟨b,o,rfl,hb,hcells⟩:=g3 (by omega)
   obtain ⟨l,hl⟩:∃ l,g[k]?=some l:=⟨g[k],by simp [hlt]⟩
   obtain ⟨u,hu,hul⟩:=hcells k l hl
   have hu':=(hgr.cell _ _ hb).trans hu
   have hul':=hul.below hgr
   have HS:Hid (Ref.beforeFrom z (g.take (k+1)) 0=Ref.beforeFrom z (g.take k) 0++(if Ref.has l z then [(k:Int)] else [])):=by
    have:=before_snoc z g 0 k l hl
    rwa [Nat.zero_add] at this
   have hlen:=before_len z (g.take k) 0
   have hlen':(g.take k).length≤k:=List.length_take_le _ _
   have C:=has_any u l z wr w.heap.size hul'
   cases hh:Ref.has l z with
   | true =>
    rw [hh] at C HS
    have HC:=Lib.hid C
    clear hl hcells hu hul hul' g3 C hh
    go_wp2_with (first
      | (go_at_call 147;refine HC.out.mono ?_;rintro e w' ⟨rfl,rfl⟩)
      | (at_builtin;refine app1 Tryz.underlying22 hi hz0 hz1 hz2 rfl (by omega) rfl _ _ rfl rfl hown rfl rfl (by simp;omega) hgr.size ?_;intro A1 c1 w1 hown1 hb1 _))
    go_roundw
    case rel=>exact ⟨k+1,by omega,by go_num,by rw [HS.out];simpa using hown1,hgr.below hb1 (Nat.le_refl _)⟩
    case measure=>simp [intOf];omega
   | false =>
    rw [hh] at C HS
    have HC:=Lib.hid C
    clear hl hcells hu hul hul' g3 C hh
    go_wp2_with (go_at_call 147;refine HC.out.mono ?_;rintro e w' ⟨rfl,rfl⟩)
    go_roundw
    case rel=>exact ⟨k+1,by omega,by go_num,by rw [HS.out];simpa using hown,hgr⟩
    case measure=>simp [intOf];omega
  ·obtain rfl:k=g.length:=by omega
   go_wp2
   go_ret
   rw [List.take_length] at hown
   exact ⟨_,rfl,hown.ints (by have:=before_len z g 0;show (Ref.beforeFrom z g 0).length≤_;omega),hgr⟩

theorem graph_snoc (bs:List (List Ins)) (k:Nat) (l:List Ins) (h:bs[k]?=some l) (x:Ins) (hx:l.getLast?=some x) :
  ((bs.take (k+1)).map fun l=>(l.getLast?.map (·.to)).getD [])=((bs.take k).map fun l=>(l.getLast?.map (·.to)).getD [])++[x.to]:=by
 obtain ⟨hk,e⟩:=List.getElem?_eq_some_iff.1 h
 rw [List.take_succ_eq_append_getElem hk,e,List.map_append]
 simp [hx]

set_option maxRecDepth 100000 in
set_option maxHeartbeats 2000000 in
theorem rgraph_any (v:Value) (f:Fn) (w:World) (hf:FnAt w.heap.size w v f) (hs:f.blocks.length≤100000) (hne:Hid (∀ l ∈ f.blocks,l≠[])) :
  Calls Tryz.prog 119 #[v] w fun e w'=>∃ u,e=.returned u∧TabAt w'.heap.size w' u (Ref.graph f)∧Gr w w':=by
 obtain ⟨vp,vs,vb,rfl,hp,hs',hb⟩:=hf
 obtain ⟨Ap,cp,rfl,hp1,hp2,hp3⟩:=hp
 obtain ⟨As,cs,rfl,hs1,hs2,hs3⟩:=hs'
 obtain ⟨Ab,cb,rfl,hb1,hb2,hb3⟩:=hb
 clear hp3 hs3
 obtain ⟨i0,hi,hz0,hz1,hz2⟩:=info_parts info_int
 obtain ⟨i1,hj,hy0,hy1,hy2⟩:=info_parts info_ints
 have hB0:Gr w (w.alloc (.cells #[.slice Ap f.params.length cp,.int .i64 f.ret,.slice As f.slots.length cs,.slice Ab f.blocks.length cb] 25)):=(Gr.refl _).alloc _
 go_enter Tryz.func119, Tryz.ntmps119
 go_wp2
 go_loopw [3,4,5] (fun s b _ wr=>∃ (k:Nat) (us:List Value),k≤f.blocks.length∧b=.int .i64 k∧Own1 (w.heap.size+1) 22 wr s us∧Tab1 (w.heap.size+1) 3 wr us ((f.blocks.take k).map fun l=>(l.getLast?.map (·.to)).getD []) ∧
     Gr (w.alloc (.cells #[.slice Ap f.params.length cp,.int .i64 f.ret,.slice As f.slots.length cs,.slice Ab f.blocks.length cb] 25)) wr) (fun _ b _ _=>f.blocks.length-(intOf b).toNat)
 case atStart=>exact ⟨0,[],Nat.zero_le _,rfl,Own1.nil _ _ _,Tab1.nil _ _ _,Gr.refl _⟩
 case round =>
  obtain ⟨k,us,hk,rfl,hown,htab,hgr⟩:=hrel
  have hbox:wr.cell? ⟨w.heap.size,3,none⟩=some (.slice Ab f.blocks.length cb):=(hgr.cell _ _ (by simp)).trans (by simp)
  by_cases hlt:k<f.blocks.length
  ·obtain ⟨bb,ob,rfl,hbb,hcells⟩:=hb3 (by omega)
   obtain ⟨l,hl⟩:∃ l,f.blocks[k]?=some l:=⟨f.blocks[k],by simp [hlt]⟩
   obtain ⟨u,hu,hul⟩:=hcells k l hl
   have hl0:l≠[]:=hne.out l (List.mem_of_getElem? hl)
   obtain ⟨x,hx⟩:∃ x,l.getLast?=some x:=⟨_,List.getLast?_eq_some_getLast hl0⟩
   have hx':l[l.length-1]?=some x:=by rw [← List.getLast?_eq_getElem?];exact hx
   have HS:=graph_snoc f.blocks k l hl x hx
   have hpos:0<l.length:=List.length_pos_iff.2 hl0
   have hg0:Gr w wr:=hB0.trans hgr
   have hu':=(hg0.cell _ _ hbb).trans hu
   have hul':=hul.below hg0
   obtain ⟨Al,cl,rfl,hl1,hl2,hl3⟩:=hul'
   obtain ⟨bl,ol,rfl,hbl,hcl⟩:=hl3 hpos
   obtain ⟨va,vt,_,_,_,_,_,ht,_,hvt⟩:=hcl _ x hx'
   obtain ⟨m,hm⟩:∃ m,m+1=l.length:=⟨l.length-1,by omega⟩
   rw [show l.length-1=m by omega] at ht
   have HS':=Lib.hid HS
   have hsz:w.heap.size<wr.heap.size:=by have:=hgr.size;simp at this;omega
   have hus:us.length=k:=by rw [htab.1];simp;omega
   have hbl':bl<wr.heap.size:=by omega
   have HM:=Lib.hid hm
   have HU:=Lib.hid hus
   have wm:(l.length:Int)-1=m:=by omega
   clear hl hcells hu hul hb3 hx hx' HS hl0 hl3 hcl hm hus
   obtain ⟨At,ct,rfl,ht1,ht2,ht3⟩:=hvt
   have hvt:IntsAt w.heap.size wr (.slice At x.to.length ct) x.to:=⟨At,ct,rfl,ht1,ht2,ht3⟩
   have HV:Hid (IntsAt w.heap.size (wr.alloc (.cells #[] 3)) (.slice At x.to.length ct) x.to):=hvt.below ((Below.refl _ wr).alloc (by omega) (.cells #[] 3))
   clear ht3 hvt
   go_wp2_with (first
     | (at_builtin;refine appI (v:=.slice (some ⟨wr.heap.size,0,none⟩) 0 0) Tryz.underlying22 hi hz0 hz1 hz2 rfl rfl (.tmp 19) (.tmp 26) rfl rfl (Own1.empty (B:=w.heap.size+1) wr 3 (by omega)) HV rfl (by simp;omega) (by simp;omega) ?_;intro A1 c1 w1 hown1 hb1 hg1;simp only [List.length_nil,Nat.zero_add,List.nil_append] at hown1;have hb1s:=hb1.size;have hw1:Gr wr w1:=(((Gr.refl wr).alloc (.cells #[] 3))).grown hg1 (by intro k hk;simp [Value.ownBlock] at hk;omega);have hown':=hown.gr hw1;have htab':=htab.gr hw1;have hsz1:=hw1.size)
     | (at_builtin;refine app1 (v:=u3) Tryz.underlying27 hj hy0 hy1 hy2 rfl (by omega) rfl (.tmp 18) (.tmp 28) rfl rfl hown' rfl rfl (by rw [HU.out];omega) (by omega) ?_;intro A2 c2 w2 hown2 hb2 hg2)
   )
   go_goals
   go_roundw
   case rel =>
    have hw2:Gr (w.alloc (.cells #[.slice Ap f.params.length cp,.int .i64 f.ret,.slice As f.slots.length cs,.slice (some ⟨bb,ob,none⟩) f.blocks.length cb] 25)) w2:=(hgr.trans hw1).below hb2 (by simp)
    have htab2:=((htab'.snoc hown1 ht2).gr ((Gr.refl _).alloc (.cells #[.slice A1 x.to.length c1] 22))).grown (hown'.gr ((Gr.refl _).alloc (.cells #[.slice A1 x.to.length c1] 22))) (by decide) hg2
    exact ⟨k+1,_,by omega,by go_num,by simpa using hown2,by rw [HS'.out];exact htab2,hw2⟩
   case measure=>simp [intOf];omega
  ·obtain rfl:k=f.blocks.length:=by omega
   go_wp2
   go_ret
   rw [List.take_length] at htab
   exact ⟨_,rfl,htab.tab hown (by simp;omega),hB0.trans hgr⟩
end Go.Proofs.YthfhamagopbgcaaGreat
namespace Go.Proofs.YthfhamagopbgcaaGreat
open Go.RowKit

theorem map_snoc {l:List Int} {k:Nat} {z:Int} {g:Int→Int} (h:l[k]?=some z):(l.take (k+1)).map g=(l.take k).map g++[g z]:=by
 obtain ⟨hk,e⟩:=List.getElem?_eq_some_iff.1 h
 rw [List.take_succ_eq_append_getElem hk,e];simp

/-- How many Args an instruction that is right has, by its operation. -/
theorem args_len (f:Fn) (x:Ins) (h:Ref.argument f x=true) :
  (x.op=14∨x.op=25∨x.op=27→x.args.length=2)∧(x.op=15→x.args.length=3)∧(x.op=16∨x.op=17∨x.op=18∨x.op=26∨x.op=30→x.args.length=1):=by
 have h1:Ref.counts (Ref.shape f x) x=true:=by
  unfold Ref.argument at h;simp only [Bool.and_eq_true] at h;exact h.1.1.2
 refine ⟨fun h=>?_,fun h=>?_,fun h=>?_⟩
 ·rcases h with h | h | h <;> simp [Ref.counts,Ref.shape,h] at h1 <;> omega
 ·simp [Ref.counts,Ref.shape,h] at h1;omega
 ·rcases h with h | h | h | h | h <;> simp [Ref.counts,Ref.shape,h] at h1 <;> omega
theorem two_of {l:List Int} (h:l.length=2):∃ a b,l=[a,b]:=by
 match l,h with | [a,b],_=>exact ⟨a,b,rfl⟩
theorem three_of {l:List Int} (h:l.length=3):∃ a b c,l=[a,b,c]:=by
 match l,h with | [a,b,c],_=>exact ⟨a,b,c,rfl⟩
theorem one_of {l:List Int} (h:l.length=1):∃ a,l=[a]:=by
 match l,h with | [a],_=>exact ⟨a,rfl⟩

set_option maxRecDepth 100000 in
set_option maxHeartbeats 16000000 in
theorem typed_any (f:Fn) (x:Ins) (v vx:Value) (w:World) (hf:FnAt w.heap.size w v f) (hx:InsV w.heap.size w vx x) (hs:f.blocks.length≤100000) (hlen:x.args.length≤100000)
  (hwf:Hid (∀ z ∈ x.args,-9223372036854775808≤z∧z≤9223372036854775807)) (hcnt:Hid (Ref.argument f x=true)) :
  Calls Tryz.prog 76 #[v,vx] w fun e w'=>e=.returned (.bool (Ref.typed f x))∧Gr w w':=by
 have hf0:=hf
 obtain ⟨vp,vs,vb,rfl,hp,⟨As,cs,rfl,-,-,-⟩,⟨Ab,cb,rfl,-,-,-⟩⟩:=hf
 obtain ⟨Ap,cp,rfl,-,-,-⟩:=hp
 obtain ⟨va,vt,rfl,⟨Aa,ca,rfl,-,ha2,ha3⟩,⟨At,ct,rfl,-,ht2,-⟩⟩:=hx
 obtain ⟨i0,hi,hz0,hz1,hz2⟩:=info_parts info_int
 obtain ⟨W,hW⟩:∃ W,(w.alloc (.cells #[.slice Ap f.params.length cp,.int .i64 f.ret,.slice As f.slots.length cs,.slice Ab f.blocks.length cb] 25)).alloc (.cells #[.int .i64 x.op,.int .i64 x.width,.int .i64 x.flags,.slice Aa x.args.length ca,.int .u32 x.imm,.slice At x.to.length ct] 67)=W:=⟨_,rfl⟩
 have hB0:Gr w W:=by rw [← hW];exact ((Gr.refl w).alloc _).alloc _
 have hWs:W.heap.size=w.heap.size+2:=by rw [← hW];simp
 have b0:∀ o,W.cell? ⟨w.heap.size,o,none⟩=(#[.slice Ap f.params.length cp,.int .i64 f.ret,.slice As f.slots.length cs,.slice Ab f.blocks.length cb]:Array Value)[o]?:=by
  intro o;rw [← hW];exact cell_of_row _ _ _ _ _ _ (heap_alloc2_old w _ _)
 have b1:∀ o,W.cell? ⟨w.heap.size+1,o,none⟩=(#[.int .i64 x.op,.int .i64 x.width,.int .i64 x.flags,.slice Aa x.args.length ca,.int .u32 x.imm,.slice At x.to.length ct]:Array Value)[o]?:=by
  intro o;rw [← hW];exact cell_of_row _ _ _ _ _ _ (heap_alloc2_new w _ _)
 have HT:Hid (Ref.typed f x=(x.args.all (fun v=>decide (0≤Ref.kind f v)) && Ref.typedKinds f x (x.args.map (Ref.kind f)))):=rfl
 unfold insVal
 go_enter Tryz.func76, Tryz.ntmps76
 go_wp2

 have HW:=Lib.hid hW
 clear hW
 go_loopw [5,6] (fun s i wr=>∃ ys:List Int,ys.length≤x.args.length∧i=.int .i64 ys.length∧Own1 W.heap.size 3 wr s (ys.map (Value.int .i64))∧Gr W wr∧Hid (ys=(x.args.take ys.length).map (Ref.kind f))∧Hid (∀ y ∈ ys,0≤y)) (fun _ i _=>x.args.length-(intOf i).toNat)
 case atStart=>exact ⟨[],Nat.zero_le _,rfl,Own1.nil _ _ _,Gr.refl _,by show _=_;simp,fun y hy=>by simp at hy⟩
 case round =>
  obtain ⟨ys,hk,rfl,hown,hgr,hys,hall⟩:=hrel
  have c0:=(hgr.cell w.heap.size 0 (by omega)).trans (b0 0)
  have c1:=(hgr.cell w.heap.size 1 (by omega)).trans (b0 1)
  have c2:=(hgr.cell w.heap.size 2 (by omega)).trans (b0 2)
  have c3:=(hgr.cell w.heap.size 3 (by omega)).trans (b0 3)
  have d3:=(hgr.cell (w.heap.size+1) 3 (by omega)).trans (b1 3)
  simp at c0 c1 c2 c3 d3
  by_cases hlt:ys.length<x.args.length
  ·obtain ⟨ba,oa,rfl,hba,hca⟩:=ha3 (by omega)
   obtain ⟨z,hz⟩:∃ z,x.args[ys.length]?=some z:=⟨x.args[ys.length],by simp [hlt]⟩
   have hcell:=((hB0.trans hgr).cell ba (oa+ys.length) hba).trans (hca ys.length z hz)
   have hzw:=hwf.out z (List.mem_of_getElem? hz)
   have HS:Hid (ys++[Ref.kind f z]=(x.args.take (ys.length+1)).map (Ref.kind f)):=by show _=_;rw [map_snoc hz,← hys.out]
   have HZ:Hid (z ∈ x.args):=List.mem_of_getElem? hz
   have HC:Hid (∀ w1,Gr wr w1→Calls Tryz.prog 121 #[.agg #[.slice Ap f.params.length cp,.int .i64 f.ret,.slice As f.slots.length cs,.slice Ab f.blocks.length cb],.int .i64 z] w1 fun e w'=>e=.returned (.int .i64 (Ref.kind f z))∧Gr w1 w'):=fun w1 g1 =>
    kind_any _ f z w1 (hf0.gr ((hB0.trans hgr).trans g1)) hs hzw.1 hzw.2
   have z0:(0:Int)≤ys.length:=by omega
   have z1:(ys.length:Int)<(x.args.length:Int):=by omega
   have hgs:=hgr.size
   have kp:Hid (∀ w',Gr W w'→(w'.cell? ⟨w.heap.size,0,none⟩=some (.slice Ap f.params.length cp)∧w'.cell? ⟨w.heap.size,1,none⟩=some (.int .i64 f.ret)∧w'.cell? ⟨w.heap.size,2,none⟩=some (.slice As f.slots.length cs)∧w'.cell? ⟨w.heap.size,3,none⟩=some (.slice Ab f.blocks.length cb)∧w'.cell? ⟨w.heap.size+1,3,none⟩=some (.slice (some ⟨ba,oa,none⟩) x.args.length ca)∧w'.cell? ⟨ba,oa+ys.length,none⟩=some (.int .i64 z))):=fun w' g=>⟨(g.cell w.heap.size 0 (by omega)).trans (b0 0),(g.cell w.heap.size 1 (by omega)).trans (b0 1),(g.cell w.heap.size 2 (by omega)).trans (b0 2),(g.cell w.heap.size 3 (by omega)).trans (b0 3),(g.cell (w.heap.size+1) 3 (by omega)).trans (b1 3),((hB0.trans g).cell ba (oa+ys.length) hba).trans (hca ys.length z hz)⟩
   clear hca ha3 hz hf0 b0 b1
   go_wp2
   go_region_held3 (fun w'=>w'.cell? ⟨w.heap.size,0,none⟩=some (.slice Ap f.params.length cp)∧w'.cell? ⟨w.heap.size,1,none⟩=some (.int .i64 f.ret)∧w'.cell? ⟨w.heap.size,2,none⟩=some (.slice As f.slots.length cs)∧w'.cell? ⟨w.heap.size,3,none⟩=some (.slice Ab f.blocks.length cb)∧w'.cell? ⟨w.heap.size+1,3,none⟩=some (.slice (some ⟨ba,oa,none⟩) x.args.length ca)∧w'.cell? ⟨ba,oa+ys.length,none⟩=some (.int .i64 z)) (first | exact kp.out _ hgr.drew | exact kp.out _ g1 | exact kp.out _ (g1.alloc _) | exact kp.out _ g2) (first | (go_at_call 121;refine (HC.out _ ((Gr.refl _).drew)).mono ?_;rintro e w1 ⟨rfl,g0⟩;have g1:Gr W w1:=(hgr.drew).trans g0;have hzz:W.heap.size≤w1.heap.size:=g1.size;have hown1:=hown.gr (((Gr.refl wr).drew).trans g0)) | (refine step_app1 (v:=u5) Tryz.underlying22 hi hz0 hz1 hz2 rfl (by omega) rfl (.tmp 15) (.tmp 23) (by rfl) (by rfl) hown1 rfl (by rfl) (by simp;omega) hzz ?_;intro A1 c1 w2 hown2 hb2 hg2;have g2:Gr W w2:=g1.below hb2 (Nat.le_refl _)))
   obtain ⟨b2,rfl,-,-,hcc⟩:=own_cells hown2 (A:=A1) (c:=c1) (by simp) (by simp)
   have hk':w2.cell? ⟨b2,ys.length,none⟩=some (.int .i64 (Ref.kind f z)):=by
    rw [hcc ys.length (by simp),List.getElem?_append_right (by simp)];simp
   have HOWN:=Lib.hid hown2
   clear hcc hown2
   go_wp2
   ·have hneg:Ref.kind f z<0:=by assumption
    go_ret
    exact ⟨ret_bool (by
      rw [HT.out]
      have:x.args.all (fun v=>decide (0≤Ref.kind f v))=false:=by
        rw [List.all_eq_false];exact ⟨z,HZ.out,by simp;omega⟩
      rw [this];rfl),hB0.trans g2⟩
   ·have hpos:0≤Ref.kind f z:=by assumption
    go_roundw
    case rel=>exact ⟨ys++[Ref.kind f z],by simp;omega,by simp,by simpa using HOWN.out,g2,by show _=_;rw [HS.out];simp,fun y hy=>by rcases List.mem_append.1 hy with h | h;exact hall.out y h;simp at h;omega⟩
    case measure=>simp [intOf];omega
  ·have hk':ys.length=x.args.length:=by omega
   have HY:Hid (ys=x.args.map (Ref.kind f)):=by show _=_;rw [hys.out,hk',List.take_length]
   have HT':Hid (Ref.typed f x=Ref.typedKinds f x ys):=by
    show _=_
    rw [HT.out,← HY.out]
    have:x.args.all (fun v=>decide (0≤Ref.kind f v))=true:=by
     rw [List.all_eq_true];intro v hv;simp;exact hall.out _ (by rw [HY.out];exact List.mem_map_of_mem hv)
    rw [this];rfl
   obtain ⟨A2,c2',rfl⟩:=hown.form
   have HB:Gr w wr:=hB0.trans hgr
   have d0:=(hgr.cell (w.heap.size+1) 0 (by omega)).trans (b1 0)
   have d1:=(hgr.cell (w.heap.size+1) 1 (by omega)).trans (b1 1)
   simp at d0 d1
   have hal:=args_len f x hcnt.out
   have HK:=Lib.hid hk'
   clear b0 b1 ha3 hys hall HT hwf hf0 hk' hlt
   rcases Decidable.em (x.op=14) with ho | n14
   ·obtain ⟨y0,y1,rfl⟩:=two_of (HK.out.trans (hal.1 (.inl ho)))
    have hge:x.args.length≤2:=by have:=HK.out;simp at this;omega
    obtain ⟨b2,rfl,-,-,hcc⟩:=own_cells hown (A:=A2) (c:=c2') (by simp) (by simp)
    have e0:=hcc 0 (by simp)
    have e1:=hcc 1 (by simp)
    simp at e0 e1
    clear hcc hal
    have HT2:Hid (Ref.typed f x=(Ref.isWidth y0 && decide (y1=y0))):=by show _=_;rw [HT'.out];simp [Ref.typedKinds,ho]
    have CW:Hid (∀ w',Calls Tryz.prog 73 #[.int .i64 y0] w' fun e w''=>e=.returned (.bool (Ref.isWidth y0))∧w'=w''):=isWidth_any y0
    cases hw:Ref.isWidth y0 with
    | true =>
     rw [hw] at CW HT2
     clear hw
     go_wp2
     go_quiet ((go_at_call 73;exact quiet_same (CW.out _)))
     go_wp2
     all_goals go_ret
     all_goals exact ⟨ret_bool (by rw [HT2.out];grind),HB.drewN _⟩
    | false =>
     rw [hw] at CW HT2
     clear hw
     go_wp2
     go_quiet ((go_at_call 73;exact quiet_same (CW.out _)))
     go_wp2
     all_goals go_ret
     all_goals exact ⟨ret_bool (by rw [HT2.out];grind),HB.drewN _⟩
   rcases Decidable.em (x.op=15) with ho | n15
   ·obtain ⟨y0,y1,y2,rfl⟩:=three_of (HK.out.trans (hal.2.1 ho))
    have hge:x.args.length≤3:=by have:=HK.out;simp at this;omega
    obtain ⟨b2,rfl,-,-,hcc⟩:=own_cells hown (A:=A2) (c:=c2') (by simp) (by simp)
    have e0:=hcc 0 (by simp)
    have e1:=hcc 1 (by simp)
    have e2:=hcc 2 (by simp)
    simp at e0 e1 e2
    clear hcc hal
    have HT2:Hid (Ref.typed f x=(decide (y0=1) && decide (y1=x.width) && decide (y2=x.width))):=by show _=_;rw [HT'.out];simp [Ref.typedKinds,ho]
    rcases Decidable.em (y0=1) with h0 | h0
    ·have n0:(y0 == 1)=true:=by simp [h0]
     have H0:=Lib.hid h0
     clear h0
     rcases Decidable.em (y1=x.width) with h1 | h1
     ·have n1:(y1 == x.width)=true:=by simp [h1]
      have H1:=Lib.hid h1
      clear h1
      go_wp2
      go_quiet (fail)
      go_wp2
      go_ret
      exact ⟨ret_bool (by rw [HT2.out];have a:=H0.out;have b:=H1.out;grind),HB.drewN _⟩
     ·have n1:(y1 == x.width)=false:=by simp [h1]
      have H1:=Lib.hid h1
      clear h1
      go_wp2
      go_quiet (fail)
      go_wp2
      go_ret
      exact ⟨ret_bool (by rw [HT2.out];have b:=H1.out;grind),HB.drewN _⟩
    ·have n0:(y0 == 1)=false:=by simp [h0]
     have H0:=Lib.hid h0
     clear h0
     go_wp2
     go_quiet (fail)
     go_wp2
     go_ret
     exact ⟨ret_bool (by rw [HT2.out];have a:=H0.out;grind),HB.drewN _⟩
   rcases Decidable.em (x.op=16) with ho | n16
   ·obtain ⟨y0,rfl⟩:=one_of (HK.out.trans (hal.2.2 (.inl ho)))
    have hge:x.args.length≤1:=by have:=HK.out;simp at this;omega
    obtain ⟨b2,rfl,-,-,hcc⟩:=own_cells hown (A:=A2) (c:=c2') (by simp) (by simp)
    have e0:=hcc 0 (by simp)
    simp at e0
    clear hcc hal
    have HT2:Hid (Ref.typed f x=(Ref.isWidth y0 && decide (y0<x.width))):=by show _=_;rw [HT'.out];simp [Ref.typedKinds,ho]
    have CW:Hid (∀ w',Calls Tryz.prog 73 #[.int .i64 y0] w' fun e w''=>e=.returned (.bool (Ref.isWidth y0))∧w'=w''):=isWidth_any y0
    cases hw:Ref.isWidth y0 with
    | true =>
     rw [hw] at CW HT2
     clear hw
     go_wp2
     go_quiet ((go_at_call 73;exact quiet_same (CW.out _)))
     go_wp2
     all_goals go_ret
     all_goals exact ⟨ret_bool (by rw [HT2.out];grind),HB.drewN _⟩
    | false =>
     rw [hw] at CW HT2
     clear hw
     go_wp2
     go_quiet ((go_at_call 73;exact quiet_same (CW.out _)))
     go_wp2
     all_goals go_ret
     all_goals exact ⟨ret_bool (by rw [HT2.out];grind),HB.drewN _⟩
   rcases Decidable.em (x.op=17) with ho | n17
   ·obtain ⟨y0,rfl⟩:=one_of (HK.out.trans (hal.2.2 (.inr (.inl ho))))
    have hge:x.args.length≤1:=by have:=HK.out;simp at this;omega
    obtain ⟨b2,rfl,-,-,hcc⟩:=own_cells hown (A:=A2) (c:=c2') (by simp) (by simp)
    have e0:=hcc 0 (by simp)
    simp at e0
    clear hcc hal
    have HT2:Hid (Ref.typed f x=(Ref.isWidth y0 && decide (y0<x.width))):=by show _=_;rw [HT'.out];simp [Ref.typedKinds,ho]
    have CW:Hid (∀ w',Calls Tryz.prog 73 #[.int .i64 y0] w' fun e w''=>e=.returned (.bool (Ref.isWidth y0))∧w'=w''):=isWidth_any y0
    cases hw:Ref.isWidth y0 with
    | true =>
     rw [hw] at CW HT2
     clear hw
     go_wp2
     go_quiet ((go_at_call 73;exact quiet_same (CW.out _)))
     go_wp2
     all_goals go_ret
     all_goals exact ⟨ret_bool (by rw [HT2.out];grind),HB.drewN _⟩
    | false =>
     rw [hw] at CW HT2
     clear hw
     go_wp2
     go_quiet ((go_at_call 73;exact quiet_same (CW.out _)))
     go_wp2
     all_goals go_ret
     all_goals exact ⟨ret_bool (by rw [HT2.out];grind),HB.drewN _⟩
   rcases Decidable.em (x.op=18) with ho | n18
   ·obtain ⟨y0,rfl⟩:=one_of (HK.out.trans (hal.2.2 (.inr (.inr (.inl ho)))))
    have hge:x.args.length≤1:=by have:=HK.out;simp at this;omega
    obtain ⟨b2,rfl,-,-,hcc⟩:=own_cells hown (A:=A2) (c:=c2') (by simp) (by simp)
    have e0:=hcc 0 (by simp)
    simp at e0
    clear hcc hal
    have HT2:Hid (Ref.typed f x=(Ref.isWidth y0 && decide (x.width<y0))):=by show _=_;rw [HT'.out];simp [Ref.typedKinds,ho]
    have CW:Hid (∀ w',Calls Tryz.prog 73 #[.int .i64 y0] w' fun e w''=>e=.returned (.bool (Ref.isWidth y0))∧w'=w''):=isWidth_any y0
    cases hw:Ref.isWidth y0 with
    | true =>
     rw [hw] at CW HT2
     clear hw
     go_wp2
     go_quiet ((go_at_call 73;exact quiet_same (CW.out _)))
     go_wp2
     all_goals go_ret
     all_goals exact ⟨ret_bool (by rw [HT2.out];grind),HB.drewN _⟩
    | false =>
     rw [hw] at CW HT2
     clear hw
     go_wp2
     go_quiet ((go_at_call 73;exact quiet_same (CW.out _)))
     go_wp2
     all_goals go_ret
     all_goals exact ⟨ret_bool (by rw [HT2.out];grind),HB.drewN _⟩
   rcases Decidable.em (x.op=25) with ho | n25
   ·obtain ⟨y0,y1,rfl⟩:=two_of (HK.out.trans (hal.1 (.inr (.inl ho))))
    have hge:x.args.length≤2:=by have:=HK.out;simp at this;omega
    obtain ⟨b2,rfl,-,-,hcc⟩:=own_cells hown (A:=A2) (c:=c2') (by simp) (by simp)
    have e0:=hcc 0 (by simp)
    have e1:=hcc 1 (by simp)
    simp at e0 e1
    clear hcc hal
    have HT2:Hid (Ref.typed f x=(decide (y0=33) && Ref.isWidth y1)):=by show _=_;rw [HT'.out];simp [Ref.typedKinds,ho]
    go_wp2_with (go_at_call 73;refine (isWidth_any _ _).mono ?_;rintro e w1 ⟨rfl,rfl⟩)
    all_goals go_ret
    all_goals exact ⟨ret_bool (by rw [HT2.out];grind),HB⟩
   rcases Decidable.em (x.op=26) with ho | n26
   ·obtain ⟨y0,rfl⟩:=one_of (HK.out.trans (hal.2.2 (.inr (.inr (.inr (.inl ho))))))
    have hge:x.args.length≤1:=by have:=HK.out;simp at this;omega
    obtain ⟨b2,rfl,-,-,hcc⟩:=own_cells hown (A:=A2) (c:=c2') (by simp) (by simp)
    have e0:=hcc 0 (by simp)
    simp at e0
    clear hcc hal
    have HT2:Hid (Ref.typed f x=(decide (y0=33))):=by show _=_;rw [HT'.out];simp [Ref.typedKinds,ho]
    go_wp2
    all_goals go_ret
    all_goals exact ⟨ret_bool (by rw [HT2.out];grind),HB⟩
   rcases Decidable.em (x.op=27) with ho | n27
   ·obtain ⟨y0,y1,rfl⟩:=two_of (HK.out.trans (hal.1 (.inr (.inr ho))))
    have hge:x.args.length≤2:=by have:=HK.out;simp at this;omega
    obtain ⟨b2,rfl,-,-,hcc⟩:=own_cells hown (A:=A2) (c:=c2') (by simp) (by simp)
    have e0:=hcc 0 (by simp)
    have e1:=hcc 1 (by simp)
    simp at e0 e1
    clear hcc hal
    have HT2:Hid (Ref.typed f x=(decide (y0=33) && Ref.isMem y1)):=by show _=_;rw [HT'.out];simp [Ref.typedKinds,ho]
    go_wp2
    all_goals go_ret
    all_goals exact ⟨ret_bool (by rw [HT2.out];unfold Ref.isMem;grind),HB⟩
   rcases Decidable.em (x.op=30) with ho | n30
   ·obtain ⟨y0,rfl⟩:=one_of (HK.out.trans (hal.2.2 (.inr (.inr (.inr (.inr ho))))))
    have hge:x.args.length≤1:=by have:=HK.out;simp at this;omega
    obtain ⟨b2,rfl,-,-,hcc⟩:=own_cells hown (A:=A2) (c:=c2') (by simp) (by simp)
    have e0:=hcc 0 (by simp)
    simp at e0
    clear hcc hal
    have HT2:Hid (Ref.typed f x=(decide (y0=1))):=by show _=_;rw [HT'.out];simp [Ref.typedKinds,ho]
    go_wp2
    all_goals go_ret
    all_goals exact ⟨ret_bool (by rw [HT2.out];grind),HB⟩
   rcases Decidable.em (x.op=31) with ho | n31
   ·clear hal
    rcases ys with _ | ⟨y0,r⟩
    ·have HT2:Hid (Ref.typed f x=true):=by show _=_;rw [HT'.out];simp [Ref.typedKinds,ho]
     have hge:x.args.length≤0:=by have:=HK.out;simp at this;simp [this]
     go_wp2
     go_quiet (fail)
     go_wp2
     go_ret
     exact ⟨ret_bool (by rw [HT2.out]),HB.drewN _⟩
    ·obtain ⟨b2,rfl,-,-,hcc⟩:=own_cells hown (A:=A2) (c:=c2') (by simp) (by simp)
     have e0:=hcc 0 (by simp)
     simp at e0
     have HT2:Hid (Ref.typed f x=decide (y0=f.ret)):=by show _=_;rw [HT'.out];simp [Ref.typedKinds,ho]
     have hge:x.args.length≤r.length+1:=by have:=HK.out;simp at this;omega
     have nz:((r.length:Int)+1 == 0)=false:=by simp;omega
     have z1:(0:Int)<(r.length:Int)+1:=by omega
     clear hcc
     go_wp2
     go_quiet (fail)
     go_wp2
     go_ret
     exact ⟨ret_bool (by rw [HT2.out];grind),HB.drewN _⟩
   have HT2:Hid (Ref.typed f x=ys.all fun z=>decide (z=x.width)):=by
    show _=_;rw [HT'.out];simp [Ref.typedKinds,n14,n15,n16,n17,n18,n25,n26,n27,n30,n31]
   have hge:x.args.length≤ys.length:=by have:=HK.out;omega
   clear hal
   go_wp2
   go_loopw [7] (fun i wx=>∃ k:Nat,k≤ys.length∧i=.int .i64 k∧Gr wr wx∧Hid ((ys.all fun z=>decide (z=x.width))=((ys.drop k).all fun z=>decide (z=x.width)))) (fun i _=>ys.length-(intOf i).toNat)
   case atStart=>exact ⟨0,Nat.zero_le _,rfl,Gr.refl _,rfl⟩
   case round =>
    obtain ⟨k,hk,rfl,hgx,hrest⟩:=hrel
    rcases hr:ys.drop k with _ | ⟨z,r⟩
    ·have hkn:=drop_nil hr hk
     have HA:Hid ((ys.all fun z=>decide (z=x.width))=true):=by show _=_;rw [hrest.out,hr];rfl
     subst hkn
     clear hr hrest
     go_wp2
     go_ret
     exact ⟨ret_bool (by rw [HT2.out,HA.out]),HB.trans hgx⟩
    ·obtain ⟨hlt,hl,hr'⟩:=drop_cons hr
     obtain ⟨b2,rfl,hb2,-,hcc⟩:=own_cells hown (A:=A2) (c:=c2') (by simp) (by simp;omega)
     have q:=(hgx.cell b2 k hb2).trans (hcc k (by simp;omega))
     rw [List.getElem?_map,hl] at q
     simp only [Option.map_some] at q
     have q1:=(hgx.cell (w.heap.size+1) 1 (by have:=hgr.size;omega)).trans d1
     have HR:Hid ((ys.all fun z=>decide (z=x.width))=(decide (z=x.width) && r.all fun z=>decide (z=x.width))):=by
      show _=_
      rw [hrest.out,hr];rfl
     have HR':Hid (ys.drop (k+1)=r):=hr'
     have z0:(0:Int)≤k:=by omega
     have z1:(k:Int)<(ys.length:Int):=by omega
     clear hr hl hr' hrest hcc
     go_wp2
     go_quiet (fail)
     go_wp2
     ·go_ret
      exact ⟨ret_bool (by rw [HT2.out,HR.out];grind),(HB.trans hgx).drewN _⟩
     ·go_roundw
      case rel=>exact ⟨k+1,by omega,by go_num,hgx.drewN _,by (show _=_;rw [HR.out,HR'.out];grind)⟩
      case measure=>simp [intOf];omega
end Go.Proofs.YthfhamagopbgcaaGreat
namespace Go.Proofs.YthfhamagopbgcaaGreat
open Go.RowKit

theorem info_bool:(Tryz.prog.info? 4).map (fun i=>(i.zero,i.size,i.bytes))=some (some (.bool false),1,1):=by kernel_rfl

/-- A row of n bools of the call's own, at the head of block hb. -/
def BRow (B hb n:Nat) (w:World) (bs:List Bool):Prop:=w.ownsRow B 4 1 (.slice (some ⟨hb,0,none⟩) n n) n (bs.map Value.bool)
section
variable {B hb n:Nat} {w w':World} {bs:List Bool}
theorem BRow.len (h:BRow B hb n w bs):bs.length=n:=by have:=h.1;simpa using this
theorem BRow.cell (h:BRow B hb n w bs) (j:Nat) (b:Bool) (hj:bs[j]?=some b):w.cell? ⟨hb,j,none⟩=some (.bool b):=by
 have hl:=h.len
 have hlt:=(List.getElem?_eq_some_iff.1 hj).1
 rw [World.ownsRow.cellAt h j (by omega),List.getElem?_map,hj];rfl
theorem BRow.frozen (h:BRow B hb n w bs) (j:Nat):w.frozen? ⟨hb,j,none⟩=false:=World.ownsRow.frozenAt h j
theorem BRow.set_ (h:BRow B hb n w bs) (j:Nat) (b:Bool):BRow B hb n (w.setCell ⟨hb,j,none⟩ (.bool b)) (bs.set j b):=by
 have:=(World.ownsRow.stored h j (.bool b)).1
 unfold BRow;rw [List.map_set];exact this
theorem BRow.base (h:BRow B hb n w bs) (hn:0<n):B≤hb:=by
 obtain ⟨b,e,_,hB,_⟩:=own_cells h rfl hn
 cases e;exact hB
theorem BRow.bools (h:BRow B hb n w bs) (hn:n≤17592186044416):BoolsAt w.heap.size w (.slice (some ⟨hb,0,none⟩) n n) bs:=by
 have hl:=h.len
 subst hl
 exact own_bools h hn
end

/-- 'make([]bool, n)'. -/
theorem make_bools {w:World} {ops:Array Oper} {rest:List Oper} {o:Oper} {a:Act} {Q:Exit→Act→World→Prop} (hg:o.guard=none) (l c:Operand) (hop:o.op=Op.makeSlice 79 l c)
  (B n:Nat) (hl:a.eval l=.int .i64 n) (hc:a.eval c=.int .i64 n) (hn0:1≤n) (hn:n≤17592186044416) (hB:B≤w.heap.size)
  (hK:∀ w',BRow B w.heap.size n w' (List.replicate n false)→Gr w w'→w'.cell? ⟨w.heap.size,0,none⟩=some (.bool false)→w'.frozen? ⟨w.heap.size,0,none⟩=false→wpList Tryz.prog ops Q rest (a.put o.dst (.slice (some ⟨w.heap.size,0,none⟩) n n)) w') :
  wpList Tryz.prog ops Q (o::rest) a w:=by
 obtain ⟨i0,hi,hz0,hz1,hz2⟩:=info_parts info_bool
 refine wpList_make_full _ hg l c 79 hop B 4 i0 _ 1 Tryz.underlying79 hi hz0 hz1 _ _ _ _ n hl hc rfl rfl (by rw [hz2];omega) (by simp only [maxLen];omega) hB ?_
 intro w1 hown hg1
 rw [Nat.mul_one,show (Value.bool false).cells=#[Value.bool false] from rfl,toList_madeCells_one] at hown
 have hrow:BRow B w.heap.size n w1 (List.replicate n false):=by unfold BRow;rw [List.map_replicate];exact hown
 refine hK w1 hrow ((Gr.refl w).grown hg1 (fun k hk=>by cases hk)) ?_ (hrow.frozen 0)
 exact hrow.cell 0 false (by rw [List.getElem?_replicate,if_pos (by omega)])

theorem range_drop {n b:Nat} (h:b<n):(List.range n).drop b=b::(List.range n).drop (b+1):=by
 rw [List.drop_eq_getElem_cons (by simpa using h)];simp
theorem spreadEdge_len (z t:Int) (bs:List Bool):(Ref.spreadEdge z bs t).length=bs.length:=by unfold Ref.spreadEdge;split <;> simp
theorem spreadEdge_true (z t:Int) (bs:List Bool) (b:Nat) (h:bs[b]?=some true):(Ref.spreadEdge z bs t)[b]?=some true:=by
 unfold Ref.spreadEdge
 split
 ·exact h
 ·rw [List.getElem?_set];split
  ·rename_i e;subst e
   have:=(List.getElem?_eq_some_iff.1 h).1
   simp [this]
  ·exact h

set_option maxRecDepth 100000 in
set_option maxHeartbeats 8000000 in
theorem rreached_any (vg:Value) (g:List (List Int)) (z:Int) (w:World) (hg:TabAt w.heap.size w vg g) (hn:1≤g.length) (hsm:g.length≤100000) (hok:Hid (∀ l ∈ g,∀ t ∈ l,0≤t∧t<(g.length:Int))) :
  Calls Tryz.prog 122 #[vg,.int .i64 z] w fun e w'=>∃ v,e=.returned v∧BoolsAt w'.heap.size w' v (Ref.reached g z)∧Gr w w':=by
 obtain ⟨A,c,rfl,g1,g2,g3⟩:=hg
 obtain ⟨bg,og,rfl,hbg,hcg⟩:=g3 (by omega)
 have HG:=Lib.hid hcg
 clear hcg g3
 by_cases hz:z=0
 ·have hzb:(z == 0)=true:=by simp [hz]
  have HR:Hid (Ref.reached g z=List.replicate g.length false):=by show _=_;unfold Ref.reached;rw [if_pos hz]
  clear hz
  go_enter Tryz.func122, Tryz.ntmps122
  go_wp2_with (at_make;refine make_bools rfl _ _ rfl w.heap.size g.length rfl rfl hn (by omega) (Nat.le_refl _) ?_;intro w1 hrow hg1 _ _)
  go_ret
  exact ⟨_,rfl,by rw [HR.out];exact hrow.bools (by omega),hg1⟩
 ·have hzb:(z == 0)=false:=by simp [hz]
  have HR:Hid (Ref.reached g z=Ref.spread z g g.length ((List.replicate g.length false).set 0 true)):=by show _=_;unfold Ref.reached;rw [if_neg hz]
  clear hz
  have z0:(0:Int)<(g.length:Int):=by omega
  go_enter Tryz.func122, Tryz.ntmps122
  go_wp2_with (at_make;refine make_bools rfl _ _ rfl w.heap.size g.length rfl rfl hn (by omega) (Nat.le_refl _) ?_;intro w1 hrow hg1 hc0 hf0)
  have hrow1:BRow w.heap.size w.heap.size g.length (w1.setCell ⟨w.heap.size,0,none⟩ (.bool true)) ((List.replicate g.length false).set 0 true):=hrow.set_ 0 true
  have hgr1:Gr w (w1.setCell ⟨w.heap.size,0,none⟩ (.bool true)):=hg1.setCell (Nat.le_refl _) _
  clear hc0 hf0 hrow
  go_loopw [6,7,8] (fun r _ _ wr=>∃ (k:Nat) (bs:List Bool),k≤g.length∧r=.int .i64 k∧BRow w.heap.size w.heap.size g.length wr bs∧Gr w wr∧Hid (Ref.reached g z=Ref.spread z g (g.length-k) bs)) (fun r _ _ _=>g.length-(intOf r).toNat)
  case atStart=>exact ⟨0,_,Nat.zero_le _,rfl,hrow1,hgr1,HR⟩
  case round =>
   obtain ⟨k,bs,hk,rfl,hrow,hgr,hrest⟩:=hrel
   obtain ⟨wo,rfl⟩:∃ wo:World,wo=wr:=⟨_,rfl⟩
   clear hrow1 hgr1 hg1
   by_cases hlt:k<g.length
   ·have HR1:Hid (Ref.reached g z=Ref.spread z g (g.length-(k+1)) (Ref.spreadRound z g bs)):=by
     show _=_
     rw [hrest.out,show g.length-k=(g.length-(k+1))+1 by omega];rfl
    clear hrest
    go_wp2
    go_loopw [7,8] (fun b _ wr=>∃ (j:Nat) (bs1:List Bool),j≤g.length∧b=.int .i64 j∧BRow w.heap.size w.heap.size g.length wr bs1∧Gr w wr∧Hid (Ref.spreadRound z g bs=((List.range g.length).drop j).foldl (Ref.spreadBlock z g) bs1)) (fun b _ _=>g.length-(intOf b).toNat)
    case atStart=>exact ⟨0,bs,Nat.zero_le _,rfl,hrow,hgr,by show _=_;simp [Ref.spreadRound]⟩
    case round =>
     obtain ⟨j,bs1,hj,rfl,hrow1,hgr1,hrest1⟩:=hrel
     obtain ⟨wo1,rfl⟩:∃ wo1:World,wo1=wr:=⟨_,rfl⟩
     clear hrow hgr
     by_cases hlt1:j<g.length
     ·obtain ⟨l,hl⟩:∃ l,g[j]?=some l:=⟨g[j],by simp [hlt1]⟩
      obtain ⟨u,hu,hul⟩:=HG.out j l hl
      have hu':=(hgr1.cell _ _ hbg).trans hu
      have hul':=hul.below hgr1
      obtain ⟨A',c',rfl,p1,p2,-⟩:=hul'
      obtain ⟨A3,c3,e3,-,-,p3⟩:=hul
      injection e3 with e31 e32 e33
      subst e31;subst e33
      have HU:=Lib.hid hu
      have HL:Hid (∀ t ∈ l,0≤t∧t<(g.length:Int)):=hok.out l (List.mem_of_getElem? hl)
      have hgd:g.getD j []=l:=by simp [List.getD,hl]
      have HD:Hid (Ref.spreadRound z g bs=((List.range g.length).drop (j+1)).foldl (Ref.spreadBlock z g) (Ref.spreadBlock z g bs1 j)):=by
       show _=_
       rw [hrest1.out,range_drop hlt1];rfl
      have hl1:=hrow1.len
      obtain ⟨bj,hbj⟩:∃ b,bs1[j]?=some b:=⟨bs1[j]'(by omega),by simp [show j<bs1.length by omega]⟩
      have q:=hrow1.cell j bj hbj
      have HBJ:=Lib.hid hbj
      have HGD:=Lib.hid hgd
      have HL1:=Lib.hid hl1
      have P3:Hid (0<l.length→∃ b off,A'=some ⟨b,off,none⟩∧b<w.heap.size∧∀ i z,l[i]?=some z→w.cell? ⟨b,off+i,none⟩=some (.int .i64 z)):=p3
      have zj:(0:Int)≤j:=by omega
      clear hl hu hrest1 hgd hbj hl1 p3 e32
      go_wp2
      go_loopw [8] (fun i wr=>∃ (m:Nat) (bs2:List Bool),m≤l.length∧i=.int .i64 m∧BRow w.heap.size w.heap.size g.length wr bs2∧Gr w wr∧Hid (bs2[j]?=some bj)∧Hid (bj=false→bs2=bs1)∧Hid (l.foldl (Ref.spreadEdge z) bs1=(l.drop m).foldl (Ref.spreadEdge z) bs2)) (fun i _=>l.length-(intOf i).toNat)
      case atStart=>exact ⟨0,bs1,Nat.zero_le _,rfl,hrow1,hgr1,HBJ,fun _=>rfl,rfl⟩
      case round =>
       obtain ⟨m,bs2,hm,rfl,hrow2,hgr2,hbj2,hsame,hfold⟩:=hrel
       have hu2:=(hgr2.cell bg (og+j) hbg).trans (HU.out)
       have q2:=hrow2.cell j bj hbj2.out
       have hgm:m≤l.length:=hm
       cases bj with
       | false =>
        have HF:Hid (Ref.spreadBlock z g bs1 j=bs2):=by
         show _=_
         rw [hsame.out rfl];unfold Ref.spreadBlock
         have:bs1.getD j false=false:=by simp [List.getD,HBJ.out]
         rw [this];rfl
        clear hsame hfold
        by_cases hlt2:m<l.length
        ·go_wp2
         go_roundw
         case rel=>exact ⟨j+1,bs2,by omega,by go_num,hrow2,hgr2,by (show _=_;rw [HD.out,HF.out])⟩
         case measure=>simp [intOf];omega
        ·go_wp2
         go_roundw
         case rel=>exact ⟨j+1,bs2,by omega,by go_num,hrow2,hgr2,by (show _=_;rw [HD.out,HF.out])⟩
         case measure=>simp [intOf];omega
       | true =>
        clear hsame
        rcases hr:l.drop m with _ | ⟨t,r⟩
        ·have hmn:=drop_nil hr hm
         have HF:Hid (Ref.spreadBlock z g bs1 j=bs2):=by
          show _=_
          unfold Ref.spreadBlock
          have:bs1.getD j false=true:=by simp [List.getD,HBJ.out]
          rw [this,if_pos rfl,HGD.out,hfold.out,hr];rfl
         subst hmn
         clear hr hfold
         go_wp2
         go_roundw
         case rel=>exact ⟨j+1,bs2,by omega,by go_num,hrow2,hgr2,by (show _=_;rw [HD.out,HF.out])⟩
         case measure=>simp [intOf];omega
        ·obtain ⟨hlt2,hm2,hr'⟩:=drop_cons hr
         obtain ⟨bl,ol,rfl,hbl,hcl⟩:=P3.out (by omega)
         have ht:=HL.out t (List.mem_of_getElem? hm2)
         obtain ⟨tn,rfl⟩:=Int.eq_ofNat_of_zero_le ht.1
         have htn:tn<g.length:=by omega
         have qt:=(Gr.cell (a:=w) hgr2 bl (ol+m) hbl).trans (hcl m tn hm2)
         obtain ⟨bt,hbt⟩:∃ b,bs2[tn]?=some b:=⟨bs2[tn]'(by have:=hrow2.len;omega),by have:=hrow2.len;simp [show tn<bs2.length by omega]⟩
         have qc:=hrow2.cell tn bt hbt
         have qf:=hrow2.frozen tn
         have HF:Hid (l.foldl (Ref.spreadEdge z) bs1=r.foldl (Ref.spreadEdge z) (Ref.spreadEdge z bs2 tn)):=by show _=_;rw [hfold.out,hr];rfl
         have HR':Hid (l.drop (m+1)=r):=hr'
         have zt:(tn:Int)<(g.length:Int):=by omega
         clear hr hr' hm2 hfold hcl ht hbt
         by_cases htz:(tn:Int)=z
         ·have nz:((tn:Int) != z)=false:=by simp [htz]
          have HS:Hid (Ref.spreadEdge z bs2 tn=bs2):=by show _=_;unfold Ref.spreadEdge;rw [if_pos htz]
          clear htz
          go_wp2
          go_roundw
          case rel=>exact ⟨m+1,bs2,by omega,by go_num,hrow2,hgr2,hbj2,fun h=>(by cases h),by (show _=_;rw [HF.out,HS.out,HR'.out])⟩
          case measure=>simp [intOf];omega
         ·have nz:((tn:Int) != z)=true:=by simp [htz]
          have HS:Hid (Ref.spreadEdge z bs2 tn=bs2.set tn true):=by show _=_;unfold Ref.spreadEdge;rw [if_neg htz];simp
          clear htz
          go_wp2
          go_roundw
          case rel=>exact ⟨m+1,bs2.set tn true,by omega,by go_num,hrow2.set_ tn true,hgr2.setCell (Nat.le_refl _) _,by (have:=spreadEdge_true z tn bs2 j hbj2.out;rw [HS.out] at this;exact this),fun h=>(by cases h),by (show _=_;rw [HF.out,HS.out,HR'.out])⟩
          case measure=>simp [intOf];omega
     ·obtain rfl:j=g.length:=by omega
      have HE:Hid (Ref.spreadRound z g bs=bs1):=by show _=_;rw [hrest1.out,List.drop_eq_nil_of_le (by simp)];rfl
      clear hrest1
      go_wp2
      go_roundw
      case rel=>exact ⟨k+1,bs1,by omega,by go_num,hrow1,hgr1,by (show _=_;rw [HR1.out,HE.out])⟩
      case measure=>simp [intOf];omega
   ·obtain rfl:k=g.length:=by omega
    go_wp2
    go_ret
    exact ⟨_,rfl,by rw [hrest.out,Nat.sub_self];exact hrow.bools (by omega),hgr⟩
end Go.Proofs.YthfhamagopbgcaaGreat
namespace Go.Proofs.YthfhamagopbgcaaGreat
open Go.RowKit

set_option maxRecDepth 100000 in
set_option maxHeartbeats 1000000 in
theorem rdominates_any (vg:Value) (g:List (List Int)) (a b:Int) (w:World) (hg:TabAt w.heap.size w vg g) (hn:1≤g.length) (hsm:g.length≤100000) (hok:Hid (∀ l ∈ g,∀ t ∈ l,0≤t∧t<(g.length:Int)))
  (hb1:0≤b) (hb2:b<g.length) :
  Calls Tryz.prog 150 #[vg,.int .i64 a,.int .i64 b] w fun e w'=>e=.returned (.bool (Ref.dominates g a b))∧Gr w w':=by
 by_cases hab:a=b
 ·have nab:(a == b)=true:=by simp [hab]
  have HD:Hid (Ref.dominates g a b=true):=by show _=_;simp [Ref.dominates,hab]
  clear hab
  obtain ⟨A,c,rfl,-,-,-⟩:=hg
  go_enter Tryz.func150, Tryz.ntmps150
  go_wp2
  go_ret
  exact ⟨ret_bool (by rw [HD.out]),Gr.refl _⟩
 ·have nab:(a == b)=false:=by simp [hab]
  have HD:Hid (Ref.dominates g a b=!(Ref.reached g a).getD b.toNat false):=by show _=_;simp [Ref.dominates,hab]
  have C:=rreached_any vg g a w hg hn hsm hok
  have HC:=Lib.hid C
  have hlen:(Ref.reached g a).length=g.length:=by
   have h1:∀ (l:List Int) (bs:List Bool),(l.foldl (Ref.spreadEdge a) bs).length=bs.length:=by
    intro l;induction l with
    | nil=>intro bs;rfl
    | cons t r ih=>intro bs;rw [List.foldl_cons,ih,spreadEdge_len]
   have h2:∀ (l:List Nat) (bs:List Bool),(l.foldl (Ref.spreadBlock a g) bs).length=bs.length:=by
    intro l;induction l with
    | nil=>intro bs;rfl
    | cons t r ih=>intro bs;rw [List.foldl_cons,ih];unfold Ref.spreadBlock;split <;> simp [h1]
   have h3:∀ (n:Nat) (bs:List Bool),(Ref.spread a g n bs).length=bs.length:=by
    intro n;induction n with
    | zero=>intro bs;rfl
    | succ n ih=>intro bs;rw [Ref.spread,ih,Ref.spreadRound,h2]
   unfold Ref.reached;split <;> simp [h3]
  have HL:=Lib.hid hlen
  clear hab C hlen
  obtain ⟨n,rfl⟩:=Int.eq_ofNat_of_zero_le hb1
  obtain ⟨A,c,rfl,-,-,-⟩:=hg
  go_enter Tryz.func150, Tryz.ntmps150
  go_wp2_with fail
  refine HC.out.mono ?_
  rintro e w1 ⟨v,rfl,hv,g1⟩
  obtain ⟨A1,c1,rfl,-,-,hv3⟩:=hv
  have hlen:=HL.out
  obtain ⟨br,or',rfl,hbr,hcr⟩:=hv3 (by omega)
  obtain ⟨y,hy⟩:∃ y,(Ref.reached g a)[n]?=some y:=⟨(Ref.reached g a)[n]'(by omega),by simp [show n<(Ref.reached g a).length by omega]⟩
  have q:=hcr n y hy
  have HD':Hid (Ref.dominates g a n=!y):=by show _=_;rw [HD.out];simp [List.getD,hy]
  have zn:(n:Int)<((Ref.reached g a).length:Int):=by omega
  clear hcr hy hlen hv3
  go_wp2
  go_ret
  exact ⟨ret_bool (by rw [HD'.out]),g1⟩

set_option maxRecDepth 100000 in
set_option maxHeartbeats 1000000 in
theorem there_any (v vg:Value) (f:Fn) (g:List (List Int)) (z block place:Int) (w:World) (hf:FnAt w.heap.size w v f) (hs:f.blocks.length≤100000) (hz1:-9223372036854775808≤z) (hz2:z≤9223372036854775807)
  (hg:TabAt w.heap.size w vg g) (hn:1≤g.length) (hsm:g.length≤100000) (hok:Hid (∀ l ∈ g,∀ t ∈ l,0≤t∧t<(g.length:Int))) (hb1:0≤block) (hb2:block<g.length) :
  Calls Tryz.prog 123 #[v,vg,.int .i64 z,.int .i64 block,.int .i64 place] w fun e w'=>e=.returned (.bool (Ref.there f g z block place))∧Gr w w':=by
 have hf0:=hf
 obtain ⟨vp,vs,vb,rfl,-,-,-⟩:=hf
 have hB0:Gr w (w.alloc (.cells #[vp,.int .i64 f.ret,vs,vb] 25)):=(Gr.refl _).alloc _
 have C:=where_any _ f z _ (hf0.gr hB0) hs hz1 hz2
 have HT:Hid (Ref.there f g z block place=if (Ref.whereIs f z).1<0 then true else if (Ref.whereIs f z).1=block then decide (place<0) || decide ((Ref.whereIs f z).2<place) else Ref.dominates g (Ref.whereIs f z).1 block):=rfl
 revert C HT
 generalize Ref.whereIs f z=p
 obtain ⟨b,i⟩:=p
 dsimp only
 intro C HT
 have HC:=Lib.hid C
 have HD:Hid (∀ w1,Gr w w1→Calls Tryz.prog 150 #[vg,.int .i64 b,.int .i64 block] w1 fun e w'=>e=.returned (.bool (Ref.dominates g b block))∧Gr w1 w'):=fun w1 g1=>rdominates_any vg g b block w1 (hg.gr g1) hn hsm hok hb1 hb2
 clear C hf0 hg
 by_cases h0:b<0
 ·go_enter Tryz.func123, Tryz.ntmps123
  go_wp2_with (go_at_call 149;refine HC.out.mono ?_;rintro e w1 ⟨rfl,g1⟩)
  go_ret
  exact ⟨ret_bool (by rw [HT.out,if_pos h0]),hB0.trans g1⟩
 ·by_cases h1:b=block
  ·have n1:(b == block)=true:=by simp [h1]
   have HT2:Hid (Ref.there f g z block place=(decide (place<0) || decide (i<place))):=by show _=_;rw [HT.out,if_neg h0,if_pos h1]
   clear h1
   go_enter Tryz.func123, Tryz.ntmps123
   go_wp2_with (go_at_call 149;refine HC.out.mono ?_;rintro e w1 ⟨rfl,g1⟩)
   all_goals go_ret
   all_goals exact ⟨ret_bool (by have:=HT2.out;grind),hB0.trans g1⟩
  ·have n1:(b == block)=false:=by simp [h1]
   have HT2:Hid (Ref.there f g z block place=Ref.dominates g b block):=by show _=_;rw [HT.out,if_neg h0,if_neg h1]
   clear h1
   go_enter Tryz.func123, Tryz.ntmps123
   go_wp2_with (first
     | (go_at_call 149;refine HC.out.mono ?_;rintro e w1 ⟨rfl,g1⟩)
     | (go_at_call 150;refine (HD.out _ (hB0.trans g1)).mono ?_;rintro e w2 ⟨rfl,g2⟩))
   go_ret
   exact ⟨ret_bool (by rw [HT2.out]),(hB0.trans g1).trans g2⟩
end Go.Proofs.YthfhamagopbgcaaGreat
