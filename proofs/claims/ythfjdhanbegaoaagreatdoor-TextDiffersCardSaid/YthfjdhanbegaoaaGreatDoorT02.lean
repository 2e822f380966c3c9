/- Parts. -/
import Derived.Test.YthfjdhanbegaoaaGreatDoorT01
import Derived.Test.YthfjdhanbegaoaaGreatDoorProg
import Derived.BigQuiet
set_option linter.unusedSimpArgs false
set_option linter.unusedVariables false
set_option maxRecDepth 100000
set_option maxHeartbeats 16000000
open Go.Proofs.Tryz
namespace Go.Proofs.YthfjdhanbegaoaaGreatDoor
open Go.RowKit
theorem dD (n:Int)(w:World):Calls prog 58 #[.int .i64 n] w (RS (.bool (Ref.isWidth n)) w):=by
 go_enter func58, ntmps58
 go_wp2;all_goals go_ret
 all_goals exact⟨dc (by grind [Ref.isWidth]),rfl⟩
theorem kr (n:Int)(w:World):Calls prog 101 #[.int .i64 n] w (RS (.bool (Ref.isLast n)) w):=by
 go_enter func101, ntmps101
 go_wp2;all_goals go_ret
 all_goals exact⟨dc (by grind [Ref.isLast]),rfl⟩
theorem me (o wd fl im:Int)(va vt:Value)(w:World):Calls prog 129 #[.agg #[.int .i64 o,.int .i64 wd,.int .i64 fl,va,.int .u32 im,vt]] w fun e w' =>
  e=.returned (.bool (Ref.plain0 fl im))/\Gr w w':=by
 go_enter func129, ntmps129
 go_wp2;all_goals go_ret
 all_goals exact⟨dc (by grind [Ref.plain0]),(qj _).alloc _⟩
theorem lk (o wd fl im:Int)(va vt:Value)(w:World):Calls prog 130 #[.agg #[.int .i64 o,.int .i64 wd,.int .i64 fl,va,.int .u32 im,vt]] w fun e w' =>
  e=.returned (.bool (Ref.arith0 o fl))/\Gr w w':=by
 go_enter func130, ntmps130
 go_wp2;all_goals go_ret
 all_goals exact⟨dc (by grind [Ref.arith0]),(qj _).alloc _⟩
theorem kZ (m:Nat)(h:m<=32):wrap64 (2 ^ m)=2 ^ m:=by
 have d:(2:Int) ^ m<=2 ^ 32:=by
  have:=Nat.pow_le_pow_right (show 0<2 by omega) h
  exact_mod_cast this
 have g:(0:Int)<2 ^ m:=by
  have:=Nat.pow_pos (n:=m) (show 0<2 by omega)
  exact_mod_cast this
 unfold wrap64;omega
theorem iS (n x:Int)(w:World)(hx:0<=x)(hx':x<4294967296):Calls prog 128 #[.int .i64 n,.int .u32 x] w (RS (.bool (Ref.isWordOf n x)) w):=by
 by_cases l:1<=n/\n<=32
 ·have d:Ref.isWidth n=true:=by grind [Ref.isWidth]
  obtain⟨j,g⟩:=l;obtain⟨m,rfl⟩:=pg (show 0<=n by omega);have c:=dD m w;rw[d]at c;have C:=dJ c;clear c
  go_enter func128, ntmps128
  go_wp2_with (go_at_call 58;refine C.out.mono ?_;rintro e w' ⟨rfl,rfl⟩);go_ret;exact⟨dc (by rw[kZ m (by omega)];simp[Ref.isWordOf,d]),rfl⟩
 ·have d:Ref.isWidth n=false:=by grind [Ref.isWidth]
  have c:=dD n w;rw[d]at c;have C:=dJ c;clear c
  go_enter func128, ntmps128
  go_wp2_with (go_at_call 58;refine C.out.mono ?_;rintro e w' ⟨rfl,rfl⟩);go_ret;exact⟨dc (by simp[Ref.isWordOf,d]),rfl⟩
theorem nS (v:Value)(l:List Int)(n:Int)(w:World)(B:Nat)(hv:IntsAt B w v l):Calls prog 131 #[v,.int .i64 n] w (RS (.bool (Ref.has l n)) w):=by
 obtain⟨A,c,rfl,D,E,t⟩:=hv
 go_enter func131, ntmps131
 go_wp2
 go_loop [5] (fun i=>∃k:Nat,k<=l.length/\i=.int .i64 k/\Hid (Ref.has l n=Ref.has (l.drop k) n)) (fun i=>l.length-(intOf i).toNat)
 case atStart=>exact⟨0,pR _,rfl,rfl⟩
 case round =>
  obtain⟨k,y,rfl,d⟩:=hrel;rcases hr:l.drop k with _|⟨z,r⟩
  ·have p:=dm hr y;subst p;clear hr;go_wp2;go_ret;exact⟨dc (by rw[d.out];simp[Ref.has]),rfl⟩
  ·obtain⟨C,u,j⟩:=dj hr;obtain⟨b,o,rfl,F,g⟩:=t (by omega);have G:=g k z u
   have q:Hid (Ref.has l n=(decide (z=n) || Ref.has r n)):=by show _=_;rw[d.out,hr];rfl
   have m:Hid (l.drop (k+1)=r):=j;clear hr u j d g t;go_wp2
   ·go_ret;exact⟨dc (by rw[q.out];grind),rfl⟩
   ·go_round;case rel=>exact⟨k+1,by omega,by go_num,by show _=_;rw[q.out,m.out];grind⟩
    case measure=>simp[intOf];omega
theorem ec (va vb:Value)(a b:List Int)(w:World)(ha:IntsAt w.heap.size w va a)(hb:IntsAt w.heap.size w vb b) :
  Calls prog 35 #[va,vb] w (RG (.bool (decide (a=b))) w):=by
 obtain⟨A,ca,rfl,M,N,m⟩:=ha;obtain⟨R,V,rfl,O,Q,p⟩:=hb;by_cases d:a.length=b.length
 ·have G:((a.length:Int) != (b.length:Int))=false:=by rw[d];simp
  have I:Hid (a.length=b.length):=d;clear d
  go_enter func35, ntmps35
  go_wp2
  go_loopw [5] (fun i wr=>∃k:Nat,k<=a.length/\i=.int .i64 k/\Hid (a.take k=b.take k)/\Gr w wr) (fun i _=>a.length-(intOf i).toNat)
  case atStart=>exact⟨0,pR _,rfl,rfl,qj _⟩
  case round =>
   obtain⟨k,W,rfl,j,t⟩:=hrel;by_cases l:k<a.length
   ·have g:k<b.length:=by have:=I.out;omega
    obtain⟨T,Z,rfl,E,q⟩:=m (by omega);obtain⟨U,ob,rfl,F,r⟩:=p (by omega);obtain⟨x,z⟩:∃x,x=a[k]:=⟨_,rfl⟩;obtain⟨y,B⟩:∃y,y=b[k]:=⟨_,rfl⟩;have X:=(t.cell _ _ E).trans (q k x (by rw[z];simp[l]));have Y:=(t.cell _ _ F).trans (r k y (by rw[B];simp[g]));have K:Hid (a.take (k+1)=a.take k++[x]):=by show _=_;rw[z,pG l]
    have L:Hid (b.take (k+1)=b.take k++[y]):=by show _=_;rw[B,pG g]
    have C:Hid (a[k]?=some x):=by show _=_;rw[z];simp[l]
    have D:Hid (b[k]?=some y):=by show _=_;rw[B];simp[g]
    have z1:(0:Int)<=(k:Int):=by omega
    have z2:(k:Int)<(a.length:Int):=by omega
    have z3:(k:Int)<(b.length:Int):=by omega
    clear z B q r m p;go_wp2;go_quiet (fail);go_wp2
    ·go_ret
     exact⟨dc (by
       have:a≠b:=by rintro rfl;have u:=C.out;have J:=D.out;rw[u]at J;cases J;simp_all
       simp[this]),t.drewN _⟩
    ·go_roundw;case rel=>exact⟨k+1,by omega,by go_num,by show _=_;rw[K.out,L.out,j.out];grind,t.drewN _⟩
     case measure=>simp[intOf];omega
   ·obtain rfl:k=a.length:=by omega
    go_wp2;go_ret
    exact⟨dc (by
      have u:=j.out
      rw[pE,I.out,pE]at u
      simp[u]),t⟩
 ·have G:((a.length:Int) != (b.length:Int))=true:=by simp;omega
  have H:Hid (a≠b):=fun h=>d (by rw[h])
  go_enter func35, ntmps35
  go_wp2;go_ret;exact⟨dc (by simp[H.out]),qj _⟩
theorem ej:(prog.info? 3).map (fun i=>(i.zero,i.size,i.bytes))=some (some (.int .i64 0),1,8):=by kernel_rfl
theorem gk:(prog.info? 22).map (fun i=>(i.zero,i.size,i.bytes))=some (some (.slice none 0 0),1,24):=by kernel_rfl
theorem jk (v:Int):∀(g:List (List Int))(b k:Nat)(l:List Int),g[k]?=some l ->
  Ref.beforeFrom v (g.take (k+1)) b=Ref.beforeFrom v (g.take k) b++(if Ref.has l v then [((b+k:Nat):Int)] else []):=by
 intro g
 induction g with
 | nil=>intro b k l h;simp at h
 | cons a r ih =>
  intro b k l h
  cases k with
  | zero =>
   simp at h;subst h;simp[Ref.beforeFrom]
  | succ k =>
   have:=ih (b+1) k l (by simpa using h);simp only[pJ,Ref.beforeFrom,this];rw[show b+1+k=b+(k+1) by omega];split<;>simp
theorem gM (v:Int):∀(g:List (List Int))(b:Nat),(Ref.beforeFrom v g b).length<=g.length:=by
 intro g
 induction g with
 | nil=>intro b;simp[Ref.beforeFrom]
 | cons a r ih =>
  intro b;have:=ih (b+1);simp only[Ref.beforeFrom];split<;>simp<;>omega
theorem ki (vg:Value)(g:List (List Int))(z:Int)(w:World)(hg:TabAt w.heap.size w vg g)(hsm:g.length<=100000) :
  Calls prog 103 #[vg,.int .i64 z] w fun e w'=>∃v,e=.returned v/\IntsAt w'.heap.size w' v (Ref.before g z)/\Gr w w':=by
 obtain⟨A,c,rfl,g1,g2,g3⟩:=hg;obtain⟨i0,M,H,I,J⟩:=info_parts ej
 go_enter func103, ntmps103
 go_wp2
 go_loopw [5,6] (fun s b wr=>∃k:Nat,k<=g.length/\b=.int .i64 k/\Own1 w.heap.size 3 wr s ((Ref.beforeFrom z (g.take k) 0).map (Value.int .i64))/\Gr w wr) (fun _ b _=>g.length-(intOf b).toNat)
 case atStart=>exact⟨0,pR _,rfl,Own1.nil _ _ _,qj _⟩
 case round =>
  obtain⟨k,R,rfl,j,m⟩:=hrel;by_cases F:k<g.length
  ·obtain⟨b,o,rfl,L,d⟩:=g3 (by omega);obtain⟨l,y⟩:∃l,g[k]?=some l:=⟨g[k],by simp[F]⟩;obtain⟨u,G,r⟩:=d k l y;have N:=(m.cell _ _ L).trans G;have p:=r.below m
   have t:Hid (Ref.beforeFrom z (g.take (k+1)) 0=Ref.beforeFrom z (g.take k) 0++(if Ref.has l z then [(k:Int)] else [])):=by
    have:=jk z g 0 k l y
    rwa [Nat.zero_add]at this
   have K:=gM z (g.take k) 0;have E:(g.take k).length<=k:=List.length_take_le _ _;have C:=nS u l z wr w.heap.size p
   cases hh:Ref.has l z with
   | true =>
    rw[hh]at C t;have B:=dJ C;clear y d G r p g3 C hh
    go_wp2_with (first|(go_at_call 131;refine B.out.mono ?_;rintro e w' ⟨rfl,rfl⟩)|(at_builtin;refine nF underlying22 M H I J rfl (by omega) rfl _ _ rfl rfl j rfl rfl (by simp;omega) m.size ?_;intro O Q T q D _))
    go_roundw;case rel=>exact⟨k+1,by omega,by go_num,by rw[t.out];simpa using q,m.below D (pS _)⟩
    case measure=>simp[intOf];omega
   | false =>
    rw[hh]at C t;have B:=dJ C;clear y d G r p g3 C hh;go_wp2_with (go_at_call 131;refine B.out.mono ?_;rintro e w' ⟨rfl,rfl⟩);go_roundw;case rel=>exact⟨k+1,by omega,by go_num,by rw[t.out];simpa using j,m⟩
    case measure=>simp[intOf];omega
  ·obtain rfl:k=g.length:=by omega
   go_wp2;go_ret;rw[pE]at j;exact⟨_,rfl,j.ints (by have:=gM z g 0;show (Ref.beforeFrom z g 0).length<=_;omega),m⟩
theorem fH (bs:List (List Ins))(k:Nat)(l:List Ins)(h:bs[k]?=some l)(x:Ins)(hx:l.getLast?=some x) :
  ((bs.take (k+1)).map fun l=>(l.getLast?.map (·.to)).getD [])=((bs.take k).map fun l=>(l.getLast?.map (·.to)).getD [])++[x.to]:=by
 obtain⟨d,e⟩:=oZ.1 h;rw[pG d,e,List.map_append];simp[hx]
theorem hC (v:Value)(f:Fn)(w:World)(hf:FnAt w.heap.size w v f)(hs:f.blocks.length<=100000)(hne:Hid (∀l∈f.blocks,l≠[])) :
  Calls prog 102 #[v] w fun e w'=>∃u,e=.returned u/\TabAt w'.heap.size w' u (Ref.graph f)/\Gr w w':=by
 obtain⟨vp,vs,vb,rfl,hp,ag,hb⟩:=hf;obtain⟨Y,cp,rfl,az,aA,af⟩:=hp;obtain⟨Z,cs,rfl,aB,aC,ah⟩:=ag;obtain⟨X,U,rfl,F,G,H⟩:=hb;clear af ah;obtain⟨i0,hi,an,ao,ap⟩:=info_parts ej;obtain⟨i1,hj,ak,al,am⟩:=info_parts gk;have E:Gr w (w.alloc (.cells #[.slice Y f.params.length cp,.int .i64 f.ret,.slice Z f.slots.length cs,.slice X f.blocks.length U] 25)):=(qj _).alloc _
 go_enter func102, ntmps102
 go_wp2
 go_loopw [3,4,5] (fun s b _ wr=>∃(k:Nat)(W:List Value),k<=f.blocks.length/\b=.int .i64 k/\Own1 (w.heap.size+1) 22 wr s W/\Tab1 (w.heap.size+1) 3 wr W ((f.blocks.take k).map fun l=>(l.getLast?.map (·.to)).getD []) /\
     Gr (w.alloc (.cells #[.slice Y f.params.length cp,.int .i64 f.ret,.slice Z f.slots.length cs,.slice X f.blocks.length U] 25)) wr) (fun _ b _ _=>f.blocks.length-(intOf b).toNat)
 case atStart=>exact⟨0,[],pR _,rfl,Own1.nil _ _ _,Tab1.nil _ _ _,qj _⟩
 case round =>
  obtain⟨k,W,hk,rfl,y,g,j⟩:=hrel;have au:wr.cell? ⟨w.heap.size,3,none⟩=some (.slice X f.blocks.length U):=(j.cell _ _ (by simp)).trans (by simp);by_cases ae:k<f.blocks.length
  ·obtain⟨bb,ob,rfl,ab,d⟩:=H (by omega);obtain⟨l,V⟩:∃l,f.blocks[k]?=some l:=⟨f.blocks[k],by simp[ae]⟩;obtain⟨u,hu,O⟩:=d k l V;have z:l≠[]:=hne.out l (pa V);obtain⟨x,hx⟩:∃x,l.getLast?=some x:=⟨_,List.getLast?_eq_some_getLast z⟩;have T:l[l.length-1]?=some x:=by rw[<-List.getLast?_eq_getElem?];exact hx
   have HS:=fH f.blocks k l V x hx;have L:0<l.length:=List.length_pos_iff.2 z;have J:Gr w wr:=E.trans j;have aE:=(J.cell _ _ ab).trans hu;have Q:=O.below J;obtain⟨Al,cl,rfl,ax,ay,K⟩:=Q;obtain⟨bl,ol,rfl,aw,I⟩:=K L;obtain⟨va,vt,_,_,_,_,_,ht,_,r⟩:=I _ x T;obtain⟨m,hm⟩:∃m,m+1=l.length:=⟨l.length-1,by omega⟩;rw[show l.length-1=m by omega]at ht;have aa:=dJ HS;have aD:w.heap.size<wr.heap.size:=by have:=j.size;simp at this;omega
   have R:W.length=k:=by rw[g.1];simp;omega
   have ar:bl<wr.heap.size:=by omega
   have HM:=dJ hm;have HU:=dJ R;have wm:(l.length:Int)-1=m:=by omega
   clear V d hu O H hx T HS z K I hm R;obtain⟨At,ct,rfl,ai,M,N⟩:=r;have r:IntsAt w.heap.size wr (.slice At x.to.length ct) x.to:=⟨At,ct,rfl,ai,M,N⟩;have HV:Hid (IntsAt w.heap.size (wr.alloc (.cells #[] 3)) (.slice At x.to.length ct) x.to):=r.below ((Below.refl _ wr).alloc (by omega) (.cells #[] 3));clear N r
   go_wp2_with (first|(at_builtin;refine oF (v:=.slice (some ⟨wr.heap.size,0,none⟩) 0 0) underlying22 hi an ao ap rfl rfl (.tmp 19) (.tmp 26) rfl rfl (Own1.empty (B:=w.heap.size+1) wr 3 (by omega)) HV rfl (by simp;omega) (by simp;omega) ?_;intro A1 c1 w1 q F ac;simp only[List.length_nil,Nat.zero_add,List.nil_append]at q;have aq:=F.size;have t:Gr wr w1:=(((qj wr).alloc (.cells #[] 3))).grown ac (by intro k hk;simp[Value.ownBlock]at hk;omega);have p:=y.gr t;have C:=g.gr t;have av:=t.size)|(at_builtin;refine nF (v:=u3) underlying98 hj ak al am rfl (by omega) rfl (.tmp 18) (.tmp 28) rfl rfl p rfl rfl (by rw[HU.out];omega) (by omega) ?_;intro A2 c2 w2 A G ad)
   )
   go_goals
   go_roundw
   case rel =>
    have aj:Gr (w.alloc (.cells #[.slice Y f.params.length cp,.int .i64 f.ret,.slice Z f.slots.length cs,.slice (some ⟨bb,ob,none⟩) f.blocks.length U] 25)) w2:=(j.trans t).below G (by simp);have D:=((C.snoc q M).gr ((qj _).alloc (.cells #[.slice A1 x.to.length c1] 22))).grown (p.gr ((qj _).alloc (.cells #[.slice A1 x.to.length c1] 22))) (by decide) ad;exact⟨k+1,_,by omega,by go_num,by simpa using A,by rw[aa.out];exact D,aj⟩
   case measure=>simp[intOf];omega
  ·obtain rfl:k=f.blocks.length:=by omega
   go_wp2;go_ret;rw[pE]at g;exact⟨_,rfl,g.tab y (by simp;omega),E.trans j⟩
