import Derived.Test.YtjkajidbdmbbaaaGreatN01
import Derived.Test.YtjkajidbdmbbaaaGreatProg
import Derived.BigQuiet
set_option linter.unusedSimpArgs false
set_option linter.unusedVariables false
set_option maxRecDepth 100000
set_option maxHeartbeats 16000000
open Go.Proofs.Tryz
namespace Go.Proofs.YtjkajidbdmbbaaaGreat
open Ref Rn Wd Ir Rf
open Go.RowKit
theorem dU (n:Int)(w:World):Calls prog 68 #[.int .i64 n] w (RS (.bool (yS n)) w):=by
 go_enter func68, ntmps68
 go_wp2;all_goals go_ret
 all_goals exact⟨cZ (by grind [yS]),rfl⟩
theorem jS (n:Int)(w:World):Calls prog 109 #[.int .i64 n] w (RS (.bool (Cb n)) w):=by
 go_enter func109, ntmps109
 go_wp2;all_goals go_ret
 all_goals exact⟨cZ (by grind [Cb]),rfl⟩
theorem rO (o wd fl im:Int)(va vt:Value)(w:World):Calls prog 140 #[.agg #[.int .i64 o,.int .i64 wd,.int .i64 fl,va,.int .u32 im,vt]] w fun e w' =>
  e=.returned (.bool (E5 fl im))/\Gr w w':=by
 go_enter func140, ntmps140
 go_wp2;all_goals go_ret
 all_goals exact⟨cZ (by grind [E5]),(yO _).alloc _⟩
theorem qu (o wd fl im:Int)(va vt:Value)(w:World):Calls prog 141 #[.agg #[.int .i64 o,.int .i64 wd,.int .i64 fl,va,.int .u32 im,vt]] w fun e w' =>
  e=.returned (.bool (Ge o fl))/\Gr w w':=by
 go_enter func141, ntmps141
 go_wp2;all_goals go_ret
 all_goals exact⟨cZ (by grind [Ge]),(yO _).alloc _⟩
theorem pZ (m:Nat)(h:m<=32):wrap64 (2 ^ m)=2 ^ m:=by
 have d:(2:Int) ^ m<=2 ^ 32:=by
  have:=Nat.pow_le_pow_right (show 0<2 by omega) h
  exact_mod_cast this
 have g:(0:Int)<2 ^ m:=by
  have:=Nat.pow_pos (n:=m) (show 0<2 by omega)
  exact_mod_cast this
 unfold wrap64;omega
theorem lJ (n x:Int)(w:World)(hx:0<=x)(hx':x<4294967296):Calls prog 139 #[.int .i64 n,.int .u32 x] w (RS (.bool (Ew n x)) w):=by
 by_cases l:1<=n/\n<=32
 ·have d:yS n=true:=by grind [yS]
  obtain⟨j,g⟩:=l;obtain⟨m,rfl⟩:=xZ (show 0<=n by omega);have c:=dU m w;rw[d]at c;have C:=dJ c;clear c
  go_enter func139, ntmps139
  go_wp2_with (go_at_call 68;refine C.out.mono ?_;rintro e w' ⟨rfl,rfl⟩);go_ret;exact⟨cZ (by rw[pZ m (by omega)];simp[Ew,d]),rfl⟩
 ·have d:yS n=false:=by grind [yS]
  have c:=dU n w;rw[d]at c;have C:=dJ c;clear c
  go_enter func139, ntmps139
  go_wp2_with (go_at_call 68;refine C.out.mono ?_;rintro e w' ⟨rfl,rfl⟩);go_ret;exact⟨cZ (by simp[Ew,d]),rfl⟩
theorem ve (v:Value)(l:List Int)(n:Int)(w:World)(B:Nat)(hv:IntsAt B w v l):Calls prog 142 #[v,.int .i64 n] w (RS (.bool (En l n)) w):=by
 obtain⟨A,c,rfl,C,D,t⟩:=hv
 go_enter func142, ntmps142
 go_wp2
 go_loop [5] (fun i=>∃k:Nat,k<=l.length/\i=.int .i64 k/\Hid (En l n=En (l.drop k) n)) (fun i=>l.length-(intOf i).toNat)
 case atStart=>exact⟨0,yI _,rfl,rfl⟩
 case round =>
  obtain⟨k,u,rfl,d⟩:=hrel;rcases hr:l.drop k with _|⟨z,r⟩
  ·have p:=dw hr u;subst p;clear hr;go_wp2;go_ret;exact⟨cZ (by rw[d.out];simp[En]),rfl⟩
  ·obtain⟨y,hl,j⟩:=dr hr;obtain⟨b,o,rfl,E,g⟩:=t (by omega);have F:=g k z hl
   have q:Hid (En l n=(decide (z=n) || En r n)):=by show _=_;rw[d.out,hr];rfl
   have m:Hid (l.drop (k+1)=r):=j;clear hr hl j d g t;go_wp2
   ·go_ret;exact⟨cZ (by rw[q.out];grind),rfl⟩
   ·go_round;case rel=>exact⟨k+1,by omega,by go_num,by show _=_;rw[q.out,m.out];grind⟩
    case measure=>simp[intOf];omega
theorem fC (va vb:Value)(a b:List Int)(w:World)(ha:IntsAt w.heap.size w va a)(hb:IntsAt w.heap.size w vb b) :
  Calls prog 112 #[va,vb] w (RG (.bool (decide (a=b))) w):=by
 obtain⟨A,ca,rfl,L,M,l⟩:=ha;obtain⟨Q,T,rfl,N,O,m⟩:=hb;by_cases hlen:a.length=b.length
 ·have F:((a.length:Int) != (b.length:Int))=false:=by rw[hlen];simp
  have H:Hid (a.length=b.length):=hlen;clear hlen
  go_enter func112, ntmps112
  go_wp2
  go_loopw [5] (fun i wr=>∃k:Nat,k<=a.length/\i=.int .i64 k/\Hid (a.take k=b.take k)/\Gr w wr) (fun i _=>a.length-(intOf i).toNat)
  case atStart=>exact⟨0,yI _,rfl,rfl,yO _⟩
  case round =>
   obtain⟨k,U,rfl,g,r⟩:=hrel;by_cases j:k<a.length
   ·have d:k<b.length:=by have:=H.out;omega
    obtain⟨R,X,rfl,D,p⟩:=l (by omega);obtain⟨S,Y,rfl,E,q⟩:=m (by omega);obtain⟨x,u⟩:∃x,x=a[k]:=⟨_,rfl⟩;obtain⟨y,z⟩:∃y,y=b[k]:=⟨_,rfl⟩;have W:=(r.cell _ _ D).trans (p k x (by rw[u];simp[j]));have hv:=(r.cell _ _ E).trans (q k y (by rw[z];simp[d]));have J:Hid (a.take (k+1)=a.take k++[x]):=by show _=_;rw[u,yx j]
    have K:Hid (b.take (k+1)=b.take k++[y]):=by show _=_;rw[z,yx d]
    have B:Hid (a[k]?=some x):=by show _=_;rw[u];simp[j]
    have C:Hid (b[k]?=some y):=by show _=_;rw[z];simp[d]
    have Z:(0:Int)<=(k:Int):=by omega
    have z2:(k:Int)<(a.length:Int):=by omega
    have z3:(k:Int)<(b.length:Int):=by omega
    clear u z p q l m;go_wp2;go_quiet (fail);go_wp2
    ·go_ret
     exact⟨cZ (by
       have:a≠b:=by rintro rfl;have t:=B.out;have I:=C.out;rw[t]at I;cases I;simp_all
       simp[this]),r.drewN _⟩
    ·go_roundw;case rel=>exact⟨k+1,by omega,by go_num,by show _=_;rw[J.out,K.out,g.out];grind,r.drewN _⟩
     case measure=>simp[intOf];omega
   ·obtain rfl:k=a.length:=by omega
    go_wp2;go_ret
    exact⟨cZ (by
      have t:=g.out
      rw[yv,H.out,yv]at t
      simp[t]),r⟩
 ·have F:((a.length:Int) != (b.length:Int))=true:=by simp;omega
  have G:Hid (a≠b):=fun h=>hlen (by rw[h])
  go_enter func112, ntmps112
  go_wp2;go_ret;exact⟨cZ (by simp[G.out]),yO _⟩
theorem dK:(prog.info? 3).map (fun i=>(i.zero,i.size,i.bytes))=some (some (.int .i64 0),1,8):=by kernel_rfl
theorem iX:(prog.info? 33).map (fun i=>(i.zero,i.size,i.bytes))=some (some (.slice none 0 0),1,24):=by kernel_rfl
theorem mw (v:Int):∀(g:List (List Int))(b k:Nat)(l:List Int),g[k]?=some l ->
  BF v (g.take (k+1)) b=BF v (g.take k) b++(if En l v then [((b+k:Nat):Int)] else []):=by
 intro g
 induction g with
 | nil=>intro b k l h;simp at h
 | cons a r ih =>
  intro b k l h
  cases k with
  | zero =>
   simp at h;subst h;simp[BF]
  | succ k =>
   have:=ih (b+1) k l (by simpa using h);simp only[yA,BF,this];rw[show b+1+k=b+(k+1) by omega];split<;>simp
theorem jH (v:Int):∀(g:List (List Int))(b:Nat),(BF v g b).length<=g.length:=by
 intro g
 induction g with
 | nil=>intro b;simp[BF]
 | cons a r ih =>
  intro b;have:=ih (b+1);simp only[BF];split<;>simp<;>omega
theorem oK (vg:Value)(g:List (List Int))(z:Int)(w:World)(hg:TabAt w.heap.size w vg g)(hsm:g.length<=100000) :
  Calls prog 111 #[vg,.int .i64 z] w fun e w'=>∃v,e=.returned v/\IntsAt w'.heap.size w' v (AC g z)/\Gr w w':=by
 obtain⟨A,c,rfl,Q,R,B⟩:=hg;obtain⟨T,L,H,I,J⟩:=info_parts dK
 go_enter func111, ntmps111
 go_wp2
 go_loopw [5,6] (fun s b wr=>∃k:Nat,k<=g.length/\b=.int .i64 k/\Own1 w.heap.size 3 wr s ((BF z (g.take k) 0).map (Value.int .i64))/\Gr w wr) (fun _ b _=>g.length-(intOf b).toNat)
 case atStart=>exact⟨0,yI _,rfl,Own1.nil _ _ _,yO _⟩
 case round =>
  obtain⟨k,S,rfl,j,m⟩:=hrel;by_cases F:k<g.length
  ·obtain⟨b,o,rfl,K,d⟩:=B (by omega);obtain⟨l,hl⟩:∃l,g[k]?=some l:=⟨g[k],by simp[F]⟩;obtain⟨u,G,r⟩:=d k l hl;have M:=(m.cell _ _ K).trans G;have p:=r.below m
   have t:Hid (BF z (g.take (k+1)) 0=BF z (g.take k) 0++(if En l z then [(k:Int)] else [])):=by
    have:=mw z g 0 k l hl
    rwa [Nat.zero_add]at this
   have hlen:=jH z (g.take k) 0;have E:(g.take k).length<=k:=List.length_take_le _ _;have C:=ve u l z wr w.heap.size p
   cases hh:En l z with
   | true =>
    rw[hh]at C t;have y:=dJ C;clear hl d G r p B C hh
    go_wp2_with (first|(go_at_call 142;refine y.out.mono ?_;rintro e w' ⟨rfl,rfl⟩)|(at_builtin;refine wk underlying33 L H I J rfl (by omega) rfl _ _ rfl rfl j rfl rfl (by simp;omega) m.size ?_;intro N O U q D _))
    go_roundw;case rel=>exact⟨k+1,by omega,by go_num,by rw[t.out];simpa using q,m.below D (yJ _)⟩
    case measure=>simp[intOf];omega
   | false =>
    rw[hh]at C t;have y:=dJ C;clear hl d G r p B C hh;go_wp2_with (go_at_call 142;refine y.out.mono ?_;rintro e w' ⟨rfl,rfl⟩);go_roundw;case rel=>exact⟨k+1,by omega,by go_num,by rw[t.out];simpa using j,m⟩
    case measure=>simp[intOf];omega
  ·obtain rfl:k=g.length:=by omega
   go_wp2;go_ret;rw[yv]at j;exact⟨_,rfl,j.ints (by have:=jH z g 0;show (BF z g 0).length<=_;omega),m⟩
theorem gZ (bs:List (List Ins))(k:Nat)(l:List Ins)(h:bs[k]?=some l)(x:Ins)(hx:l.getLast?=some x) :
  ((bs.take (k+1)).map fun l=>(l.getLast?.map (·.to)).getD [])=((bs.take k).map fun l=>(l.getLast?.map (·.to)).getD [])++[x.to]:=by
 obtain⟨d,e⟩:=xS.1 h;rw[yx d,e,List.map_append];simp[hx]
theorem kh (v:Value)(f:Fn)(w:World)(hf:FnAt w.heap.size w v f)(hs:f.b.length<=100000)(hne:Hid (∀l∈f.b,l≠[])) :
  Calls prog 110 #[v] w fun e w'=>∃u,e=.returned u/\TabAt w'.heap.size w' u (n5 f)/\Gr w w':=by
 obtain⟨vp,vs,vb,rfl,hp,af,hb⟩:=hf;obtain⟨W,Z,rfl,ay,az,ae⟩:=hp;obtain⟨X,cs,rfl,aA,aB,ag⟩:=af;obtain⟨U,T,rfl,F,G,H⟩:=hb;clear ae ag;obtain⟨i0,hi,am,an,ao⟩:=info_parts dK;obtain⟨i1,hj,aj,ak,al⟩:=info_parts iX;have E:Gr w (w.alloc (.cells #[.slice W f.p.length Z,.int .i64 f.ret,.slice X f.s.length cs,.slice U f.b.length T] 36)):=(yO _).alloc _
 go_enter func110, ntmps110
 go_wp2
 go_loopw [3,4,5] (fun s b _ wr=>∃(k:Nat)(us:List Value),k<=f.b.length/\b=.int .i64 k/\Own1 (w.heap.size+1) 33 wr s us/\Tab1 (w.heap.size+1) 3 wr us ((f.b.take k).map fun l=>(l.getLast?.map (·.to)).getD []) /\
     Gr (w.alloc (.cells #[.slice W f.p.length Z,.int .i64 f.ret,.slice X f.s.length cs,.slice U f.b.length T] 36)) wr) (fun _ b _ _=>f.b.length-(intOf b).toNat)
 case atStart=>exact⟨0,[],yI _,rfl,Own1.nil _ _ _,Tab1.nil _ _ _,yO _⟩
 case round =>
  obtain⟨k,us,hk,rfl,y,g,j⟩:=hrel;have ar:wr.cell? ⟨w.heap.size,3,none⟩=some (.slice U f.b.length T):=(j.cell _ _ (by simp)).trans (by simp);by_cases ad:k<f.b.length
  ·obtain⟨bb,ob,rfl,aa,d⟩:=H (by omega);obtain⟨l,hl⟩:∃l,f.b[k]?=some l:=⟨f.b[k],by simp[ad]⟩;obtain⟨u,hu,O⟩:=d k l hl;have z:l≠[]:=hne.out l (xT hl);obtain⟨x,hx⟩:∃x,l.getLast?=some x:=⟨_,List.getLast?_eq_some_getLast z⟩;have S:l[l.length-1]?=some x:=by rw[<-List.getLast?_eq_getElem?];exact hx
   have HS:=gZ f.b k l hl x hx;have L:0<l.length:=List.length_pos_iff.2 z;have J:Gr w wr:=E.trans j;have aD:=(J.cell _ _ aa).trans hu;have Q:=O.below J;obtain⟨Al,cl,rfl,aw,ax,K⟩:=Q;obtain⟨bl,ol,rfl,av,I⟩:=K L;obtain⟨va,vt,_,_,_,_,_,ht,_,r⟩:=I _ x S;obtain⟨m,hm⟩:∃m,m+1=l.length:=⟨l.length-1,by omega⟩;rw[show l.length-1=m by omega]at ht;have Y:=dJ HS;have aC:w.heap.size<wr.heap.size:=by have:=j.size;simp at this;omega
   have R:us.length=k:=by rw[g.1];simp;omega
   have aq:bl<wr.heap.size:=by omega
   have HM:=dJ hm;have HU:=dJ R;have wm:(l.length:Int)-1=m:=by omega
   clear hl d hu O H hx S HS z K I hm R;obtain⟨At,ct,rfl,ah,M,N⟩:=r;have r:IntsAt w.heap.size wr (.slice At x.to.length ct) x.to:=⟨At,ct,rfl,ah,M,N⟩;have HV:Hid (IntsAt w.heap.size (wr.alloc (.cells #[] 3)) (.slice At x.to.length ct) x.to):=r.below ((Below.refl _ wr).alloc (by omega) (.cells #[] 3));clear N r
   go_wp2_with (first|(at_builtin;refine xg (v:=.slice (some ⟨wr.heap.size,0,none⟩) 0 0) underlying33 hi am an ao rfl rfl (.tmp 19) (.tmp 26) rfl rfl (yQ (B:=w.heap.size+1) wr 3 (by omega)) HV rfl (by simp;omega) (by simp;omega) ?_;intro A1 c1 w1 q F ab;simp only[List.length_nil,Nat.zero_add,List.nil_append]at q;have ap:=F.size;have t:Gr wr w1:=(((yO wr).alloc (.cells #[] 3))).grown ab (by intro k hk;simp[Value.ownBlock]at hk;omega);have p:=y.gr t;have C:=g.gr t;have au:=t.size)|(at_builtin;refine wk (v:=u3) underlying25 hj aj ak al rfl (by omega) rfl (.tmp 18) (.tmp 28) rfl rfl p rfl rfl (by rw[HU.out];omega) (by omega) ?_;intro A2 c2 w2 A G ac)
   )
   go_goals
   go_roundw
   case rel =>
    have ai:Gr (w.alloc (.cells #[.slice W f.p.length Z,.int .i64 f.ret,.slice X f.s.length cs,.slice (some ⟨bb,ob,none⟩) f.b.length T] 36)) w2:=(j.trans t).below G (by simp);have D:=((C.snoc q M).gr ((yO _).alloc (.cells #[.slice A1 x.to.length c1] 33))).grown (p.gr ((yO _).alloc (.cells #[.slice A1 x.to.length c1] 33))) (by decide) ac;exact⟨k+1,_,by omega,by go_num,by simpa using A,by rw[Y.out];exact D,ai⟩
   case measure=>simp[intOf];omega
  ·obtain rfl:k=f.b.length:=by omega
   go_wp2;go_ret;rw[yv]at g;exact⟨_,rfl,g.tab y (by simp;omega),E.trans j⟩
