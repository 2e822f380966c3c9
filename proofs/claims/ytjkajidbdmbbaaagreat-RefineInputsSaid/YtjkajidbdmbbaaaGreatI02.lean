/- Parts. -/
import Derived.Test.YtjkajidbdmbbaaaGreatI01
import Derived.Test.YtjkajidbdmbbaaaGreatProg
import Derived.BigQuiet
set_option linter.unusedSimpArgs false
set_option linter.unusedVariables false
set_option maxRecDepth 100000
set_option maxHeartbeats 16000000
open Go.Proofs.Tryz
namespace Go.Proofs.YtjkajidbdmbbaaaGreat
open Go.RowKit
theorem dD (n:Int)(w:World):Calls prog 68 #[.int .i64 n] w (RS (.bool (Ref.isWidth n)) w):=by
 go_enter func68, ntmps68
 go_wp2;all_goals go_ret
 all_goals exact⟨cZ (by grind [Ref.isWidth]),rfl⟩
theorem mh (n:Int)(w:World):Calls prog 109 #[.int .i64 n] w (RS (.bool (Ref.isLast n)) w):=by
 go_enter func109, ntmps109
 go_wp2;all_goals go_ret
 all_goals exact⟨cZ (by grind [Ref.isLast]),rfl⟩
theorem oo (o wd fl im:Int)(va vt:Value)(w:World):Calls prog 140 #[.agg #[.int .i64 o,.int .i64 wd,.int .i64 fl,va,.int .u32 im,vt]] w fun e w' =>
  e=.returned (.bool (Ref.plain0 fl im))/\Gr w w':=by
 go_enter func140, ntmps140
 go_wp2;all_goals go_ret
 all_goals exact⟨cZ (by grind [Ref.plain0]),(tX _).alloc _⟩
theorem nm (o wd fl im:Int)(va vt:Value)(w:World):Calls prog 141 #[.agg #[.int .i64 o,.int .i64 wd,.int .i64 fl,va,.int .u32 im,vt]] w fun e w' =>
  e=.returned (.bool (Ref.arith0 o fl))/\Gr w w':=by
 go_enter func141, ntmps141
 go_wp2;all_goals go_ret
 all_goals exact⟨cZ (by grind [Ref.arith0]),(tX _).alloc _⟩
theorem nc (m:Nat)(h:m<=32):wrap64 (2 ^ m)=2 ^ m:=by
 have d:(2:Int) ^ m<=2 ^ 32:=by
  have:=Nat.pow_le_pow_right (show 0<2 by omega) h
  exact_mod_cast this
 have g:(0:Int)<2 ^ m:=by
  have:=Nat.pow_pos (n:=m) (show 0<2 by omega)
  exact_mod_cast this
 unfold wrap64;omega
theorem jw (n x:Int)(w:World)(hx:0<=x)(hx':x<4294967296):Calls prog 139 #[.int .i64 n,.int .u32 x] w (RS (.bool (Ref.isWordOf n x)) w):=by
 by_cases l:1<=n/\n<=32
 ·have d:Ref.isWidth n=true:=by grind [Ref.isWidth]
  obtain⟨j,g⟩:=l;obtain⟨m,rfl⟩:=tb (show 0<=n by omega);have c:=dD m w;rw[d]at c;have C:=dJ c;clear c
  go_enter func139, ntmps139
  go_wp2_with (go_at_call 68;refine C.out.mono ?_;rintro e w' ⟨rfl,rfl⟩);go_ret;exact⟨cZ (by rw[nc m (by omega)];simp[Ref.isWordOf,d]),rfl⟩
 ·have d:Ref.isWidth n=false:=by grind [Ref.isWidth]
  have c:=dD n w;rw[d]at c;have C:=dJ c;clear c
  go_enter func139, ntmps139
  go_wp2_with (go_at_call 68;refine C.out.mono ?_;rintro e w' ⟨rfl,rfl⟩);go_ret;exact⟨cZ (by simp[Ref.isWordOf,d]),rfl⟩
theorem qN (v:Value)(l:List Int)(n:Int)(w:World)(B:Nat)(hv:IntsAt B w v l):Calls prog 142 #[v,.int .i64 n] w (RS (.bool (Ref.has l n)) w):=by
 obtain⟨A,c,rfl,D,E,t⟩:=hv
 go_enter func142, ntmps142
 go_wp2
 go_loop [5] (fun i=>∃k:Nat,k<=l.length/\i=.int .i64 k/\Hid (Ref.has l n=Ref.has (l.drop k) n)) (fun i=>l.length-(intOf i).toNat)
 case atStart=>exact⟨0,tR _,rfl,rfl⟩
 case round =>
  obtain⟨k,y,rfl,d⟩:=hrel;rcases hr:l.drop k with _|⟨z,r⟩
  ·have p:=dm hr y;subst p;clear hr;go_wp2;go_ret;exact⟨cZ (by rw[d.out];simp[Ref.has]),rfl⟩
  ·obtain⟨C,u,j⟩:=di hr;obtain⟨b,o,rfl,F,g⟩:=t (by omega);have G:=g k z u
   have q:Hid (Ref.has l n=(decide (z=n) || Ref.has r n)):=by show _=_;rw[d.out,hr];rfl
   have m:Hid (l.drop (k+1)=r):=j;clear hr u j d g t;go_wp2
   ·go_ret;exact⟨cZ (by rw[q.out];grind),rfl⟩
   ·go_round;case rel=>exact⟨k+1,by omega,by go_num,by show _=_;rw[q.out,m.out];grind⟩
    case measure=>simp[intOf];omega
theorem eE (va vb:Value)(a b:List Int)(w:World)(ha:IntsAt w.heap.size w va a)(hb:IntsAt w.heap.size w vb b) :
  Calls prog 112 #[va,vb] w (RG (.bool (decide (a=b))) w):=by
 obtain⟨A,ca,rfl,L,M,l⟩:=ha;obtain⟨Q,T,rfl,N,O,m⟩:=hb;by_cases hlen:a.length=b.length
 ·have F:((a.length:Int) != (b.length:Int))=false:=by rw[hlen];simp
  have H:Hid (a.length=b.length):=hlen;clear hlen
  go_enter func112, ntmps112
  go_wp2
  go_loopw [5] (fun i wr=>∃k:Nat,k<=a.length/\i=.int .i64 k/\Hid (a.take k=b.take k)/\Gr w wr) (fun i _=>a.length-(intOf i).toNat)
  case atStart=>exact⟨0,tR _,rfl,rfl,tX _⟩
  case round =>
   obtain⟨k,U,rfl,g,r⟩:=hrel;by_cases j:k<a.length
   ·have d:k<b.length:=by have:=H.out;omega
    obtain⟨R,X,rfl,D,p⟩:=l (by omega);obtain⟨S,Y,rfl,E,q⟩:=m (by omega);obtain⟨x,u⟩:∃x,x=a[k]:=⟨_,rfl⟩;obtain⟨y,z⟩:∃y,y=b[k]:=⟨_,rfl⟩;have W:=(r.cell _ _ D).trans (p k x (by rw[u];simp[j]));have hv:=(r.cell _ _ E).trans (q k y (by rw[z];simp[d]));have J:Hid (a.take (k+1)=a.take k++[x]):=by show _=_;rw[u,tG j]
    have K:Hid (b.take (k+1)=b.take k++[y]):=by show _=_;rw[z,tG d]
    have B:Hid (a[k]?=some x):=by show _=_;rw[u];simp[j]
    have C:Hid (b[k]?=some y):=by show _=_;rw[z];simp[d]
    have Z:(0:Int)<=(k:Int):=by omega
    have z2:(k:Int)<(a.length:Int):=by omega
    have z3:(k:Int)<(b.length:Int):=by omega
    clear u z p q l m;go_wp2;go_quiet (fail);go_wp2
    ·go_ret
     exact⟨cZ (by
       have:a≠b:=by rintro rfl;have t:=B.out;have I:=C.out;rw[t]at I;cases I;simp_all
       simp[this]),r.drewN _⟩
    ·go_roundw;case rel=>exact⟨k+1,by omega,by go_num,by show _=_;rw[J.out,K.out,g.out];grind,r.drewN _⟩
     case measure=>simp[intOf];omega
   ·obtain rfl:k=a.length:=by omega
    go_wp2;go_ret
    exact⟨cZ (by
      have t:=g.out
      rw[tE,H.out,tE]at t
      simp[t]),r⟩
 ·have F:((a.length:Int) != (b.length:Int))=true:=by simp;omega
  have G:Hid (a≠b):=fun h=>hlen (by rw[h])
  go_enter func112, ntmps112
  go_wp2;go_ret;exact⟨cZ (by simp[G.out]),tX _⟩
theorem dC:(prog.info? 3).map (fun i=>(i.zero,i.size,i.bytes))=some (some (.int .i64 0),1,8):=by kernel_rfl
theorem gC:(prog.info? 33).map (fun i=>(i.zero,i.size,i.bytes))=some (some (.slice none 0 0),1,24):=by kernel_rfl
theorem kg (v:Int):∀(g:List (List Int))(b k:Nat)(l:List Int),g[k]?=some l ->
  Ref.beforeFrom v (g.take (k+1)) b=Ref.beforeFrom v (g.take k) b++(if Ref.has l v then [((b+k:Nat):Int)] else []):=by
 intro g
 induction g with
 | nil=>intro b k l h;simp at h
 | cons a r ih =>
  intro b k l h
  cases k with
  | zero =>
   simp at h;subst h;simp[Ref.beforeFrom]
  | succ k =>
   have:=ih (b+1) k l (by simpa using h);simp only[tJ,Ref.beforeFrom,this];rw[show b+1+k=b+(k+1) by omega];split<;>simp
theorem gZ (v:Int):∀(g:List (List Int))(b:Nat),(Ref.beforeFrom v g b).length<=g.length:=by
 intro g
 induction g with
 | nil=>intro b;simp[Ref.beforeFrom]
 | cons a r ih =>
  intro b;have:=ih (b+1);simp only[Ref.beforeFrom];split<;>simp<;>omega
theorem lR (vg:Value)(g:List (List Int))(z:Int)(w:World)(hg:TabAt w.heap.size w vg g)(hsm:g.length<=100000) :
  Calls prog 111 #[vg,.int .i64 z] w fun e w'=>∃v,e=.returned v/\IntsAt w'.heap.size w' v (Ref.before g z)/\Gr w w':=by
 obtain⟨A,c,rfl,R,S,D⟩:=hg;obtain⟨U,M,I,J,K⟩:=info_parts dC
 go_enter func111, ntmps111
 go_wp2
 go_loopw [5,6] (fun s b wr=>∃k:Nat,k<=g.length/\b=.int .i64 k/\Own1 w.heap.size 3 wr s ((Ref.beforeFrom z (g.take k) 0).map (Value.int .i64))/\Gr w wr) (fun _ b _=>g.length-(intOf b).toNat)
 case atStart=>exact⟨0,tR _,rfl,Own1.nil _ _ _,tX _⟩
 case round =>
  obtain⟨k,T,rfl,j,m⟩:=hrel;by_cases G:k<g.length
  ·obtain⟨b,o,rfl,L,d⟩:=D (by omega);obtain⟨l,y⟩:∃l,g[k]?=some l:=⟨g[k],by simp[G]⟩;obtain⟨u,H,r⟩:=d k l y;have N:=(m.cell _ _ L).trans H;have p:=r.below m
   have t:Hid (Ref.beforeFrom z (g.take (k+1)) 0=Ref.beforeFrom z (g.take k) 0++(if Ref.has l z then [(k:Int)] else [])):=by
    have:=kg z g 0 k l y
    rwa [Nat.zero_add]at this
   have hlen:=gZ z (g.take k) 0;have F:(g.take k).length<=k:=List.length_take_le _ _;have C:=qN u l z wr w.heap.size p
   cases hh:Ref.has l z with
   | true =>
    rw[hh]at C t;have B:=dJ C;clear y d H r p D C hh
    go_wp2_with (first|(go_at_call 142;refine B.out.mono ?_;rintro e w' ⟨rfl,rfl⟩)|(at_builtin;refine rC underlying33 M I J K rfl (by omega) rfl _ _ rfl rfl j rfl rfl (by simp;omega) m.size ?_;intro O Q W q E _))
    go_roundw;case rel=>exact⟨k+1,by omega,by go_num,by rw[t.out];simpa using q,m.below E (tS _)⟩
    case measure=>simp[intOf];omega
   | false =>
    rw[hh]at C t;have B:=dJ C;clear y d H r p D C hh;go_wp2_with (go_at_call 142;refine B.out.mono ?_;rintro e w' ⟨rfl,rfl⟩);go_roundw;case rel=>exact⟨k+1,by omega,by go_num,by rw[t.out];simpa using j,m⟩
    case measure=>simp[intOf];omega
  ·obtain rfl:k=g.length:=by omega
   go_wp2;go_ret;rw[tE]at j;exact⟨_,rfl,j.ints (by have:=gZ z g 0;show (Ref.beforeFrom z g 0).length<=_;omega),m⟩
theorem fL (bs:List (List Ins))(k:Nat)(l:List Ins)(h:bs[k]?=some l)(x:Ins)(hx:l.getLast?=some x) :
  ((bs.take (k+1)).map fun l=>(l.getLast?.map (·.to)).getD [])=((bs.take k).map fun l=>(l.getLast?.map (·.to)).getD [])++[x.to]:=by
 obtain⟨d,e⟩:=sR.1 h;rw[tG d,e,List.map_append];simp[hx]
theorem iB (v:Value)(f:Fn)(w:World)(hf:FnAt w.heap.size w v f)(hs:f.blocks.length<=100000)(hne:Hid (∀l∈f.blocks,l≠[])) :
  Calls prog 110 #[v] w fun e w'=>∃u,e=.returned u/\TabAt w'.heap.size w' u (Ref.graph f)/\Gr w w':=by
 obtain⟨vp,vs,vb,rfl,hp,af,hb⟩:=hf;obtain⟨X,cp,rfl,ay,az,ae⟩:=hp;obtain⟨Y,cs,rfl,aA,aB,ag⟩:=af;obtain⟨W,T,rfl,F,G,H⟩:=hb;clear ae ag;obtain⟨i0,hi,am,an,ao⟩:=info_parts dC;obtain⟨i1,hj,aj,ak,al⟩:=info_parts gC;have E:Gr w (w.alloc (.cells #[.slice X f.params.length cp,.int .i64 f.ret,.slice Y f.slots.length cs,.slice W f.blocks.length T] 36)):=(tX _).alloc _
 go_enter func110, ntmps110
 go_wp2
 go_loopw [3,4,5] (fun s b _ wr=>∃(k:Nat)(us:List Value),k<=f.blocks.length/\b=.int .i64 k/\Own1 (w.heap.size+1) 33 wr s us/\Tab1 (w.heap.size+1) 3 wr us ((f.blocks.take k).map fun l=>(l.getLast?.map (·.to)).getD []) /\
     Gr (w.alloc (.cells #[.slice X f.params.length cp,.int .i64 f.ret,.slice Y f.slots.length cs,.slice W f.blocks.length T] 36)) wr) (fun _ b _ _=>f.blocks.length-(intOf b).toNat)
 case atStart=>exact⟨0,[],tR _,rfl,Own1.nil _ _ _,Tab1.nil _ _ _,tX _⟩
 case round =>
  obtain⟨k,us,hk,rfl,y,g,j⟩:=hrel;have ar:wr.cell? ⟨w.heap.size,3,none⟩=some (.slice W f.blocks.length T):=(j.cell _ _ (by simp)).trans (by simp);by_cases ad:k<f.blocks.length
  ·obtain⟨bb,ob,rfl,aa,d⟩:=H (by omega);obtain⟨l,U⟩:∃l,f.blocks[k]?=some l:=⟨f.blocks[k],by simp[ad]⟩;obtain⟨u,hu,O⟩:=d k l U;have z:l≠[]:=hne.out l (sS U);obtain⟨x,hx⟩:∃x,l.getLast?=some x:=⟨_,List.getLast?_eq_some_getLast z⟩;have S:l[l.length-1]?=some x:=by rw[<-List.getLast?_eq_getElem?];exact hx
   have HS:=fL f.blocks k l U x hx;have L:0<l.length:=List.length_pos_iff.2 z;have J:Gr w wr:=E.trans j;have aD:=(J.cell _ _ aa).trans hu;have Q:=O.below J;obtain⟨Al,cl,rfl,aw,ax,K⟩:=Q;obtain⟨bl,ol,rfl,av,I⟩:=K L;obtain⟨va,vt,_,_,_,_,_,ht,_,r⟩:=I _ x S;obtain⟨m,hm⟩:∃m,m+1=l.length:=⟨l.length-1,by omega⟩;rw[show l.length-1=m by omega]at ht;have Z:=dJ HS;have aC:w.heap.size<wr.heap.size:=by have:=j.size;simp at this;omega
   have R:us.length=k:=by rw[g.1];simp;omega
   have aq:bl<wr.heap.size:=by omega
   have HM:=dJ hm;have HU:=dJ R;have wm:(l.length:Int)-1=m:=by omega
   clear U d hu O H hx S HS z K I hm R;obtain⟨At,ct,rfl,ah,M,N⟩:=r;have r:IntsAt w.heap.size wr (.slice At x.to.length ct) x.to:=⟨At,ct,rfl,ah,M,N⟩;have HV:Hid (IntsAt w.heap.size (wr.alloc (.cells #[] 3)) (.slice At x.to.length ct) x.to):=r.below ((Below.refl _ wr).alloc (by omega) (.cells #[] 3));clear N r
   go_wp2_with (first|(at_builtin;refine rY (v:=.slice (some ⟨wr.heap.size,0,none⟩) 0 0) underlying33 hi am an ao rfl rfl (.tmp 19) (.tmp 26) rfl rfl (tZ (B:=w.heap.size+1) wr 3 (by omega)) HV rfl (by simp;omega) (by simp;omega) ?_;intro A1 c1 w1 q F ab;simp only[List.length_nil,Nat.zero_add,List.nil_append]at q;have ap:=F.size;have t:Gr wr w1:=(((tX wr).alloc (.cells #[] 3))).grown ab (by intro k hk;simp[Value.ownBlock]at hk;omega);have p:=y.gr t;have C:=g.gr t;have au:=t.size)|(at_builtin;refine rC (v:=u3) underlying25 hj aj ak al rfl (by omega) rfl (.tmp 18) (.tmp 28) rfl rfl p rfl rfl (by rw[HU.out];omega) (by omega) ?_;intro A2 c2 w2 A G ac)
   )
   go_goals
   go_roundw
   case rel =>
    have ai:Gr (w.alloc (.cells #[.slice X f.params.length cp,.int .i64 f.ret,.slice Y f.slots.length cs,.slice (some ⟨bb,ob,none⟩) f.blocks.length T] 36)) w2:=(j.trans t).below G (by simp);have D:=((C.snoc q M).gr ((tX _).alloc (.cells #[.slice A1 x.to.length c1] 33))).grown (p.gr ((tX _).alloc (.cells #[.slice A1 x.to.length c1] 33))) (by decide) ac;exact⟨k+1,_,by omega,by go_num,by simpa using A,by rw[Z.out];exact D,ai⟩
   case measure=>simp[intOf];omega
  ·obtain rfl:k=f.blocks.length:=by omega
   go_wp2;go_ret;rw[tE]at g;exact⟨_,rfl,g.tab y (by simp;omega),E.trans j⟩
