/- Parts. -/
import Derived.Test.YthfhamagopbgcaaGreatK46
import Derived.Test.YthfhamagopbgcaaGreatK47
set_option linter.unusedSimpArgs false
set_option linter.unusedVariables false
set_option maxRecDepth 100000
set_option maxHeartbeats 16000000
open Go.Proofs.Tryz
namespace Go.Proofs.YthfhamagopbgcaaGreat
section
open Go.RowKit Go.Shelf
def wU (f:Fn)(i:Rn.Inp):List Rn.Out:=if Rn.validInput f i=0 then (Rn.all f i).getD [] else []
def xA (f:Fn)(i:Rn.Inp):Int:=if Rn.validInput f i=0 then (if Rn.all f i=none then 3 else 0) else Rn.validInput f i
def xZ (o:Rn.Out):Bool:=decide (o.kind=0) && !o.ret.p && o.mem.all (fun r=>r.all fun b=>decide (0<=b))
def xh (f:Fn)(i:Rn.Inp):Bool :=
 match wU f i with
 | [o]=>xZ o
 | _=>false
def OB (o:Rn.Out):Prop:=OW o/\∀r∈o.mem,∀b∈r,-1<=b
theorem yj {f:Fn}{i:Rn.Inp}(hv:Ref.Val f)(hi:Rn.Im f)(hin:Rn.validInput f i=0)(ha:∀a∈i.args,0<=a)(p:List Int):OB (Rn.run f (Rn.given p) i).1:=by
 refine⟨ye hv hi hin ha p,?_⟩;obtain⟨-,-,h,q⟩:=Rn.run_ok mr hv hi hin ha p;rcases q with ⟨-,q,-⟩|q|q
 ·rw[q];exact fun r d b g=>(h.bytes r d b g).1
 all_goals rw[q];intro r d;cases d
theorem xm {P:Rn.Out->Prop}{f:Fn}{i:Rn.Inp}(h:∀p,P (Rn.run f (Rn.given p) i).1):∀(n:Nat)(p:List Int)(outs outs':List Rn.Out),(∀o∈outs,P o)->Rn.explore f i n p outs=some outs'->∀o∈outs',P o
 | 0,p,outs,outs',_,he=>by rw[Rn.explore]at he;cases he
 | n+1,p,outs,outs',ho,he=>by
  obtain⟨g,j⟩:=Rn.explore_round he
  have d:∀o∈Rn.insert (Rn.run f (Rn.given p) i).1 outs,P o:=fun o hm=>(xd hm).elim (fun e=>e ▸ h p) (ho o)
  cases hN:Rn.nextK (Rn.padded p (Rn.wids f i p).length) (Rn.wids f i p) (Rn.wids f i p).length with
  | none =>
   have e:=g hN;injection e with e;rw[e];exact d
  | some k=>exact xm h n _ _ _ d (j k hN)
section
variable {f:Fn}{i:Rn.Inp}
theorem xC (him:Rn.Im f)(ha:∀a∈i.args,0<=a):∀o∈wU f i,OB o:=by
 unfold wU;split
 ·rename_i h
  cases hA:Rn.all f i with
  | none=>intro o d;cases d
  | some outs=>exact xm (yj (Rn.valid_input h).1 him h ha) 256 [] [] outs (fun o d=>by cases d) hA
 ·intro o d;cases d
theorem xr:(wU f i).length<=256:=by
 unfold wU;split
 ·cases hA:Rn.all f i with
  | none=>exact vU _
  | some outs=>exact(Rn.all_asc hA).2
 ·exact vU _
theorem xB (h:xA f i≠0):wU f i=[]:=by
 unfold xA at h;unfold wU;split
 ·rename_i hv;rw[wa hv]at h;split at h
  ·rename_i e;rw[e];rfl
  ·exact absurd rfl h
 ·rfl
theorem xD (D:Nat->Prop)(B:Nat)(w:World):OutsAt (fun _=>False) B w (.slice none 0 0) [] []:=⟨rfl,⟨rfl,.inl ⟨rfl,rfl⟩⟩,fun j o vm h=>by simp at h⟩
def yp (f:Fn)(i:Rn.Inp)(B:Nat)(e:Ending)(w':World):Prop:=∃A c D vms,e=.returned (.tuple #[.slice A (wU f i).length c,.int .i64 (xA f i)])/\OutsAt D B w' (.slice A (wU f i).length c) (wU f i) vms
theorem AllP.row {B:Nat}{e:Ending}{w':World}(h:AllP f i B e w'):yp f i B e w':=by
 unfold yp wU xA;rcases h with ⟨h,rfl⟩|⟨h,d,rfl⟩|⟨h,l,d,-,-,v,D,g,rfl,j⟩
 ·rw[wb h,wb h];exact⟨none,0,_,[],rfl,xD (fun _=>False) _ _⟩
 ·rw[wa h,wa h,d];exact⟨none,0,_,[],rfl,xD (fun _=>False) _ _⟩
 ·rw[wa h,wa h,d];obtain⟨A,c,rfl,-⟩:=dU j.own;exact⟨A,c,D,g,rfl,j⟩
end
theorem xu {D D':Nat->Prop}{B B' n c c':Nat}{A A':Option Addr}{w:World}{outs:List Rn.Out}{vms vms':List Value}(h:OutsAt D B w (.slice A n c) outs vms)(h':OutsAt D' B' w (.slice A' n c') outs vms')(hn:outs.length=n)(hl:n<=256)(ho:∀o∈outs,OW o) :
  Calls prog 27 #[.slice A n c,.slice A' n c'] w (RG (.bool true) w):=by
 have G:=dJ fun(j:Nat)(y:Rn.Out)(p:outs[j]?=some y)=>h.cells hn p;have r:=dJ fun(j:Nat)(y:Rn.Out)(p:outs[j]?=some y)=>h'.cells hn p;have H:=dJ hn;have C:=dJ ho;clear h h' hn ho
 go_enter func27, ntmps27
 go_wp2
 go_loopw [5] (fun z wr=>∃k:Nat,k<=n/\z=.int .i64 (k:Int)/\Hid (Gr w wr)) (fun z _=>n-(intOf z).toNat)
 case atStart=>exact⟨0,vU _,rfl,wL _⟩
 case round =>
  obtain⟨k,hk,rfl,l⟩:=hrel;by_cases W:k<n
  ·obtain⟨y,p⟩:∃y,outs[k]?=some y:=⟨_,vu (by have:=H.out;omega)⟩;obtain⟨b,Y,cy,rfl,hc,-,g,q⟩:=G.out k y p;obtain⟨Z,E,T,rfl,U,-,d,m⟩:=r.out k y p;have CS:=dJ fun(u:GrW wr)=>xo (w:=u.val) (a:=y) (b:=y) (q u.val (l.out.trans u.gr)) (m u.val (l.out.trans u.gr)) (vV _) (C.out y (vz p)) (C.out y (vz p));rw[show decide (Rn.cmpOut y y=0)=true by simp[Rn.isCmp_out.zero]]at CS;unfold gS at CS;have I:=fun u:GrW wr=>(g u.val (l.out.trans u.gr)).1;have J:=fun u:GrW wr=>(g u.val (l.out.trans u.gr)).2.1;have K:=fun u:GrW wr=>(g u.val (l.out.trans u.gr)).2.2.1;have L:=fun u:GrW wr=>(g u.val (l.out.trans u.gr)).2.2.2.1;have M:=fun u:GrW wr=>(g u.val (l.out.trans u.gr)).2.2.2.2;have N:=fun u:GrW wr=>(d u.val (l.out.trans u.gr)).1;have O:=fun u:GrW wr=>(d u.val (l.out.trans u.gr)).2.1;have Q:=fun u:GrW wr=>(d u.val (l.out.trans u.gr)).2.2.1;have R:=fun u:GrW wr=>(d u.val (l.out.trans u.gr)).2.2.2.1;have S:=fun u:GrW wr=>(d u.val (l.out.trans u.gr)).2.2.2.2;clear g q d m p;go_wp2;refine dc (by kernel_rfl) (by kernel_rfl) ?_;repeat (go_big_quiet_step ((rename_i u;go_at_call 18;exact di u (CS.out u))))
   refine wpQuiet_nil ?_;intro w9 t;obtain⟨X,rfl⟩:=t;have F:=dJ (l.out.trans X.gr);clear I J K L M N O Q R S;go_wp2;exact⟨⟨k+1,by omega,by go_num,F⟩,by simp[intOf];omega⟩
  ·obtain rfl:k=n:=by omega
   go_wp2;go_ret;exact⟨rfl,l.out⟩
theorem xY {f:Fn}{i:Rn.Inp}(h:(wU f i).length≠1):xh f i=false:=by
 unfold xh;split
 ·rename_i o e;rw[e]at h;exact absurd rfl h
 ·rfl
theorem xq {r:List Int}(h:∀b∈r,-1<=b):r.contains (-1)=!(r.all fun b=>decide (0<=b)):=by
 induction r with
 | nil=>rfl
 | cons a r ih =>
  have j:=h a (by simp);rw[List.contains_cons,List.all_cons,ih fun b g=>h b (by simp[g])];by_cases d:0<=a
  ·have:((-1:Int) == a)=false:=by simp;omega
   rw[this];simp[d]
  ·have:((-1:Int) == a)=true:=by simp;omega
   rw[this];simp[d]
abbrev yl (w:World):={x:Value × List Int // IntsAt w.heap.size w x.1 x.2}
theorem xX (w:World):IntsAt w.heap.size w (.slice none 0 0) []:=⟨none,0,rfl,vV _,vU _,fun h=>absurd h (by simp)⟩
instance (w:World):Inhabited (yl w):=⟨⟨(.slice none 0 0,[]),xX w⟩⟩
theorem xR {w:World}:∀(t:List (List Int))(C:Nat->Value->Prop),(∀(j:Nat)(l:List Int),t[j]?=some l->∃u,C j u/\IntsAt w.heap.size w u l)->∃zs:List (yl w),zs.map (fun x=>x.1.2)=t/\∀j,j<zs.length->C j (zs[j]!).1.1
 | [],C,h=>⟨[],rfl,fun j d=>absurd d (Nat.not_lt_zero _)⟩
 | l::t,C,h=>by
  obtain⟨u,g,m⟩:=h 0 l rfl
  obtain⟨zs,e,p⟩:=xR t (fun j=>C (j+1)) fun j l hl=>h (j+1) l hl;refine⟨⟨(u,l),m⟩::zs,by rw[List.map_cons,e],fun j d=>?_⟩
  cases j with
  | zero=>exact g
  | succ j=>exact p j (by simpa using d)
theorem xS {w W:World}(x:yl w)(g:Below w.heap.size w W):Calls prog 55 #[x.1.1] W (RT (.bool (x.1.2.contains (-1))) W):=by
 obtain⟨⟨v,l⟩,h⟩:=x;dsimp only at *;have q:IntsAt w.heap.size W v l:=IntsAt.below h g;clear h;obtain⟨A,c,rfl,t,u,m⟩:=q;rcases Nat.eq_zero_or_pos l.length with d|d
 ·obtain rfl:l=[]:=wu d;have C:=dJ (Tryz.slices_Contains_int_empty A c (-1) W);clear m
  go_enter func55, ntmps55
  go_wp2_with (go_at_call 56;refine C.out.mono ?_;rintro e r ⟨rfl,rfl⟩);go_ret;exact⟨rfl,rfl⟩
 ·obtain⟨b,o,rfl,y,p⟩:=m d;have C:=dJ (Tryz.slices_Contains_int b o l.length c l (-1) W (vV _) (by omega) (fun j hj=>p j _ (by rw[vA,vu hj];rfl)));rw[wg]at C;generalize l.contains (-1)=R at *;clear m p
  go_enter func55, ntmps55
  go_wp2_with (go_at_call 56;refine C.out.mono ?_;rintro e r ⟨rfl,rfl⟩);go_ret;exact⟨rfl,rfl⟩
theorem xF {w:World}{v:Value}{t:List (List Int)}(h:TabAt w.heap.size w v t)(ht:∀r∈t,∀b∈r,-1<=b) :
  Calls prog 54 #[v,.func (.func 55) #[] #[]] w (RG (.bool (!(t.all fun r=>r.all fun b=>decide (0<=b)))) w):=by
 have d:(t.any fun r=>r.contains (-1))=!(t.all fun r=>r.all fun b=>decide (0<=b)):=by
  clear h
  induction t with
  | nil=>rfl
  | cons r t ih=>rw[List.any_cons,List.all_cons,ih fun q B=>ht q (by simp[B]),xq (ht r (by simp)),Bool.not_and]
 rw[<-d];obtain⟨A,c,rfl,E,F,y⟩:=h;rcases Nat.eq_zero_or_pos t.length with m|m
 ·obtain rfl:t=[]:=wu m;exact(yv (α:=Nat) A c _ w).mono fun e w' ⟨h,p⟩=>⟨h,by rw[p];exact wL _⟩
 ·obtain⟨b,o,rfl,G,z⟩:=y m;obtain⟨zs,e,C⟩:=xR t (fun j u=>w.cell? ⟨b,o+j,none⟩=some u) fun j l hl=>by obtain⟨u,q1,q2⟩:=z j l hl;exact⟨u,q1,q2⟩
  have hl:zs.length=t.length:=by rw[<-e,vS]
  refine(yu (fun x:yl w=>x.1.1) (fun x=>x.1.2.contains (-1)) 55 #[] (fun args w=>by kernel_rfl) b o t.length c zs w (fun W x g=>(xS x g).mono fun e w' h=>⟨h.1,0,by rw[h.2];rfl⟩) (by omega) (by omega) C).mono ?_;rintro D w' ⟨rfl,q,rfl⟩;refine⟨?_,(wL w).drewN q⟩;rw[<-hl,wg,<-e,List.any_map];rfl
theorem xv {f:Fn}{i:Rn.Inp}(him:Rn.Im f)(ha:∀a∈i.args,0<=a):Hid (∀o∈wU f i,OB o)/\Hid ((wU f i).length=1->xA f i=0)/\Hid ((wU f i).length≠1->xh f i=false)/\Hid (∀o,wU f i=[o]->xh f i=xZ o)/\(wU f i).length<=256/\Hid (xA f i≠0->(wU f i).length=0):=by
 refine⟨xC him ha,fun h=>?_,xY,fun o h=>?_,xr,fun h=>?_⟩
 ·by_cases d:xA f i=0
  ·exact d
  ·rw[xB d]at h;cases h
 ·unfold xh;rw[h]
 ·rw[xB h];rfl
theorem xH {w:World}{f:Fn}{vf:Value}(hfn:FnAt w.heap.size w vf f)(hnice:jF f)(him:Rn.Im f){i:Rn.Inp}{va vm:Value}(ha:U32At w.heap.size w va i.args)(hm:TabAt w.heap.size w vm i.mem)(hnn:∀a∈i.args,0<=a) :
  Calls prog 25 #[vf,.agg #[va,vm]] w (RG (.tuple #[.bool (xh f i),.int .i64 (xA f i)]) w):=by
 have Z:Hid (∀m,Gr w m->Calls prog 20 #[vf,.agg #[va,vm]] m fun e w'=>(∃A c D u,e=.returned (.tuple #[.slice A (wU f i).length c,.int .i64 (xA f i)])/\OutsAt D (m.heap.size+2) w' (.slice A (wU f i).length c) (wU f i) u)/\Gr m w'):=fun m g =>
  (sN (hfn.gr g) hnice him (SlAt.mono (U32At.below ha g) g.size) (hm.gr g) hnn).mono fun e w' ⟨h,g'⟩=>⟨h.row,g'⟩
 obtain⟨I,H,K,J,N,L⟩:=xv (f:=f) (i:=i) him hnn;obtain⟨B,hO⟩:=xJ (wU f i);obtain⟨E,hE⟩:=xJ (xA f i);obtain⟨S,hS⟩:=xJ (xh f i);rw[hO,hE]at Z H L;rw[hO]at I N;rw[hO,hS]at K J;rw[hE,hS];obtain⟨vp,vs,vb,rfl,O,hs,hb⟩:=hfn;obtain⟨Ap,cp,rfl,-⟩:=O;obtain⟨As,cs,rfl,-⟩:=hs;obtain⟨Ab,cb,rfl,-⟩:=hb;obtain⟨Aa,ca,rfl,-⟩:=id ha;obtain⟨Am,cm,rfl,-⟩:=id hm;obtain⟨W,hW⟩:=xJ ((w.alloc (.cells #[.slice Ap f.params.length cp,.int .i64 f.ret,.slice As f.slots.length cs,.slice Ab f.blocks.length cb] 25)).alloc (.cells #[.slice Aa i.args.length ca,.slice Am i.mem.length cm] 29));obtain⟨g0,-,M⟩:=gJ hW;obtain⟨k0,k1,k2,k3,k4,k5⟩:=M W (wL _);have F:=dJ g0;clear hnice him ha hm hnn hO hE hS g0 M;by_cases hn:B.length=1
 ·obtain⟨o,rfl⟩:∃o,B=[o]:=List.length_eq_one_iff.1 hn;have ad:=H.out hn;subst ad;have q:=J.out o rfl;have ab:=I.out o (by simp);clear H K J I N hn L;have G:Hid (∀m,Gr w m->Calls prog 20 #[.agg #[.slice Ap f.params.length cp,.int .i64 f.ret,.slice As f.slots.length cs,.slice Ab f.blocks.length cb],.agg #[.slice Aa i.args.length ca,.slice Am i.mem.length cm]] m fun e w'=>(∃A c D u,e=.returned (.tuple #[.slice A 1 c,.int .i64 0])/\OutsAt D (m.heap.size+2) w' (.slice A 1 c) [o] u)/\Gr m w'):=Z.out;clear Z;unfold xZ at q;by_cases hk:o.kind=0
  ·by_cases O:o.ret.p=true
   ·obtain rfl:S=false:=by rw[q,hk,O];rfl
    clear q
    go_enter func25, ntmps25
    go_wp2_with (go_at_call 20;refine(G.out _ F.out).mono ?_;rintro e m ⟨⟨A,c,D,u,rfl,C⟩,z⟩;have t:=dJ (F.out.trans z);obtain⟨b,Ay,cy,rfl,hc,-,d,l⟩:=C.cells rfl (j:=0) (y:=o) rfl;obtain⟨Q,T,U,X,Y⟩:=d m (wL _);simp only[Nat.zero_mul,Nat.zero_add]at Q T U X Y;have HT:=dJ (l m (wL _));clear C z d l);go_ret2;exact⟨rfl,t.out⟩
   ·have ae:o.ret.p=false:=by simpa using O
    have CN:=dJ fun(m:World)(v:Value)(h:TabAt m.heap.size m v o.mem)=>xF h ab.2;rw[hk,ae]at q;obtain⟨R,hR⟩:∃R,(o.mem.all fun r=>r.all fun b=>decide (0<=b))=R:=⟨_,rfl⟩;rw[hR]at CN q;obtain rfl:S=R:=by rw[q];rfl
    clear q O hR;cases S
    all_goals
     go_enter func25, ntmps25
     go_wp2_with (first|(go_at_call 20;refine(G.out _ F.out).mono ?_;rintro e m ⟨⟨A,c,D,u,rfl,C⟩,z⟩;have t:=dJ (F.out.trans z);obtain⟨b,Ay,cy,rfl,hc,-,d,l⟩:=C.cells rfl (j:=0) (y:=o) rfl;obtain⟨Q,T,U,X,Y⟩:=d m (wL _);simp only[Nat.zero_mul,Nat.zero_add]at Q T U X Y;have HT:=dJ (l m (wL _));clear C z d l)|(go_at_call 54;refine(CN.out _ _ HT.out).mono ?_;rintro e w2 ⟨rfl,g2⟩;have aa:=dJ (t.out.trans g2);clear g2))
     go_ret2;exact⟨rfl,aa.out⟩
  ·obtain rfl:S=false:=by rw[q];simp[hk]
   clear q
   go_enter func25, ntmps25
   go_wp2_with (go_at_call 20;refine(G.out _ F.out).mono ?_;rintro e m ⟨⟨A,c,D,u,rfl,C⟩,z⟩;have t:=dJ (F.out.trans z);obtain⟨b,Ay,cy,rfl,hc,-,d,l⟩:=C.cells rfl (j:=0) (y:=o) rfl;obtain⟨Q,T,U,X,Y⟩:=d m (wL _);simp only[Nat.zero_mul,Nat.zero_add]at Q T U X Y;have HT:=dJ (l m (wL _));clear C z d l);go_ret2;exact⟨rfl,t.out⟩
 ·have ac:=K.out hn;subst ac;have af:¬(B.length:Int)=1:=by omega
  rcases Decidable.em (E=0) with he|he
  all_goals
   go_enter func25, ntmps25
   go_wp2_with (go_at_call 20;refine(Z.out _ F.out).mono ?_;rintro e m ⟨⟨A,c,D,u,rfl,C⟩,z⟩;have t:=dJ (F.out.trans z);clear C z);go_ret2;exact⟨by first|rfl|(rw[he];rfl),t.out⟩
theorem xw {w:World}{f:Fn}{vf:Value}(hfn:FnAt w.heap.size w vf f)(hnice:jF f)(him:Rn.Im f){i:Rn.Inp}{va vm:Value}(ha:U32At w.heap.size w va i.args)(hm:TabAt w.heap.size w vm i.mem)(hnn:∀a∈i.args,0<=a/\a<4294967296) :
  Calls prog 26 #[vf,.agg #[va,vm]] w (RG (.tuple #[.bool (xh f i),.int .i64 (xA f i)]) w):=by
 have CA:Hid (∀z,Gr w z->Calls prog 24 #[vf,.agg #[va,vm]] z fun e w'=>(∃A c D F,e=.returned (.tuple #[.slice A (wU f i).length c,.int .i64 (xA f i)])/\OutsAt D (z.heap.size+2) w' (.slice A (wU f i).length c) (wU f i) F)/\Gr z w'):=fun z g =>
  (xz (hfn.gr g) hnice him (SlAt.mono (U32At.below ha g) g.size) (hm.gr g) hnn).mono fun e w' ⟨h,g'⟩=>⟨h.row,g'⟩
 obtain⟨T,Q,X,U,ad,Z⟩:=xv (f:=f) (i:=i) him fun a h=>(hnn a h).1;obtain⟨H,hO⟩:=xJ (wU f i);obtain⟨E,hE⟩:=xJ (xA f i);obtain⟨S,hS⟩:=xJ (xh f i);rw[hO,hE]at CA Q Z;rw[hO]at T ad;rw[hO,hS]at X U;rw[hE,hS];obtain⟨vp,vs,vb,rfl,hp,hs,hb⟩:=hfn;obtain⟨Ap,cp,rfl,-⟩:=hp;obtain⟨As,cs,rfl,-⟩:=hs;obtain⟨Ab,cb,rfl,-⟩:=hb;obtain⟨Aa,ca,rfl,-⟩:=id ha;obtain⟨Am,cm,rfl,-⟩:=id hm;obtain⟨W,hW⟩:=xJ ((w.alloc (.cells #[.slice Ap f.params.length cp,.int .i64 f.ret,.slice As f.slots.length cs,.slice Ab f.blocks.length cb] 25)).alloc (.cells #[.slice Aa i.args.length ca,.slice Am i.mem.length cm] 29));obtain⟨g0,-,ac⟩:=gJ hW;obtain⟨k0,k1,k2,k3,k4,k5⟩:=ac W (wL _);have L:=dJ g0;clear hnice him ha hm hnn hO hE hS g0 ac;by_cases hn:H.length=1
 ·obtain⟨o,rfl⟩:∃o,H=[o]:=List.length_eq_one_iff.1 hn;have ai:=Q.out hn;subst ai;have C:=U.out o rfl;have ap:=T.out o (by simp);clear Q X U T ad hn Z;have O:Hid (∀z,Gr w z->Calls prog 24 #[.agg #[.slice Ap f.params.length cp,.int .i64 f.ret,.slice As f.slots.length cs,.slice Ab f.blocks.length cb],.agg #[.slice Aa i.args.length ca,.slice Am i.mem.length cm]] z fun e w'=>(∃A c D F,e=.returned (.tuple #[.slice A 1 c,.int .i64 0])/\OutsAt D (z.heap.size+2) w' (.slice A 1 c) [o] F)/\Gr z w'):=CA.out;clear CA;unfold xZ at C;by_cases hk:o.kind=0
  ·by_cases hp:o.ret.p=true
   ·obtain rfl:S=false:=by rw[C,hk,hp];rfl
    clear C
    go_enter func26, ntmps26
    go_wp2_with (go_at_call 24;refine(O.out _ L.out).mono ?_;rintro e z ⟨⟨A,c,D,F,rfl,I⟩,G⟩;have B:=dJ (L.out.trans G);obtain⟨b,Ay,cy,rfl,hc,-,d,t⟩:=I.cells rfl (j:=0) (y:=o) rfl;obtain⟨y0,y1,y2,y3,y4⟩:=d z (wL _);simp only[Nat.zero_mul,Nat.zero_add]at y0 y1 y2 y3 y4;have HT:=dJ (t z (wL _));clear I G d t);go_ret2;exact⟨rfl,B.out⟩
   ·have ak:o.ret.p=false:=by simpa using hp
    rw[hk,ak]at C;have HR:Hid (S=o.mem.all fun r=>r.all fun b=>decide (0<=b)):=by show _=_;rw[C];rfl
    clear C hp
    go_enter func26, ntmps26
    go_wp2_with (go_at_call 24;refine(O.out _ L.out).mono ?_;rintro e z ⟨⟨A,c,D,F,rfl,I⟩,G⟩;have B:=dJ (L.out.trans G);obtain⟨b,Ay,cy,rfl,hc,-,d,t⟩:=I.cells rfl (j:=0) (y:=o) rfl;obtain⟨y0,y1,y2,y3,y4⟩:=d z (wL _);simp only[Nat.zero_mul,Nat.zero_add]at y0 y1 y2 y3 y4;have HT:=dJ (t z (wL _));clear I G d t)
    have ag:Hid (∀(s:Nat)(l:List Int),o.mem[s]?=some l->∃b2 o2 Y cl,Ay=some ⟨b2,o2,none⟩/\o.mem.length<=cy/\z.cell? ⟨b2,o2+s,none⟩=some (.slice Y l.length cl)/\l.length<=cl/\l.length<=17592186044416/\∀(k:Nat)(x:Int),l[k]?=some x->∃b3 o3,Y=some ⟨b3,o3,none⟩/\z.cell? ⟨b3,o3+k,none⟩=some (.int .i64 x)):=fun s l hl=>by obtain⟨A,c,e,t1,-,h3⟩:=HT.out;injection e with e e1 e2;subst e;subst e2;obtain⟨b2,o2,rfl,-,h4⟩:=h3 (by have:=(yq.1 hl).1;omega);obtain⟨u,hu,Y,cl,rfl,q1,q2,q3⟩:=h4 s l hl;refine⟨b2,o2,Y,cl,rfl,t1,hu,q1,q2,fun k x J=>?_⟩;obtain⟨b3,o3,rfl,-,h5⟩:=q3 (by have:=(yq.1 J).1;omega);exact⟨b3,o3,rfl,h5 k x J⟩
    have an:o.mem.length<=17592186044416:=by obtain⟨-,-,-,-,q,-⟩:=HT.out;exact q
    go_loop [8] (fun s8=>∃s:Nat,s<=o.mem.length/\s8=.int .i64 (s:Int)/\Hid (∀(j:Nat)(l:List Int),j<s->o.mem[j]?=some l->(l.all fun b=>decide (0<=b))=true)) (fun s8=>o.mem.length-(intOf s8).toNat)
    case atStart=>exact⟨0,vU _,rfl,fun j l h=>absurd h (Nat.not_lt_zero _)⟩
    case round =>
     obtain⟨s,hs,rfl,M⟩:=hrel;by_cases ae:s<o.mem.length
     ·obtain⟨l,hl⟩:∃l,o.mem[s]?=some l:=⟨_,vu ae⟩;obtain⟨b2,o2,Y,cl,rfl,au,ao,aq,al,N⟩:=ag.out s l hl;have HL:=dJ hl;have ab:=dJ N;have af:Hid (s<o.mem.length):=ae;clear hl N;go_wp2
      go_loop [9] (fun s9=>∃k:Nat,k<=l.length/\s9=.int .i64 (k:Int)/\Hid (∀(j:Nat)(x:Int),j<k->l[j]?=some x->0<=x)) (fun s9=>l.length-(intOf s9).toNat)
      case atStart=>exact⟨0,vU _,rfl,fun j l h=>absurd h (Nat.not_lt_zero _)⟩
      case round =>
       obtain⟨k,av,rfl,K⟩:=hrel;have am:=af.out;by_cases aj:k<l.length
       ·obtain⟨x,J⟩:∃x,l[k]?=some x:=⟨_,vu aj⟩;obtain⟨b3,o3,rfl,ar⟩:=ab.out k x J;by_cases ax:x<0
        ·obtain rfl:S=false:=by
          rw[HR.out];refine Bool.eq_false_iff.2 fun h=>?_;have h1:=vT.1 h l (vz HL.out);have h2:=vT.1 h1 x (vz J);simp at h2;omega
         clear J;go_wp2;go_ret2;exact⟨rfl,B.out⟩
        ·have aa:Hid (∀(j:Nat)(y:Int),j<k+1->l[j]?=some y->0<=y):=fun j y hj hy=>by
          rcases wh j k with q|q
          ·exact K.out j y q hy
          ·obtain rfl:j=k:=by omega
           rw[J]at hy;injection hy with hy;omega
         clear J K;go_wp2;exact⟨⟨k+1,by omega,by go_num,aa⟩,by simp[intOf];omega⟩
       ·obtain rfl:k=l.length:=by omega
        have R:Hid (∀(j:Nat)(m:List Int),j<s+1->o.mem[j]?=some m->(m.all fun b=>decide (0<=b))=true):=fun j m hj hm=>by
         rcases wh j s with q|q
         ·exact M.out j m q hm
         ·obtain rfl:j=s:=by omega
          rw[HL.out]at hm;injection hm with hm;subst hm;refine vT.2 fun x J=>?_;obtain⟨q,hq⟩:=List.getElem?_of_mem J;have:=K.out q x (yq.1 hq).1 hq;simpa using this
        clear K;go_wp2;exact⟨⟨s+1,by omega,by go_num,R⟩,by simp[intOf];omega⟩
     ·obtain rfl:s=o.mem.length:=by omega
      obtain rfl:S=true:=by rw[HR.out];refine vT.2 fun r hr=>?_;obtain⟨q,hq⟩:=List.getElem?_of_mem hr;exact M.out q r (yq.1 hq).1 hq
      go_wp2;go_ret2;exact⟨rfl,B.out⟩
  ·obtain rfl:S=false:=by rw[C];simp[hk]
   clear C
   go_enter func26, ntmps26
   go_wp2_with (go_at_call 24;refine(O.out _ L.out).mono ?_;rintro e z ⟨⟨A,c,D,F,rfl,I⟩,G⟩;have B:=dJ (L.out.trans G);obtain⟨b,Ay,cy,rfl,hc,-,d,t⟩:=I.cells rfl (j:=0) (y:=o) rfl;obtain⟨y0,y1,y2,y3,y4⟩:=d z (wL _);simp only[Nat.zero_mul,Nat.zero_add]at y0 y1 y2 y3 y4;have HT:=dJ (t z (wL _));clear I G d t);go_ret2;exact⟨rfl,B.out⟩
 ·have ah:=X.out hn;subst ah;have aw:¬(H.length:Int)=1:=by omega
  rcases Decidable.em (E=0) with he|he
  all_goals
   go_enter func26, ntmps26
   go_wp2_with (go_at_call 24;refine(CA.out _ L.out).mono ?_;rintro e z ⟨⟨A,c,D,F,rfl,I⟩,G⟩;have B:=dJ (L.out.trans G);clear I G);go_ret2;exact⟨by first|rfl|(rw[he];rfl),B.out⟩
theorem sF:jF Rn.kFn where
 blocks:=by decide
 block:=by intro l hl;simp[Rn.kFn]at hl;subst hl;decide
 wf:=by intro l hl x d;simp[Rn.kFn]at hl;subst hl;simp at d;rcases d with rfl|rfl|rfl<;>(unfold WfI;refine⟨by decide,?_,by decide,by decide⟩;intro z g;simp[Rn.kAdd,Rn.kFreeze,Rn.kRet]at g;omega)
 flags:=by intro l hl x d;simp[Rn.kFn]at hl;subst hl;simp at d;rcases d with rfl|rfl|rfl<;>decide
theorem ut:Rn.Im Rn.kFn:=by intro l hl x d;simp[Rn.kFn]at hl;subst hl;simp at d;rcases d with rfl|rfl|rfl<;>decide
def ue (w:World):Value:=.agg #[.slice (some ⟨w.heap.size,0,none⟩) 2 2,.int .i64 8,.slice none 0 0,.slice (some ⟨w.heap.size+1+1+1+1+1,0,none⟩) 1 1]
theorem uQ (w:World){W:World}(hW:(((((((w.alloc (.cells #[.int .i64 8,.int .i64 8] 3)).alloc (.cells #[.int .i64 0,.int .i64 1] 3)).alloc (.cells #[.int .i64 2] 3)).alloc (.cells #[.int .i64 3] 3)).alloc (.cells #[.int .i64 1,.int .i64 8,.int .i64 2,.slice (some ⟨w.heap.size+1,0,none⟩) 2 2,.int .u32 0,.slice none 0 0,.int .i64 21,.int .i64 8,.int .i64 0,.slice (some ⟨w.heap.size+1+1,0,none⟩) 1 1,.int .u32 0,.slice none 0 0,.int .i64 31,.int .i64 0,.int .i64 0,.slice (some ⟨w.heap.size+1+1+1,0,none⟩) 1 1,.int .u32 0,.slice none 0 0] 67)).alloc (.cells #[.slice (some ⟨w.heap.size+1+1+1+1,0,none⟩) 3 3] 68)).alloc (.cells #[.slice (some ⟨w.heap.size,0,none⟩) 2 2,.int .i64 8,.slice none 0 0,.slice (some ⟨w.heap.size+1+1+1+1+1,0,none⟩) 1 1] 25))=W):FnAt W.heap.size W (ue w) Rn.kFn/\Gr w W/\W.heap.size=w.heap.size+7/\∀o,W.cell? ⟨w.heap.size+1+1+1+1+1+1,o,none⟩=(#[.slice (some ⟨w.heap.size,0,none⟩) 2 2,.int .i64 8,.slice none 0 0,.slice (some ⟨w.heap.size+1+1+1+1+1,0,none⟩) 1 1]:Array Value)[o]?:=by
 have l:Gr w W:=by rw[<-hW];exact((((((((wL _).alloc _).alloc _).alloc _).alloc _).alloc _).alloc _).alloc _)
 have m:W.heap.size=w.heap.size+7:=by rw[<-hW];simp
 have G:Gr (w.alloc (.cells #[.int .i64 8,.int .i64 8] 3)) W:=by rw[<-hW];exact(((((((wL _).alloc _).alloc _).alloc _).alloc _).alloc _).alloc _)
 have H:Gr ((w.alloc (.cells #[.int .i64 8,.int .i64 8] 3)).alloc (.cells #[.int .i64 0,.int .i64 1] 3)) W:=by rw[<-hW];exact((((((wL _).alloc _).alloc _).alloc _).alloc _).alloc _)
 have I:Gr (((w.alloc (.cells #[.int .i64 8,.int .i64 8] 3)).alloc (.cells #[.int .i64 0,.int .i64 1] 3)).alloc (.cells #[.int .i64 2] 3)) W:=by rw[<-hW];exact(((((wL _).alloc _).alloc _).alloc _).alloc _)
 have J:Gr ((((w.alloc (.cells #[.int .i64 8,.int .i64 8] 3)).alloc (.cells #[.int .i64 0,.int .i64 1] 3)).alloc (.cells #[.int .i64 2] 3)).alloc (.cells #[.int .i64 3] 3)) W:=by rw[<-hW];exact((((wL _).alloc _).alloc _).alloc _)
 have K:Gr (((((w.alloc (.cells #[.int .i64 8,.int .i64 8] 3)).alloc (.cells #[.int .i64 0,.int .i64 1] 3)).alloc (.cells #[.int .i64 2] 3)).alloc (.cells #[.int .i64 3] 3)).alloc (.cells #[.int .i64 1,.int .i64 8,.int .i64 2,.slice (some ⟨w.heap.size+1,0,none⟩) 2 2,.int .u32 0,.slice none 0 0,.int .i64 21,.int .i64 8,.int .i64 0,.slice (some ⟨w.heap.size+1+1,0,none⟩) 1 1,.int .u32 0,.slice none 0 0,.int .i64 31,.int .i64 0,.int .i64 0,.slice (some ⟨w.heap.size+1+1+1,0,none⟩) 1 1,.int .u32 0,.slice none 0 0] 67)) W:=by rw[<-hW];exact(((wL _).alloc _).alloc _)
 have L:Gr ((((((w.alloc (.cells #[.int .i64 8,.int .i64 8] 3)).alloc (.cells #[.int .i64 0,.int .i64 1] 3)).alloc (.cells #[.int .i64 2] 3)).alloc (.cells #[.int .i64 3] 3)).alloc (.cells #[.int .i64 1,.int .i64 8,.int .i64 2,.slice (some ⟨w.heap.size+1,0,none⟩) 2 2,.int .u32 0,.slice none 0 0,.int .i64 21,.int .i64 8,.int .i64 0,.slice (some ⟨w.heap.size+1+1,0,none⟩) 1 1,.int .u32 0,.slice none 0 0,.int .i64 31,.int .i64 0,.int .i64 0,.slice (some ⟨w.heap.size+1+1+1,0,none⟩) 1 1,.int .u32 0,.slice none 0 0] 67)).alloc (.cells #[.slice (some ⟨w.heap.size+1+1+1+1,0,none⟩) 3 3] 68)) W:=by rw[<-hW];exact((wL _).alloc _)
 have M:Gr (((((((w.alloc (.cells #[.int .i64 8,.int .i64 8] 3)).alloc (.cells #[.int .i64 0,.int .i64 1] 3)).alloc (.cells #[.int .i64 2] 3)).alloc (.cells #[.int .i64 3] 3)).alloc (.cells #[.int .i64 1,.int .i64 8,.int .i64 2,.slice (some ⟨w.heap.size+1,0,none⟩) 2 2,.int .u32 0,.slice none 0 0,.int .i64 21,.int .i64 8,.int .i64 0,.slice (some ⟨w.heap.size+1+1,0,none⟩) 1 1,.int .u32 0,.slice none 0 0,.int .i64 31,.int .i64 0,.int .i64 0,.slice (some ⟨w.heap.size+1+1+1,0,none⟩) 1 1,.int .u32 0,.slice none 0 0] 67)).alloc (.cells #[.slice (some ⟨w.heap.size+1+1+1+1,0,none⟩) 3 3] 68)).alloc (.cells #[.slice (some ⟨w.heap.size,0,none⟩) 2 2,.int .i64 8,.slice none 0 0,.slice (some ⟨w.heap.size+1+1+1+1+1,0,none⟩) 1 1] 25)) W:=by rw[hW];exact wL _
 have p:∀o,W.cell? ⟨w.heap.size,o,none⟩=(#[.int .i64 8,.int .i64 8]:Array Value)[o]?:=fun o=>nx _ _ o G (by simp);have q:∀o,W.cell? ⟨w.heap.size+1,o,none⟩=(#[.int .i64 0,.int .i64 1]:Array Value)[o]?:=fun o=>nx _ _ o H (by simp);have r:∀o,W.cell? ⟨w.heap.size+1+1,o,none⟩=(#[.int .i64 2]:Array Value)[o]?:=fun o=>nx _ _ o I (by simp);have t:∀o,W.cell? ⟨w.heap.size+1+1+1,o,none⟩=(#[.int .i64 3]:Array Value)[o]?:=fun o=>nx _ _ o J (by simp);have d:∀o,W.cell? ⟨w.heap.size+1+1+1+1,o,none⟩=(#[.int .i64 1,.int .i64 8,.int .i64 2,.slice (some ⟨w.heap.size+1,0,none⟩) 2 2,.int .u32 0,.slice none 0 0,.int .i64 21,.int .i64 8,.int .i64 0,.slice (some ⟨w.heap.size+1+1,0,none⟩) 1 1,.int .u32 0,.slice none 0 0,.int .i64 31,.int .i64 0,.int .i64 0,.slice (some ⟨w.heap.size+1+1+1,0,none⟩) 1 1,.int .u32 0,.slice none 0 0]:Array Value)[o]?:=fun o=>nx _ _ o K (by simp);have u:∀o,W.cell? ⟨w.heap.size+1+1+1+1+1,o,none⟩=(#[.slice (some ⟨w.heap.size+1+1+1+1,0,none⟩) 3 3]:Array Value)[o]?:=fun o=>nx _ _ o L (by simp);have z:∀o,W.cell? ⟨w.heap.size+1+1+1+1+1+1,o,none⟩=(#[.slice (some ⟨w.heap.size,0,none⟩) 2 2,.int .i64 8,.slice none 0 0,.slice (some ⟨w.heap.size+1+1+1+1+1,0,none⟩) 1 1]:Array Value)[o]?:=fun o=>nx _ _ o M (by simp);have g:IntsAt W.heap.size W (.slice none 0 0) []:=⟨none,0,rfl,vV _,by simp,fun h=>by simp at h⟩
 have A:IntsAt W.heap.size W (.slice (some ⟨w.heap.size,0,none⟩) 2 2) [8,8]:=by
  refine⟨_,_,rfl,vV _,by simp,fun _=>⟨_,_,rfl,by omega,fun j y hy=>?_⟩⟩;rw[Nat.zero_add,p]
  match j,hy with
  | 0,hy=>simp at hy;subst hy;rfl
  | 1,hy=>simp at hy;subst hy;rfl
 have B:IntsAt W.heap.size W (.slice (some ⟨w.heap.size+1,0,none⟩) 2 2) [0,1]:=by
  refine⟨_,_,rfl,vV _,by simp,fun _=>⟨_,_,rfl,by omega,fun j y hy=>?_⟩⟩;rw[Nat.zero_add,q]
  match j,hy with
  | 0,hy=>simp at hy;subst hy;rfl
  | 1,hy=>simp at hy;subst hy;rfl
 have C:IntsAt W.heap.size W (.slice (some ⟨w.heap.size+1+1,0,none⟩) 1 1) [2]:=by
  refine⟨_,_,rfl,vV _,by simp,fun _=>⟨_,_,rfl,by omega,fun j y hy=>?_⟩⟩;rw[Nat.zero_add,r]
  match j,hy with
  | 0,hy=>simp at hy;subst hy;rfl
 have D:IntsAt W.heap.size W (.slice (some ⟨w.heap.size+1+1+1,0,none⟩) 1 1) [3]:=by
  refine⟨_,_,rfl,vV _,by simp,fun _=>⟨_,_,rfl,by omega,fun j y hy=>?_⟩⟩;rw[Nat.zero_add,t]
  match j,hy with
  | 0,hy=>simp at hy;subst hy;rfl
 have E:BlkAt W.heap.size W (.slice (some ⟨w.heap.size+1+1+1+1,0,none⟩) 3 3) [Rn.kAdd,Rn.kFreeze,Rn.kRet]:=by
  refine⟨_,_,rfl,vV _,by simp,fun _=>⟨_,_,rfl,by omega,fun j y hy=>?_⟩⟩
  match j,hy with
  | 0,hy=>simp at hy;subst hy;exact⟨_,_,d 0,d 1,d 2,d 3,d 4,d 5,B,g⟩
  | 1,hy=>simp at hy;subst hy;exact⟨_,_,d 6,d 7,d 8,d 9,d 10,d 11,C,g⟩
  | 2,hy=>simp at hy;subst hy;exact⟨_,_,d 12,d 13,d 14,d 15,d 16,d 17,D,g⟩
 have F:BlksAt W.heap.size W (.slice (some ⟨w.heap.size+1+1+1+1+1,0,none⟩) 1 1) [[Rn.kAdd,Rn.kFreeze,Rn.kRet]]:=by
  refine⟨_,_,rfl,vV _,by simp,fun _=>⟨_,_,rfl,by omega,fun j y hy=>?_⟩⟩
  match j,hy with
  | 0,hy=>simp at hy;subst hy;exact⟨_,u 0,E⟩
 exact⟨⟨_,_,_,rfl,A,g,F⟩,l,m,z⟩
theorem tc {w W:World}{b:Nat}{t:TypeId}{zs:List Int}(h:W.heap[b]?=some (.cells (zs.map (Value.int .u32)).toArray t (0,0)))(hn:zs.length<=1000):U32At W.heap.size W (.slice (some ⟨b,0,none⟩) zs.length zs.length) zs :=
 ⟨_,_,rfl,vV _,by omega,fun _=>⟨_,_,rfl,cY h,fun j z hz=>by rw[vX _ _ _ _ _ _ h,Nat.zero_add];simp[hz]⟩⟩
theorem jt (w:World):Calls prog 12 #[] w (RG (.bool true) w):=by
 obtain⟨W,hW⟩:=xJ ((((((((w.alloc (.cells #[.int .i64 8,.int .i64 8] 3)).alloc (.cells #[.int .i64 0,.int .i64 1] 3)).alloc (.cells #[.int .i64 2] 3)).alloc (.cells #[.int .i64 3] 3)).alloc (.cells #[.int .i64 1,.int .i64 8,.int .i64 2,.slice (some ⟨w.heap.size+1,0,none⟩) 2 2,.int .u32 0,.slice none 0 0,.int .i64 21,.int .i64 8,.int .i64 0,.slice (some ⟨w.heap.size+1+1,0,none⟩) 1 1,.int .u32 0,.slice none 0 0,.int .i64 31,.int .i64 0,.int .i64 0,.slice (some ⟨w.heap.size+1+1+1,0,none⟩) 1 1,.int .u32 0,.slice none 0 0] 67)).alloc (.cells #[.slice (some ⟨w.heap.size+1+1+1+1,0,none⟩) 3 3] 68)).alloc (.cells #[.slice (some ⟨w.heap.size,0,none⟩) 2 2,.int .i64 8,.slice none 0 0,.slice (some ⟨w.heap.size+1+1+1+1+1,0,none⟩) 1 1] 25)));obtain⟨X,Y,L,Z⟩:=uQ w hW;have R:=dJ X;have G:=dJ Y;have y:Hid (∀wr,Gr W wr->∀o,wr.cell? ⟨w.heap.size+1+1+1+1+1+1,o,none⟩=(#[.slice (some ⟨w.heap.size,0,none⟩) 2 2,.int .i64 8,.slice none 0 0,.slice (some ⟨w.heap.size+1+1+1+1+1,0,none⟩) 1 1]:Array Value)[o]?):=fun wr g o=>(g.cell _ _ (by omega)).trans (Z o)
 have Q:Hid (∀m,Gr W m->m.heap[W.heap.size]?=some (.cells #[.int .u32 127,.int .u32 1] 35 (0,0))->Calls prog 20 #[ue w,.agg #[.slice (some ⟨W.heap.size,0,none⟩) 2 2,.slice none 0 0]] m fun e w'=>∃A c,e=.returned (.tuple #[.slice A (256:Nat) c,.int .i64 0])/\Gr m w'):=fun m g h=>by
  refine(sN (f:=Rn.kFn) (i:=Rn.kInp) ((R.out.below g).mono g.size) sF ut (tc (zs:=[127,1]) (w:=w) h (by decide)) ⟨none,0,rfl,vV _,by decide,fun h=>absurd h (by decide)⟩ (by decide)).mono ?_;rintro e w' ⟨B,p⟩;rcases B with ⟨q,-⟩|⟨-,q,-⟩|⟨-,C,q,-,-,v,D,aa,rfl,ho⟩
  ·exact absurd Rn.k_valid q
  ·have:=Rn.k_all;rw[q]at this;cases this
  ·have hl:=Rn.k_all;rw[q]at hl;have M:C.length=256:=by simpa using hl
   obtain⟨A,c,rfl,-⟩:=dU ho.own;rw[M];exact⟨A,c,rfl,p⟩
 have S:Hid (∀j H I,Gr W j->j.heap[H]?=some (.cells #[.int .u32 127,.int .u32 1] 35 (0,0))->j.heap[I]?=some (.cells #[.int .u32 258] 35 (0,0))->Calls prog 16 #[ue w,.agg #[.slice (some ⟨H,0,none⟩) 2 2,.slice none 0 0],.slice (some ⟨I,0,none⟩) 1 1] j fun e w'=>∃A c,e=.returned (.tuple #[.agg #[.int .i64 0,.bool false,.int .i64 0,.int .u32 2,.slice A (0:Nat) c],.int .i64 1,.int .i64 0])/\Gr j w'):=fun j H I g h h'=>by
  refine(tH (f:=Rn.kFn) (i:=Rn.kInp) (picks:=[258]) ((R.out.below g).mono g.size) sF ut (tc (zs:=[127,1]) (w:=w) h (by decide)) ⟨none,0,rfl,vV _,by decide,fun h=>absurd h (by decide)⟩ (by decide) (tc (zs:=[258]) (w:=w) h' (by decide)) (by decide)).mono ?_;rintro e w' ⟨B,p⟩;rcases B with ⟨q,-⟩|⟨-,vx,D,rfl,hk,-⟩
  ·exact absurd Rn.k_valid q
  ·obtain⟨r1,r2⟩:=Rn.k_run;have r3:Rn.wids Rn.kFn Rn.kInp [258]=[8]:=r2;obtain⟨-,⟨A,c,rfl⟩,-⟩:=hk;rw[r1,r3];exact⟨A,c,rfl,p⟩
 unfold ue at Q S;obtain⟨k0,k1,k2,k3⟩:=And.intro (y.out W (wL _) 0) (And.intro (y.out W (wL _) 1) (And.intro (y.out W (wL _) 2) (y.out W (wL _) 3)));clear X Y L Z
 go_enter func12, ntmps12
 go_wp2_with (first
   | (go_at_call 20
      obtain⟨m,r⟩:=xJ (W.alloc (.cells #[.int .u32 127,.int .u32 1] 35))
      have J:Gr W m:=by rw[<-r];exact(wL _).alloc _
      have p:m.heap[W.heap.size]?=some (.cells #[.int .u32 127,.int .u32 1] 35 (0,0)):=by rw[<-r];exact heap_alloc_new _ _
      rw[r]
      have N:=Q.out m J p
      (with_reducible refine N.mono ?_)
      rintro e u ⟨A,c,rfl,T⟩
      have d:=dJ (J.trans T)
      have j0:=y.out u d.out 0
      have j1:=y.out u d.out 1
      have j2:=y.out u d.out 2
      have j3:=y.out u d.out 3
      clear J p N T r)
   | (go_at_call 16
      obtain⟨E,l⟩:=xJ (u.alloc (.cells #[.int .u32 127,.int .u32 1] 35))
      obtain⟨j,t⟩:=xJ (E.alloc (.cells #[.int .u32 258] 35))
      have K:Gr u E:=by rw[<-l];exact(wL _).alloc _
      have F:Gr E j:=by rw[<-t];exact(wL _).alloc _
      have s4:E.heap.size=u.heap.size+1:=by rw[<-l];simp
      have B:j.heap[u.heap.size]?=some (.cells #[.int .u32 127,.int .u32 1] 35 (0,0)):=(F.heap _ (by omega)).trans (by rw[<-l];exact heap_alloc_new _ _)
      have p:j.heap[u.heap.size+1]?=some (.cells #[.int .u32 258] 35 (0,0)):=by rw[<-t,<-s4];exact heap_alloc_new _ _
      rw[l,t]
      have O:=S.out j _ _ ((d.out.trans K).trans F) B p
      (with_reducible refine O.mono ?_)
      rintro e w6 ⟨A6,c6,rfl,U⟩
      have z:=dJ (((d.out.trans K).trans F).trans U)
      clear K F B p O U l t s4))
 go_ret
 first
  | exact⟨rfl,G.out.trans (z.out.alloc _)⟩
  | exact⟨rfl,G.out.trans ((z.out.alloc _).drew)⟩
  | exact⟨rfl,G.out.trans ((z.out.alloc _).drewN _)⟩
end
section
open Go.RowKit Go.Deep Go.ChangeShapes Go.WideShapes
section
variable {H:Type}{enc:TypeId × Value->H}{w:World}
theorem iU {fuel:Nat}{v:Value}{x:DataW H × List MemPlace}(h:DataW.trod enc prog w 0 (fun _=>true) true fuel 26 [v]=some x):∃zs,ArgsAt w v zs:=by
 rcases open_ints underlying26 underlying35 (by kernel_rfl) h with ⟨g,-⟩|⟨a,l,c,zs,g,-,hl,u,C,rfl,d,y⟩
 ·obtain rfl:v=.slice none 0 0:=by simpa using g
  exact⟨[],⟨none,0,rfl,by simp,by simp⟩,fun _=>⟨none,0,rfl,by simp,by simp,by simp⟩,by simp⟩
 ·obtain rfl:v=.slice (some a) l c:=by simpa using g
  simp only[if_true]at C;have hlen:(zs.take l).length=l:=by simp;omega
  have D:c<=9223372036854775807:=u;refine⟨zs.take l,⟨some a,c,by rw[hlen],by rw[hlen];exact hl,by rw[hlen];omega⟩,fun B=>⟨some a,c,by rw[hlen],by rw[hlen];exact hl,by omega,fun A=>?_⟩,fun z hz'=>by have:=bounds_u32 (y z (List.mem_of_mem_take hz'));omega⟩;rw[hlen]at A;have p:=d 0 (by omega);obtain⟨b,off,q⟩:=a;have m:q=none:=by simpa[Addr.add] using World.cell?_spot p
  subst m;refine⟨b,off,rfl,by simpa[Addr.add] using ij p,fun j z r=>?_⟩
  have t:j<l:=by have:=(yq.1 r).1;rw[hlen]at this;exact this
  rw[vL,wa t]at r;have:=d j (by omega);rw[add_plain]at this;simpa[List.getD,r] using this
theorem sn {fuel:Nat}{v:Value}{x:DataW H × List MemPlace}(h:DataW.trod enc prog w 0 (fun _=>true) true fuel 27 [v]=some x)
  (hw:∀m∈x.1.weights prog 27,m<=reachBytes):∃t,TabAt w.heap.size w v t:=by
 have C:Program.cellsOf prog 22=1:=by kernel_rfl
 have L:Program.bytesOf prog 22=24:=by kernel_rfl
 have M:reachBytes=0x7ffffffff000:=rfl;rcases open_slice1 underlying27 C h with ⟨g,-⟩|⟨a,l,c,m,n,V,D,N,g,-,hl,-,I,rfl,E⟩
 ·obtain rfl:v=.slice none 0 0:=by simpa using g
  exact⟨[],⟨none,0,rfl,by simp,by simp,by simp⟩⟩
 ·obtain rfl:v=.slice (some a) l c:=by simpa using g
  simp only[if_true]at I;subst I;have A:=hw _ (by simp only[DataW.weights,underlying27];exact List.mem_cons_self);simp only[vS,List.length_range]at A;rw[L,M]at A
  obtain⟨X,K⟩:=choose_lt (α:=List Int) (n:=l) (p:=fun i X=>IntsAt w.heap.size w (V i) X) (fun i hi=>by
    obtain⟨zs,F,-⟩:=fp (E i (by omega)).2 (fun k hk=>hw k (by
      simp only[DataW.weights,underlying27]
      refine List.mem_cons_of_mem _ (wl.2 (Or.inl (eC (d:=D i) (List.mem_map.2 ⟨i,List.mem_range.2 hi,rfl⟩) hk)))))
    exact⟨zs,F⟩)
  have hlen:((List.range l).map X).length=l:=by simp
  refine⟨(List.range l).map X,⟨some a,m,by rw[hlen],by rw[hlen];exact hl,by rw[hlen];omega,fun J=>?_⟩⟩;rw[hlen]at J;have u:=(E 0 (by omega)).1;obtain⟨b,off,B⟩:=a;have r:B=none:=by simpa[Addr.add] using World.cell?_spot u
  subst r;refine⟨b,off,rfl,by simpa[Addr.add] using ij u,fun j z G=>?_⟩
  have y:j<l:=by have:=(yq.1 G).1;rw[hlen]at this;exact this
  obtain rfl:X j=z:=by simpa[y] using G
  have q:=(E j (by omega)).1;rw[add_plain]at q;exact⟨V j,q,K j y⟩
theorem mL {v:Value}{d:DataW H}{p:List MemPlace}(hv:Value.okWide prog w .any 0 29 v)(h:DataW.Trod enc prog w 0 (fun _=>true) true 29 v d p)
  (hw:∀m∈d.weights prog 29,m<=reachBytes):∃(i:Rn.Inp)(va vm:Value),v=.agg #[va,vm]/\ArgsAt w va i.args/\TabAt w.heap.size w vm i.mem:=by
 obtain⟨v0,r,u,y,n,rfl,rfl,-,g,j⟩:=Go.Joins.open_agg2 underlying29 (by kernel_rfl) (by kernel_rfl) hv h;obtain⟨zs,l⟩:=iU g;obtain⟨t,q⟩:=sn j (fun m hm=>hw m (by simp[DataW.weights,underlying29,DataW.weightsEach,hm]));exact⟨⟨zs,t⟩,v0,r,rfl,l,q⟩
theorem tU {f:Fn}(hs:∀l∈f.blocks,∀z∈l,sC z):Rn.Im f:=fun l hl x d=>(hs l hl x d).1
end
end
section
open Go.RowKit Go.Shelf
theorem tr {f:Fn}{i:Rn.Inp}(h:(dV f || fj i)=false):dV f=false/\i.args.length<=1000:=by rw[Bool.or_eq_false_iff]at h;obtain⟨g,d⟩:=h;refine⟨g,?_⟩;unfold fj at d;simp only[Bool.or_eq_false_iff,decide_eq_false_iff_not]at d;omega
theorem ArgsAt.u32b {w w':World}{v:Value}{zs:List Int}(h:ArgsAt w v zs)(hl:zs.length<=1000)(g:Gr w w'):U32At w'.heap.size w' v zs:=SlAt.mono (qX (h.at_ hl) g) g.size
theorem lawAlls_any {w:World}{f:Fn}{vf:Value}(hfn:FnAt w.heap.size w vf f)(hn:dV f=false->jF f)(him:Rn.Im f){i:Rn.Inp}{va vm:Value}(ha:ArgsAt w va i.args)(hm:TabAt w.heap.size w vm i.mem) :
  Calls prog 7 #[vf,.agg #[va,vm]] w (RG (.bool true) w):=by
 have L:Hid (∀d,Gr w d->Calls prog 11 #[vf,.agg #[va,vm]] d (RG (.bool (dV f || fj i)) d)):=fun d g=>kX (hfn.gr g) ha.len (hm.gr g);have r:Hid (∀d,Calls prog 12 #[] d (RG (.bool true) d)):=jt;obtain⟨j,B⟩:=xJ (wU f i);obtain⟨E,y⟩:=xJ (xA f i);obtain⟨S,Y⟩:=xJ (xh f i);have Z:j.length<=256:=by rw[<-B];exact xr
 have Q:Hid (∀o∈j,OW o):=fun o ho=>(xC him (fun z F=>(ha.words z F).1) o (by rw[B];exact ho)).1
 have H:Hid ((dV f || fj i)=false->∀d,Gr w d->Calls prog 20 #[vf,.agg #[va,vm]] d fun e w'=>(∃A c D m,e=.returned (.tuple #[.slice A j.length c,.int .i64 E])/\OutsAt D (d.heap.size+2) w' (.slice A j.length c) j m)/\Gr d w'):=fun h d g =>
  (sN (hfn.gr g) (hn (tr h).1) him (ha.u32b (tr h).2 g) (hm.gr g) (fun z F=>(ha.words z F).1)).mono fun e w' ⟨h,R⟩=>⟨by rw[<-B,<-y];exact h.row,R⟩
 have I:Hid ((dV f || fj i)=false->∀d,Gr w d->Calls prog 24 #[vf,.agg #[va,vm]] d fun e w'=>(∃A c D m,e=.returned (.tuple #[.slice A j.length c,.int .i64 E])/\OutsAt D (d.heap.size+2) w' (.slice A j.length c) j m)/\Gr d w'):=fun h d g =>
  (xz (hfn.gr g) (hn (tr h).1) him (ha.u32b (tr h).2 g) (hm.gr g) ha.words).mono fun e w' ⟨h,R⟩=>⟨by rw[<-B,<-y];exact h.row,R⟩
 have J:Hid ((dV f || fj i)=false->∀d,Gr w d->Calls prog 25 #[vf,.agg #[va,vm]] d (RG (.tuple #[.bool S,.int .i64 E]) d)):=fun h d g=>by rw[<-Y,<-y];exact xH (hfn.gr g) (hn (tr h).1) him (ha.u32b (tr h).2 g) (hm.gr g) (fun z F=>(ha.words z F).1)
 have K:Hid ((dV f || fj i)=false->∀d,Gr w d->Calls prog 26 #[vf,.agg #[va,vm]] d (RG (.tuple #[.bool S,.int .i64 E]) d)):=fun h d g=>by rw[<-Y,<-y];exact xw (hfn.gr g) (hn (tr h).1) him (ha.u32b (tr h).2 g) (hm.gr g) ha.words
 obtain⟨Aa,ca,rfl,-⟩:=id ha.len;obtain⟨Am,cm,rfl,-⟩:=id hm;obtain⟨vp,vs,vb,rfl,hp,aa,hb⟩:=hfn;obtain⟨Ap,cp,rfl,-⟩:=hp;obtain⟨As,cs,rfl,-⟩:=aa;obtain⟨Ab,cb,rfl,-⟩:=hb;obtain⟨W,hW⟩:=xJ ((w.alloc (.cells #[.slice Ap f.params.length cp,.int .i64 f.ret,.slice As f.slots.length cs,.slice Ab f.blocks.length cb] 25)).alloc (.cells #[.slice Aa i.args.length ca,.slice Am i.mem.length cm] 29));obtain⟨g0,-,hc⟩:=gJ hW;have t:=dJ hc;obtain⟨k0,k1,k2,k3,k4,k5⟩:=t.out W (wL _);have l:=dJ g0;obtain⟨lg,C⟩:=xJ ((dV f || fj i));rw[C]at L H I J K;have s2:(E == E)=true:=by simp
 have s3:(S == S)=true:=by simp
 clear C hn ha hm g0 hc B y Y
 cases lg with
 | true =>
  go_enter func7, ntmps7
  go_wp2_with (first|(go_at_call 11;refine(L.out _ l.out).mono ?_;rintro e d ⟨rfl,u⟩;have p:Hid (Gr w d):=l.out.trans u;clear u)|(go_at_call 12;refine(r.out _).mono ?_;rintro e w2 ⟨rfl,G⟩))
  go_ret;exact⟨rfl,p.out.trans G⟩
 | false =>
  have I1:=dJ (H.out rfl);have I2:=dJ (I.out rfl);have I3:=dJ (J.out rfl);have I4:=dJ (K.out rfl);clear H I J K;cases S
  all_goals
   go_enter func7, ntmps7
   go_wp2_with (first|(go_at_call 11;refine(L.out _ l.out).mono ?_;rintro e d ⟨rfl,u⟩;have p:Hid (Gr W d):=u;clear u;obtain⟨l0,l1,l2,l3,l4,l5⟩:=t.out d p.out)|(go_at_call 20;refine(I1.out _ (l.out.trans p.out)).mono ?_;rintro e w2 ⟨⟨A2,c2,D2,ab,rfl,o2⟩,G⟩;have M:Hid (Gr W w2):=p.out.trans G;have O2:=dJ o2;clear G o2;obtain⟨m0,m1,m2,m3,m4,m5⟩:=t.out w2 M.out)|(go_at_call 24;refine(I2.out _ (l.out.trans M.out)).mono ?_;rintro e w3 ⟨⟨A3,c3,D3,ac,rfl,o3⟩,T⟩;have N:Hid (Gr W w3):=M.out.trans T;have O3:=dJ o3;have P3:=dJ T;clear T o3;obtain⟨n0,n1,n2,n3,n4,n5⟩:=t.out w3 N.out)|(go_at_call 25;refine(I3.out _ (l.out.trans N.out)).mono ?_;rintro e w4 ⟨rfl,U⟩;have O:Hid (Gr W w4):=N.out.trans U;have P4:=dJ U;clear U;obtain⟨p0,p1,p2,p3,p4,p5⟩:=t.out w4 O.out)|(go_at_call 26;refine(I4.out _ (l.out.trans O.out)).mono ?_;rintro e w5 ⟨rfl,X⟩;have G5:Hid (Gr W w5):=O.out.trans X;have P5:=dJ X;clear X)|(go_at_call 27;(with_reducible refine(xu (O2.out.frs (FrS.of_gr (S:=fun _=>False) (P3.out.trans (P4.out.trans P5.out))) (fun _ _ q=>q) (fun _ _ q=>q)) (O3.out.frs (FrS.of_gr (S:=fun _=>False) (P4.out.trans P5.out)) (fun _ _ q=>q) (fun _ _ q=>q)) rfl Z Q.out).mono ?_);rintro e w6 ⟨rfl,g6⟩;have G6:Hid (Gr W w6):=G5.out.trans g6;clear g6)|(go_at_call 12;refine(r.out _).mono ?_;rintro e w7 ⟨rfl,g7⟩))
   go_ret;exact⟨rfl,(l.out.trans G6.out).trans g7⟩
end
