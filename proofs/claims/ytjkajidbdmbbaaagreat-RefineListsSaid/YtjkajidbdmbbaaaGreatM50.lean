/- Parts. -/
import Derived.Test.YtjkajidbdmbbaaaGreatM48
set_option linter.unusedSimpArgs false
set_option linter.unusedVariables false
set_option maxRecDepth 100000
set_option maxHeartbeats 16000000
open Go.Proofs.Tryz
namespace Go.Proofs.YtjkajidbdmbbaaaGreat
section
open Go.RowKit
theorem ul {w:World}{A:Option Addr}{n c:Nat}{os:List Rn.Out}(h:OL w.heap.size w (.slice A n c) os):∀(i:Nat)(o:Rn.Out),os[i]?=some o->∃b off Am cm,A=some ⟨b,off,none⟩/\∀u,Gr w u ->
  (u.cell? ⟨b,off+i*5,none⟩=some (.int .i64 o.kind)/\u.cell? ⟨b,off+i*5+1,none⟩=some (.bool o.ret.p)/\u.cell? ⟨b,off+i*5+2,none⟩=some (.int .i64 o.ret.s)/\u.cell? ⟨b,off+i*5+3,none⟩=some (.int .u32 o.ret.n)/\u.cell? ⟨b,off+i*5+4,none⟩=some (.slice Am o.mem.length cm))/\TabAt u.heap.size u (.slice Am o.mem.length cm) o.mem:=by
 obtain⟨D,E,e,H,I,q⟩:=h;injection e with m F G;subst m;intro i o j;obtain⟨b,off,rfl,d,r⟩:=q (by have:=(su.1 j).1;omega);obtain⟨vm,t,y,z,B,C,l⟩:=r i o j;obtain⟨Am,cm,rfl,-⟩:=id l;exact⟨b,off,Am,cm,rfl,fun u g=>⟨⟨(g.cell _ _ d).trans t,(g.cell _ _ d).trans y,(g.cell _ _ d).trans z,(g.cell _ _ d).trans B,(g.cell _ _ d).trans C⟩,l.gr g⟩⟩
theorem tW {p:Rn.Out->Bool}{l:List Rn.Out}{i:Nat}{o:Rn.Out}(h:l[i]?=some o):(l.drop i).any p=(p o || (l.drop (i+1)).any p):=by obtain⟨d,g⟩:=su.1 h;rw[sJ d,g,List.any_cons]
theorem uh {p:Rn.Out->Bool}{l:List Rn.Out}{i:Nat}{o:Rn.Out}(h:l[i]?=some o):(l.drop i).all p=(p o && (l.drop (i+1)).all p):=by obtain⟨d,g⟩:=su.1 h;rw[sJ d,g,List.all_cons]
theorem tM {w:World}{vs vt:Value}{ss ts:List Rn.Out}(hs:OL w.heap.size w vs ss)(ht:OL w.heap.size w vt ts) :
  Calls prog 15 #[vs,vt] w (RG (.bool (Rf.permitsAll ss ts)) w):=by
 obtain⟨A,c,rfl,-,s2,-⟩:=id hs;obtain⟨A',c',rfl,-,t2,-⟩:=id ht;have U:=dJ (ul hs);have HT:=dJ (ul ht);have ac:(ss.length:Int)<=17592186044416:=by omega
 have ad:(ts.length:Int)<=17592186044416:=by omega
 have T:Hid (Rf.permitsAll ss ts=(ss.any (fun x=>decide (x.kind=1)) || ts.all fun y=>ss.any fun x=>Rf.permits x y)):=by show _=_;rfl
 obtain⟨R,z⟩:=xJ (Rf.permitsAll ss ts);rw[z]at T ⊢;clear hs ht z
 go_enter func15, ntmps15
 go_wp2
 go_loopw [5] (fun N wr=>∃i:Nat,i<=ss.length/\N=.int .i64 (i:Int)/\Hid (R=((ss.drop i).any (fun x=>decide (x.kind=1)) || ts.all fun y=>ss.any fun x=>Rf.permits x y))/\Hid (Gr w wr)) (fun N _=>ss.length-(intOf N).toNat)
 case atStart=>exact⟨0,tv _,rfl,T.out,tE _⟩
 case round =>
  obtain⟨i,X,rfl,z,r⟩:=hrel;by_cases d:i<ss.length
  ·obtain⟨o,J⟩:∃o,ss[i]?=some o:=⟨_,sq d⟩;obtain⟨b,off,Am,cm,rfl,W⟩:=U.out i o J;obtain⟨⟨c0,-⟩,-⟩:=W wr r.out;have m:Hid (R=((decide (o.kind=1) || (ss.drop (i+1)).any (fun x=>decide (x.kind=1))) || ts.all fun y=>ss.any fun x=>Rf.permits x y)):=by show _=_;rw[z.out,tW J]
   clear J W;by_cases C:o.kind=1
   ·have q:(o.kind == 1)=true:=by simp[C]
    have D:Hid (R=true):=by show _=_;rw[m.out,decide_eq_true C];rfl
    clear C;go_wp2;go_ret;exact⟨cZ D.out.symm,r.out⟩
   ·have q:(o.kind == 1)=false:=by simp[C]
    have D:Hid (R=((ss.drop (i+1)).any (fun x=>decide (x.kind=1)) || ts.all fun y=>ss.any fun x=>Rf.permits x y)):=by show _=_;rw[m.out,decide_eq_false C];rfl
    clear C;go_wp2;exact⟨⟨i+1,by omega,by go_num,D.out,r⟩,by simp[intOf];omega⟩
  ·obtain rfl:i=ss.length:=by omega
   have D:Hid (R=ts.all fun y=>ss.any fun x=>Rf.permits x y):=by show _=_;rw[z.out,List.drop_length];rfl
   have g:=r;clear d X z r;go_wp2
   go_loopw [6,7,8] (fun O _ _ wr=>∃k:Nat,k<=ts.length/\O=.int .i64 (k:Int)/\Hid (R=(ts.drop k).all fun y=>ss.any fun x=>Rf.permits x y)/\Hid (Gr w wr)) (fun O _ _ _=>ts.length-(intOf O).toNat)
   case atStart=>exact⟨0,tv _,rfl,D.out,g⟩
   case round =>
    obtain⟨k,hk,rfl,z,r⟩:=hrel;by_cases d:k<ts.length
    ·obtain⟨y,M⟩:∃y,ts[k]?=some y:=⟨_,sq d⟩;obtain⟨bt,ot,At,ct,rfl,F⟩:=HT.out k y M;have l:=dJ F;have m:Hid (R=((ss.any fun x=>Rf.permits x y) && (ts.drop (k+1)).all fun y=>ss.any fun x=>Rf.permits x y)):=by show _=_;rw[z.out,uh M]
     have E:Hid (k<ts.length):=d;have ab:(k:Int)<(ts.length:Int):=by omega
     have Z:=r;clear M F d z r hk;go_wp2
     go_loopw [7,8] (fun s7 Q wr=>∃(i:Nat)(B:Bool),i<=ss.length/\Q=.int .i64 (i:Int)/\s7=.bool B/\Hid ((ss.any fun x=>Rf.permits x y)=(B || (ss.drop i).any fun x=>Rf.permits x y))/\Hid (Gr w wr)) (fun _ Q _=>ss.length-(intOf Q).toNat)
     case atStart=>exact⟨0,false,tv _,rfl,rfl,rfl,Z⟩
     case round=>as_aux_lemma =>
      obtain⟨i,B,X,rfl,rfl,I,r⟩:=hrel;by_cases d:i<ss.length
      ·obtain⟨x,L⟩:∃x,ss[i]?=some x:=⟨_,sq d⟩;obtain⟨bs,os,As,cs,rfl,j⟩:=U.out i x L;have g:=r;have t:Hid ((ss.any fun x=>Rf.permits x y)=(B || (Rf.permits x y || (ss.drop (i+1)).any fun x=>Rf.permits x y))):=by show _=_;rw[I.out,tW L]
       have X0:=fun u:GrW wr=>(j u.val (g.out.trans u.gr)).1.1;have X1:=fun u:GrW wr=>(j u.val (g.out.trans u.gr)).1.2.1;have X2:=fun u:GrW wr=>(j u.val (g.out.trans u.gr)).1.2.2.1;have X3:=fun u:GrW wr=>(j u.val (g.out.trans u.gr)).1.2.2.2.1;have X4:=fun u:GrW wr=>(j u.val (g.out.trans u.gr)).1.2.2.2.2;have Y0:=fun u:GrW wr=>(l.out u.val (g.out.trans u.gr)).1.1;have Y1:=fun u:GrW wr=>(l.out u.val (g.out.trans u.gr)).1.2.1;have Y2:=fun u:GrW wr=>(l.out u.val (g.out.trans u.gr)).1.2.2.1;have Y3:=fun u:GrW wr=>(l.out u.val (g.out.trans u.gr)).1.2.2.2.1;have Y4:=fun u:GrW wr=>(l.out u.val (g.out.trans u.gr)).1.2.2.2.2;have G:=dJ fun u:GrW wr=>tL (j u.val (g.out.trans u.gr)).2 (l.out u.val (g.out.trans u.gr)).2;obtain⟨p,Y⟩:=xJ (Rf.permits x y);rw[Y]at G t;unfold en at G;have aa:(i:Int)<(ss.length:Int):=by omega
       clear L j Y I;cases B
       all_goals
        go_wp2;refine dg (by kernel_rfl) (by kernel_rfl) ?_;repeat (go_big_quiet_step ((rename_i u;go_at_call 13;exact dk u (G.out u))))
        refine wpQuiet_nil ?_;intro w9 K;obtain⟨u9,rfl⟩:=K;have S:=dJ (g.out.trans u9.gr);clear X0 X1 X2 X3 X4 Y0 Y1 Y2 Y3 Y4;go_wp2
       ·exact⟨⟨i+1,p,by omega,by go_num,rfl,by show _=_;rw[t.out];rfl,S⟩,by simp[intOf];omega⟩
       ·exact⟨⟨i+1,true,by omega,by go_num,rfl,by show _=_;rw[t.out];rfl,S⟩,by simp[intOf];omega⟩
      ·obtain rfl:i=ss.length:=by omega
       have HB:Hid ((ss.any fun x=>Rf.permits x y)=B):=by show _=_;rw[I.out,List.drop_length];simp
       rw[HB.out]at m
       cases B with
       | false =>
        go_wp2;go_ret;exact⟨cZ (by rw[m.out];rfl),r.out⟩
       | true =>
        go_wp2;exact⟨⟨k+1,E.out,by go_num,by show _=_;rw[m.out];rfl,r⟩,by have:=E.out;simp[intOf];omega⟩
    ·obtain rfl:k=ts.length:=by omega
     have H:Hid (R=true):=by show _=_;rw[z.out,List.drop_length];rfl
     go_wp2;go_ret;exact⟨cZ H.out.symm,r.out⟩
end
section
open Go.RowKit Go.Shelf Go.Deep Go.ChangeShapes Go.WideShapes
section
variable {H:Type}{enc:TypeId × Value->H}{w:World}
theorem uf {fuel:Nat}{cs:List Value}{x:DataW H × List MemPlace}(h:DataW.trod enc prog w 0 (fun _=>true) true fuel 27 cs=some x)(hw:∀m∈x.1.weights prog 27,m<=reachBytes) :
  ∃(o:Rn.Out)(vm:Value),cs=[.int .i64 o.kind,.bool o.ret.p,.int .i64 o.ret.s,.int .u32 o.ret.n,vm]/\TabAt w.heap.size w vm o.mem:=by
 have z:Program.cellsOf prog 3=1:=by kernel_rfl
 have I:Program.cellsOf prog 4=1:=by kernel_rfl
 have l:Program.cellsOf prog 22=1:=by kernel_rfl
 have q:Program.cellsOf prog 24=3:=by kernel_rfl
 have j:Program.cellsOf prog 25=1:=by kernel_rfl
 have r:Program.cellsOf prog 27=5:=by kernel_rfl
 obtain⟨xs,n,rfl,rfl,D,hlen,u⟩:=DataW.trod_struct underlying27 h;rw[r]at D
 match cs,D with
 | [c0,c1,c2,c3,c4],_ =>
  match xs,hlen with
  | [y0,y1,y2],_ =>
   have A:=u 0 _ rfl;have B:=u 1 _ rfl;have C:=u 2 _ rfl;simp[z,q,j]at A B C;obtain⟨k,J,-,-⟩:=DataW.trod_int underlying3 A;obtain rfl:c0=.int .i64 k:=by simpa using J
   obtain⟨y,R,-,K,L,d,g⟩:=DataW.trod_struct underlying24 B
   match y,d with
   | [z0,z1,z2],_ =>
    have E:=g 0 _ rfl;have F:=g 1 _ rfl;have G:=g 2 _ rfl;simp[z,I,l]at E F G;obtain⟨b,N,-⟩:=DataW.trod_bool underlying4 E;obtain⟨s,O,-,-⟩:=DataW.trod_int underlying3 F;obtain⟨m,Q,-,-⟩:=DataW.trod_int underlying22 G;obtain rfl:c1=.bool b:=by simpa using N
    obtain rfl:c2=.int .i64 s:=by simpa using O
    obtain rfl:c3=.int .u32 m:=by simpa using Q
    obtain⟨t,M⟩:=pL C (fun k hk=>hw k (by simp[DataW.weights,underlying27,DataW.weightsEach,hk]));exact⟨⟨k,⟨b,s,m⟩,t⟩,c4,rfl,M⟩
theorem tS {fuel:Nat}{v:Value}{x:DataW H × List MemPlace}(h:DataW.trod enc prog w 0 (fun _=>true) true fuel 31 [v]=some x)
  (hw:∀m∈x.1.weights prog 31,m<=reachBytes):∃os,OL w.heap.size w v os:=by
 have B:Program.cellsOf prog 27=5:=by kernel_rfl
 have O:Program.bytesOf prog 27=56:=by kernel_rfl
 have R:reachBytes=0x7ffffffff000:=rfl;rcases open_slice underlying31 h with ⟨g,-⟩|⟨a,l,c,m,n,D,S,g,-,Q,-,J,rfl,K⟩
 ·obtain rfl:v=.slice none 0 0:=by simpa using g
  exact⟨[],⟨none,0,rfl,by simp,by simp,by simp⟩⟩
 ·obtain rfl:v=.slice (some a) l c:=by simpa using g
  simp only[if_true]at J;subst J;have y:=hw _ (by simp only[DataW.weights,underlying31];exact List.mem_cons_self);simp only[sO,List.length_range]at y;rw[O,R]at y;rw[B]at K
  obtain⟨X,G⟩:=choose_lt (α:=Rn.Out) (n:=l) (p:=fun i X=>∃vm,w.cells? 0 (a.add (i*5)) 5=some [.int .i64 X.kind,.bool X.ret.p,.int .i64 X.ret.s,.int .u32 X.ret.n,vm]/\TabAt w.heap.size w vm X.mem) (fun i hi=>by
    obtain⟨L,M,N⟩:=K i (by omega)
    obtain⟨X,vm,rfl,E⟩:=uf N (fun k hk=>hw k (by
      simp only[DataW.weights,underlying31]
      refine List.mem_cons_of_mem _ (td.2 (Or.inl (eU (d:=D i) (List.mem_map.2 ⟨i,List.mem_range.2 hi,rfl⟩) hk)))))
    exact⟨X,vm,M,E⟩)
  have hlen:((List.range l).map X).length=l:=by simp
  refine⟨(List.range l).map X,⟨some a,m,by rw[hlen],by rw[hlen];exact Q,by rw[hlen];omega,fun F=>?_⟩⟩;rw[hlen]at F;obtain⟨vm,C,-⟩:=G 0 F;have t:=(World.cells?_some C).2.2 0 (by omega);obtain⟨b,off,A⟩:=a;have r:A=none:=by simpa[Addr.add] using World.cell?_spot t
  subst r;refine⟨b,off,rfl,by simpa[Addr.add] using mT t,fun j z I=>?_⟩
  have u:j<l:=by have:=(su.1 I).1;rw[hlen]at this;exact this
  obtain rfl:X j=z:=by simpa[u] using I
  obtain⟨vm,C,E⟩:=G j u;have q:=(World.cells?_some C).2.2;simp only[add_plain]at q;exact⟨vm,q 0 (by omega),q 1 (by omega),q 2 (by omega),q 3 (by omega),q 4 (by omega),E⟩
end
end
section
open Go.RowKit Go.Shelf
theorem lawRefineLists_any {w:World}{ss ts:List Rn.Out}{vs vt:Value}(hs:OL w.heap.size w vs ss)(ht:OL w.heap.size w vt ts) :
  Calls prog 4 #[vs,vt] w (RG (.bool true) w):=by
 have d:Hid (∀t,Calls prog 11 #[] t (RG (.bool true) t)):=lQ;have I:Hid (∀u,Gr w u->Calls prog 14 #[vs,vt] u (RG (.bool (Rf.permitsAll ss ts)) u)):=fun u q=>dP (hs.gr q) (ht.gr q);have J:Hid (∀u,Gr w u->Calls prog 15 #[vs,vt] u (RG (.bool (Rf.permitsAll ss ts)) u)):=fun u q=>tM (hs.gr q) (ht.gr q);obtain⟨A,c,rfl,-,s2,-⟩:=id hs;obtain⟨A',c',rfl,-,t2,-⟩:=id ht;have Q:=dJ (ul hs);have R:=dJ (ul ht);obtain⟨p,N⟩:=xJ (Rf.permitsAll ss ts);rw[N]at I J;have s1:(p == p)=true:=by simp
 clear hs ht N;by_cases L:20<ss.length
 ·have q:(20:Int)<(ss.length:Int):=by omega
  clear L
  go_enter func4, ntmps4
  go_wp2_with (go_at_call 11;refine(d.out _).mono ?_;rintro e E ⟨rfl,m⟩);go_ret;exact⟨rfl,m⟩
 ·have q1:¬(20:Int)<(ss.length:Int):=by omega
  by_cases M:20<ts.length
  ·have q:(20:Int)<(ts.length:Int):=by omega
   clear M
   go_enter func4, ntmps4
   go_wp2_with (go_at_call 11;refine(d.out _).mono ?_;rintro e E ⟨rfl,m⟩);go_ret;exact⟨rfl,m⟩
  ·have q2:¬(20:Int)<(ts.length:Int):=by omega
   have aa:(ss.length:Int)<=20:=by omega
   have ab:(ts.length:Int)<=20:=by omega
   clear L M
   go_enter func4, ntmps4
   go_wp2;clear q1 q2
   go_loopw [5] (fun G wr=>∃i:Nat,i<=ss.length/\G=.int .i64 (i:Int)/\Hid (Gr w wr)) (fun G _=>ss.length-(intOf G).toNat)
   case atStart=>exact⟨0,tv _,rfl,tE _⟩
   case round =>
    obtain⟨i,Z,rfl,g⟩:=hrel;by_cases j:i<ss.length
    ·obtain⟨o,D⟩:∃o,ss[i]?=some o:=⟨_,sq j⟩;obtain⟨b,off,Am,cm,rfl,B⟩:=Q.out i o D;obtain⟨⟨S,T,U,W,X⟩,ht⟩:=B wr g.out;have r:=dJ (jn ht);obtain⟨n,C⟩:=xJ (Rf.longO o);rw[C]at r;unfold en at r;have F:=g;clear D B ht C g
     cases n with
     | true =>
      go_wp2_with (first|(go_at_call 10;refine r.out.mono ?_;rintro e t ⟨rfl,l⟩)|(go_at_call 11;refine(d.out _).mono ?_;rintro e E ⟨rfl,m⟩))
      go_ret;exact⟨rfl,F.out.trans (l.trans m)⟩
     | false =>
      go_wp2_with (go_at_call 10;refine r.out.mono ?_;rintro e t ⟨rfl,l⟩);exact⟨⟨i+1,by omega,by go_num,F.out.trans l⟩,by simp[intOf];omega⟩
    ·obtain rfl:i=ss.length:=by omega
     have F:=g;clear j Z g;go_wp2
     go_loopw [6] (fun H wr=>∃k:Nat,k<=ts.length/\H=.int .i64 (k:Int)/\Hid (Gr w wr)) (fun H _=>ts.length-(intOf H).toNat)
     case atStart=>exact⟨0,tv _,rfl,F⟩
     case round =>
      obtain⟨k,hk,rfl,g⟩:=hrel;by_cases j:k<ts.length
      ·obtain⟨o,D⟩:∃o,ts[k]?=some o:=⟨_,sq j⟩;obtain⟨b,off,Am,cm,rfl,B⟩:=R.out k o D;obtain⟨⟨S,T,U,W,X⟩,ht⟩:=B wr g.out;have r:=dJ (jn ht);obtain⟨n,C⟩:=xJ (Rf.longO o);rw[C]at r;unfold en at r;have y:=g;have z:Hid (k<ts.length):=j;clear D B ht C g
       cases n with
       | true =>
        go_wp2_with (first|(go_at_call 10;refine r.out.mono ?_;rintro e t ⟨rfl,l⟩)|(go_at_call 11;refine(d.out _).mono ?_;rintro e E ⟨rfl,m⟩))
        go_ret;exact⟨rfl,y.out.trans (l.trans m)⟩
       | false =>
        go_wp2_with (go_at_call 10;refine r.out.mono ?_;rintro e t ⟨rfl,l⟩);exact⟨⟨k+1,z.out,by go_num,y.out.trans l⟩,by have:=z.out;simp[intOf];omega⟩
      ·obtain rfl:k=ts.length:=by omega
       have y:=g;clear g
       go_wp2_with (first|(go_at_call 14;refine(I.out _ y.out).mono ?_;rintro e t ⟨rfl,l⟩;have K:Hid (Gr w t):=y.out.trans l;clear l)|(go_at_call 15;refine(J.out _ K.out).mono ?_;rintro e E ⟨rfl,m⟩;have O:Hid (Gr w E):=K.out.trans m;clear m)|(go_at_call 11;refine(d.out _).mono ?_;rintro e w3 ⟨rfl,Y⟩))
       go_ret;exact⟨rfl,O.out.trans Y⟩
end
