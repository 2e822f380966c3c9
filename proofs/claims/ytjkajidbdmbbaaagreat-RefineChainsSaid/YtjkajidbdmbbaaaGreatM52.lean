/- Parts. -/
import Derived.Test.YtjkajidbdmbbaaaGreatM48
set_option linter.unusedSimpArgs false
set_option linter.unusedVariables false
set_option maxRecDepth 100000
set_option maxHeartbeats 16000000
open Go.Proofs.Tryz
namespace Go.Proofs.YtjkajidbdmbbaaaGreat
section
open Go.RowKit Go.Shelf Go.Deep Go.ChangeShapes Go.WideShapes
section
variable {H:Type}{enc:TypeId × Value->H}{w:World}
theorem tT {fuel:Nat}{c0 c1 c2 c3:Value}{x:DataW H × List MemPlace}(h:DataW.trod enc prog w 0 (fun _=>true) true fuel 36 [c0,c1,c2,c3]=some x)
  (hw:∀m∈x.1.weights prog 36,m<=reachBytes):∃f,FnAt w.heap.size w (.agg #[c0,c1,c2,c3]) f/\∀l∈f.blocks,∀z∈l,tY z:=by
 have D:Program.cellsOf prog 3=1:=by kernel_rfl
 have j:Program.cellsOf prog 33=1:=by kernel_rfl
 have q:Program.cellsOf prog 34=1:=by kernel_rfl
 obtain⟨d,p⟩:=x;obtain⟨xs,n,-,A,L,hlen,g⟩:=DataW.trod_struct underlying36 h
 match xs,hlen with
 | [y0,y1,y2,y3],_ =>
  have r:=g 0 _ rfl;have t:=g 1 _ rfl;have u:=g 2 _ rfl;have y:=g 3 _ rfl;simp only[Prod.mk.injEq]at A;obtain⟨rfl,-⟩:=A;simp[D,j,q]at r t u y;obtain⟨z0,E,-⟩:=nn r (fun m hm=>hw m (by simp[DataW.weights,underlying36,DataW.weightsEach,hm]));obtain⟨B,I,-,-⟩:=DataW.trod_int underlying3 t;obtain⟨K,F,-⟩:=nn u (fun m hm=>hw m (by simp[DataW.weights,underlying36,DataW.weightsEach,hm]));obtain⟨C,G,J⟩:=tZ y (fun m hm=>hw m (by simp[DataW.weights,underlying36,DataW.weightsEach,hm]));obtain rfl:c1=.int .i64 B:=by simpa using I
  exact⟨⟨z0,B,K,C⟩,⟨c0,c2,c3,rfl,E,F,G⟩,J⟩
theorem tX {v:Value}{d:DataW H}{p:List MemPlace}(hv:Value.okWide prog w .any 0 38 v)(h:DataW.Trod enc prog w 0 (fun _=>true) true 38 v d p)
  (hw:∀m∈d.weights prog 38,m<=reachBytes):∃a0 a1 a2 a3 b0 b1 b2 b3 c0 c1 c2 c3,v=.agg #[a0,a1,a2,a3,b0,b1,b2,b3,c0,c1,c2,c3]/\∃F G H,(FnAt w.heap.size w (.agg #[a0,a1,a2,a3]) F/\∀l∈F.blocks,∀z∈l,tY z)/\(FnAt w.heap.size w (.agg #[b0,b1,b2,b3]) G/\∀l∈G.blocks,∀z∈l,tY z)/\(FnAt w.heap.size w (.agg #[c0,c1,c2,c3]) H/\∀l∈H.blocks,∀z∈l,tY z):=by
 have j:Program.cellsOf prog 36=4:=by kernel_rfl
 have q:Program.cellsOf prog 38=12:=by kernel_rfl
 obtain⟨cs,rfl,g⟩:=okWide_struct underlying38 hv;obtain⟨t,J⟩:=h;obtain⟨xs,n,-,B,K,hlen,r⟩:=DataW.trod_struct underlying38 J;rw[q]at g;obtain⟨C⟩:=cs
 match C,g with
 | [a0,a1,a2,a3,b0,b1,b2,b3,c0,c1,c2,c3],_ =>
  match xs,hlen with
  | [y0,y1,y2],_ =>
   have u:=r 0 _ rfl;have y:=r 1 _ rfl;have A:=r 2 _ rfl;simp only[Prod.mk.injEq]at B;obtain⟨rfl,-⟩:=B;simp[j,Value.cells]at u y A;obtain⟨F,D⟩:=tT u (fun m hm=>hw m (by simp[DataW.weights,underlying38,DataW.weightsEach,hm]));obtain⟨G,E⟩:=tT y (fun m hm=>hw m (by simp[DataW.weights,underlying38,DataW.weightsEach,hm]));obtain⟨H,I⟩:=tT A (fun m hm=>hw m (by simp[DataW.weights,underlying38,DataW.weightsEach,hm]));exact⟨a0,a1,a2,a3,b0,b1,b2,b3,c0,c1,c2,c3,rfl,F,G,H,D,E,I⟩
end
end
section
open Go.RowKit Go.Shelf
abbrev C14 (u:World)(k:Nat)(a0 a1 a2 a3 b0 b1 b2 b3 c0 c1 c2 c3 d0 d1:Value):Prop :=
 (u.cell? ⟨k,0,none⟩=some a0/\u.cell? ⟨k,1,none⟩=some a1/\u.cell? ⟨k,2,none⟩=some a2/\u.cell? ⟨k,3,none⟩=some a3) /\
 (u.cell? ⟨k,4,none⟩=some b0/\u.cell? ⟨k,5,none⟩=some b1/\u.cell? ⟨k,6,none⟩=some b2/\u.cell? ⟨k,7,none⟩=some b3) /\
 (u.cell? ⟨k,8,none⟩=some c0/\u.cell? ⟨k,9,none⟩=some c1/\u.cell? ⟨k,10,none⟩=some c2/\u.cell? ⟨k,11,none⟩=some c3) /\
 u.cell? ⟨k+1,0,none⟩=some d0/\u.cell? ⟨k+1,1,none⟩=some d1
theorem uq {w W:World}{a0 a1 a2 a3 b0 b1 b2 b3 c0 c1 c2 c3 d0 d1:Value}{t t':TypeId}(h:(w.alloc (.cells #[a0,a1,a2,a3,b0,b1,b2,b3,c0,c1,c2,c3] t)).alloc (.cells #[d0,d1] t')=W) :
  Gr w W/\∀u,Gr W u->C14 u w.heap.size a0 a1 a2 a3 b0 b1 b2 b3 c0 c1 c2 c3 d0 d1:=by
 subst h;refine⟨((tE w).alloc _).alloc _,fun u g=>?_⟩;have d:=fun o=>da (V:=w) (W:=u) (B:=w.heap.size) _ _ o (((tE _).alloc _).trans g) rfl;have j:=fun o=>da (V:=w.alloc (.cells #[a0,a1,a2,a3,b0,b1,b2,b3,c0,c1,c2,c3] t)) (W:=u) (B:=w.heap.size+1) _ _ o g (by simp);exact⟨⟨d 0,d 1,d 2,d 3⟩,⟨d 4,d 5,d 6,d 7⟩,⟨d 8,d 9,d 10,d 11⟩,j 0,j 1⟩
theorem ua {w u:World}{va vm:Value}{i:Rn.Inp}(ha:tV w va i.args)(hm:TabAt w.heap.size w vm i.mem)(h:tN i=false)(g:Gr w u):InpAt u.heap.size u va vm i:=by
 have j:i.args.length<=20:=by unfold tN at h;simp only[Bool.or_eq_false_iff,decide_eq_false_iff_not]at h;omega
 exact InpAt.gr ⟨ha.at_ (by omega),hm,fun z d=>(ha.words z d).1⟩ g
theorem lawRefineChains_any {w:World}{F G H:Fn}{vp vs vb up us ub tp ts tb:Value}(hF:FnAt w.heap.size w (.agg #[vp,.int .i64 F.ret,vs,vb]) F)(hG:FnAt w.heap.size w (.agg #[up,.int .i64 G.ret,us,ub]) G)(hH:FnAt w.heap.size w (.agg #[tp,.int .i64 H.ret,ts,tb]) H)
  (nF:tI F=false->gI F) (nG:tI G=false->gI G) (nH:tI H=false->gI H) (iF:Rn.Im F) (iG:Rn.Im G) (iH:Rn.Im H) {i:Rn.Inp} {va vm:Value} (ha:tV w va i.args) (hm:TabAt w.heap.size w vm i.mem) :
  Calls prog 5 #[.agg #[vp,.int .i64 F.ret,vs,vb,up,.int .i64 G.ret,us,ub,tp,.int .i64 H.ret,ts,tb],.agg #[va,vm]] w (RG (.bool true) w):=by
 have S:Hid (∀Q,Calls prog 11 #[] Q (RG (.bool true) Q)):=lQ;have L1:Hid (∀u,Gr w u->Calls prog 16 #[.agg #[vp,.int .i64 F.ret,vs,vb]] u (RG (.bool (tI F)) u)):=fun u q=>tP _ F u (hF.gr q);have L2:Hid (∀u,Gr w u->Calls prog 16 #[.agg #[up,.int .i64 G.ret,us,ub]] u (RG (.bool (tI G)) u)):=fun u q=>tP _ G u (hG.gr q);have L3:Hid (∀u,Gr w u->Calls prog 16 #[.agg #[tp,.int .i64 H.ret,ts,tb]] u (RG (.bool (tI H)) u)):=fun u q=>tP _ H u (hH.gr q);have L4:Hid (∀u,Gr w u->Calls prog 17 #[.agg #[va,vm]] u (RG (.bool (tN i)) u)):=fun u q=>um ha.len (hm.gr q);have T1:Hid (tI F=false->tI G=false->tN i=false->∀u,Gr w u->Calls prog 18 #[.agg #[vp,.int .i64 F.ret,vs,vb],.agg #[up,.int .i64 G.ret,us,ub],.agg #[va,vm]] u (RG (atV F G i) u)):=fun h1 h2 h3 u q=>qY ⟨hF.gr q,hG.gr q,ua ha hm h3 q⟩ (nF h1) (nG h2) iF iG;have T2:Hid (tI G=false->tI H=false->tN i=false->∀u,Gr w u->Calls prog 18 #[.agg #[up,.int .i64 G.ret,us,ub],.agg #[tp,.int .i64 H.ret,ts,tb],.agg #[va,vm]] u (RG (atV G H i) u)):=fun h1 h2 h3 u q=>qY ⟨hG.gr q,hH.gr q,ua ha hm h3 q⟩ (nG h1) (nH h2) iG iH;have T3:Hid (tI F=false->tI H=false->tN i=false->∀u,Gr w u->Calls prog 18 #[.agg #[vp,.int .i64 F.ret,vs,vb],.agg #[tp,.int .i64 H.ret,ts,tb],.agg #[va,vm]] u (RG (atV F H i) u)):=fun h1 h2 h3 u q=>qY ⟨hF.gr q,hH.gr q,ua ha hm h3 q⟩ (nF h1) (nH h2) iF iH;have f1:=hF;have f2:=hG;have f3:=hH;obtain⟨_,_,_,e,⟨Ap,cp,rfl,-⟩,⟨As,cs,rfl,-⟩,⟨Ab,cb,rfl,-⟩⟩:=f1;simp only[Value.agg.injEq,Array.mk.injEq,List.cons.injEq,and_true,true_and]at e;obtain⟨rfl,rfl,rfl⟩:=e;obtain⟨_,_,_,e,⟨Dp,dp,rfl,-⟩,⟨Ds,ds,rfl,-⟩,⟨Db,db,rfl,-⟩⟩:=f2;simp only[Value.agg.injEq,Array.mk.injEq,List.cons.injEq,and_true,true_and]at e;obtain⟨rfl,rfl,rfl⟩:=e;obtain⟨_,_,_,e,⟨Tp,ao,rfl,-⟩,⟨Ts,ap,rfl,-⟩,⟨Tb,an,rfl,-⟩⟩:=f3;simp only[Value.agg.injEq,Array.mk.injEq,List.cons.injEq,and_true,true_and]at e;obtain⟨rfl,rfl,rfl⟩:=e;obtain⟨Aa,ca,rfl,-⟩:=id ha.len;obtain⟨Am,cm,rfl,-⟩:=id hm;obtain⟨W,hW⟩:=xJ ((w.alloc (.cells #[.slice Ap F.params.length cp,.int .i64 F.ret,.slice As F.slots.length cs,.slice Ab F.blocks.length cb,.slice Dp G.params.length dp,.int .i64 G.ret,.slice Ds G.slots.length ds,.slice Db G.blocks.length db,.slice Tp H.params.length ao,.int .i64 H.ret,.slice Ts H.slots.length ap,.slice Tb H.blocks.length an] 38)).alloc (.cells #[.slice Aa i.args.length ca,.slice Am i.mem.length cm] 41));obtain⟨ai,hK⟩:=uq hW;have p:=dJ ai;have t:=dJ hK;obtain⟨⟨B,C,D,E⟩,⟨I,J,K,L⟩,⟨M,N,g,j⟩,l,m⟩:=hK W (tE W);obtain⟨n1,aj⟩:=xJ (tI F);obtain⟨n2,ak⟩:=xJ (tI G);obtain⟨n3,al⟩:=xJ (tI H);obtain⟨n4,am⟩:=xJ (tN i);rw[aj]at L1 T1 T3;rw[ak]at L2 T1 T2;rw[al]at L3 T2 T3;rw[am]at L4 T1 T2 T3;clear hF hG hH nF nG nH iF iG iH ha hm ai hK aj ak al am
 cases n1 with
 | true =>
  go_enter func5, ntmps5
  go_wp2_with (first|(go_at_call 16;refine(L1.out _ p.out).mono ?_;rintro e Q ⟨rfl,A⟩)|(go_at_call 11;refine(S.out _).mono ?_;rintro e T ⟨rfl,O⟩))
  go_ret;exact⟨rfl,p.out.trans (A.trans O)⟩
 | false =>
 cases n2 with
 | true =>
  go_enter func5, ntmps5
  go_wp2_with (first|(go_at_call 16;(with_reducible refine(L1.out _ p.out).mono ?_);rintro e Q ⟨rfl,A⟩;have r:=dJ A;clear A;obtain⟨⟨B,C,D,E⟩,⟨I,J,K,L⟩,⟨M,N,g,j⟩,l,m⟩:=t.out Q r.out)|(go_at_call 16;(with_reducible refine(L2.out _ (p.out.trans r.out)).mono ?_);rintro e T ⟨rfl,O⟩)|(go_at_call 11;refine(S.out _).mono ?_;rintro e w3 ⟨rfl,X⟩))
  go_ret;exact⟨rfl,p.out.trans (r.out.trans (O.trans X))⟩
 | false =>
 cases n3 with
 | true =>
  go_enter func5, ntmps5
  go_wp2_with (first|(go_at_call 16;(with_reducible refine(L1.out _ p.out).mono ?_);rintro e Q ⟨rfl,A⟩;have r:=dJ A;clear A;obtain⟨⟨B,C,D,E⟩,⟨I,J,K,L⟩,⟨M,N,g,j⟩,l,m⟩:=t.out Q r.out)|(go_at_call 16;(with_reducible refine(L2.out _ (p.out.trans r.out)).mono ?_);rintro e T ⟨rfl,O⟩;have R:Hid (Gr W T):=r.out.trans O;clear O;obtain⟨⟨B,C,D,E⟩,⟨I,J,K,L⟩,⟨M,N,g,j⟩,l,m⟩:=t.out T R.out)|(go_at_call 16;(with_reducible refine(L3.out _ (p.out.trans R.out)).mono ?_);rintro e w3 ⟨rfl,X⟩)|(go_at_call 11;refine(S.out _).mono ?_;rintro e w4 ⟨rfl,g4⟩))
  go_ret;exact⟨rfl,p.out.trans (R.out.trans (X.trans g4))⟩
 | false =>
 cases n4 with
 | true =>
  go_enter func5, ntmps5
  go_wp2_with (first|(go_at_call 16;(with_reducible refine(L1.out _ p.out).mono ?_);rintro e Q ⟨rfl,A⟩;have r:=dJ A;clear A;obtain⟨⟨B,C,D,E⟩,⟨I,J,K,L⟩,⟨M,N,g,j⟩,l,m⟩:=t.out Q r.out)|(go_at_call 16;(with_reducible refine(L2.out _ (p.out.trans r.out)).mono ?_);rintro e T ⟨rfl,O⟩;have R:Hid (Gr W T):=r.out.trans O;clear O;obtain⟨⟨B,C,D,E⟩,⟨I,J,K,L⟩,⟨M,N,g,j⟩,l,m⟩:=t.out T R.out)|(go_at_call 16;(with_reducible refine(L3.out _ (p.out.trans R.out)).mono ?_);rintro e w3 ⟨rfl,X⟩;have G3:Hid (Gr W w3):=R.out.trans X;clear X;obtain⟨⟨B,C,D,E⟩,⟨I,J,K,L⟩,⟨M,N,g,j⟩,l,m⟩:=t.out w3 G3.out)|(go_at_call 17;refine(L4.out _ (p.out.trans G3.out)).mono ?_;rintro e w4 ⟨rfl,g4⟩)|(go_at_call 11;refine(S.out _).mono ?_;rintro e w5 ⟨rfl,g5⟩))
  go_ret;exact⟨rfl,p.out.trans (G3.out.trans (g4.trans g5))⟩
 | false =>
  have t1:=dJ (T1.out rfl rfl rfl);have t2:=dJ (T2.out rfl rfl rfl);have t3:=dJ (T3.out rfl rfl rfl);have ab:Hid (Rf.bothE F G i=0->Rf.bothE G H i=0->Rf.atB F G i=true->Rf.atB G H i=true->Rf.bothE F H i=0/\Rf.atB F H i=true):=fun a b c d=>⟨Rf.bothE_trans a b,Rf.atB_trans c d⟩;unfold atV at t1 t2 t3;obtain⟨U,af⟩:=xJ (Rf.bothE F G i);obtain⟨E2,ag⟩:=xJ (Rf.bothE G H i);obtain⟨E3,ah⟩:=xJ (Rf.bothE F H i);obtain⟨A1,ac⟩:=xJ (Rf.atB F G i);obtain⟨A2,ad⟩:=xJ (Rf.atB G H i);obtain⟨A3,ae⟩:=xJ (Rf.atB F H i);rw[af,ac]at t1;rw[ag,ad]at t2;rw[ah,ae]at t3;rw[af,ag,ah,ac,ad,ae]at ab;clear T1 T2 T3 af ag ah ac ad ae;obtain⟨b1,Y⟩:∃b,(if U=0 then A1 else false)=b:=⟨_,rfl⟩;obtain⟨b2,Z⟩:∃b,(if E2=0 then A2 else false)=b:=⟨_,rfl⟩;obtain⟨b3,aa⟩:∃b,(if E3=0 then A3 else false)=b:=⟨_,rfl⟩;rw[Y]at t1;rw[Z]at t2;rw[aa]at t3
  have HW:Hid (U=0->E2=0->b1=true->b2=true->E3=0/\b3=true):=fun x y z u=>by rw[sU x]at Y;rw[sU y]at Z;obtain⟨q1,q2⟩:=ab.out x y (Y.trans z) (Z.trans u);rw[sU q1]at aa;exact⟨q1,aa ▸ q2⟩
  clear ab Y Z aa
  rcases (by
    by_cases x:U=0
    · by_cases y:E2=0
      · cases b1
        · exact .inr (.inr (.inl ⟨x,y,rfl⟩))
        · cases b2
          · exact .inr (.inr (.inr (.inl ⟨x,y,rfl,rfl⟩)))
          · exact .inr (.inr (.inr (.inr ⟨x,y,rfl,rfl,HW.out x y rfl rfl⟩)))
      · exact .inr (.inl ⟨x,y⟩)
    · exact .inl x:U≠0\/(U=0/\E2≠0)\/(U=0/\E2=0/\b1=false)\/(U=0/\E2=0/\b1=true/\b2=false)\/(U=0/\E2=0/\b1=true/\b2=true/\E3=0/\b3=true)) with x|⟨rfl,y⟩|⟨rfl,rfl,rfl⟩|⟨rfl,rfl,rfl,rfl⟩|⟨rfl,rfl,rfl,rfl,rfl,rfl⟩
  case' inl=>have q:(U != 0)=true:=by simpa using x
  case' inr.inl=>have q:(E2 != 0)=true:=by simpa using y
  all_goals
   clear HW
   go_enter func5, ntmps5
   go_wp2_with (first|(go_at_call 16;(with_reducible refine(L1.out _ (p.out)).mono ?_);rintro e Q ⟨rfl,A⟩;have r:Hid (Gr W Q):=A;clear A;obtain⟨⟨B,C,D,E⟩,⟨I,J,K,L⟩,⟨M,N,g,j⟩,l,m⟩:=t.out Q r.out)|(go_at_call 16;(with_reducible refine(L2.out _ (p.out.trans r.out)).mono ?_);rintro e T ⟨rfl,O⟩;have R:Hid (Gr W T):=r.out.trans O;clear O;obtain⟨⟨B,C,D,E⟩,⟨I,J,K,L⟩,⟨M,N,g,j⟩,l,m⟩:=t.out T R.out)|(go_at_call 16;(with_reducible refine(L3.out _ (p.out.trans R.out)).mono ?_);rintro e w3 ⟨rfl,X⟩;have G3:Hid (Gr W w3):=R.out.trans X;clear X;obtain⟨⟨B,C,D,E⟩,⟨I,J,K,L⟩,⟨M,N,g,j⟩,l,m⟩:=t.out w3 G3.out)|(go_at_call 17;refine(L4.out _ (p.out.trans G3.out)).mono ?_;rintro e w4 ⟨rfl,g4⟩;have G4:Hid (Gr W w4):=G3.out.trans g4;clear g4;obtain⟨⟨B,C,D,E⟩,⟨I,J,K,L⟩,⟨M,N,g,j⟩,l,m⟩:=t.out w4 G4.out)|(go_at_call 18;(with_reducible refine(t1.out _ (p.out.trans G4.out)).mono ?_);rintro e w5 ⟨rfl,g5⟩;have G5:Hid (Gr W w5):=G4.out.trans g5;clear g5;obtain⟨⟨B,C,D,E⟩,⟨I,J,K,L⟩,⟨M,N,g,j⟩,l,m⟩:=t.out w5 G5.out)|(go_at_call 18;(with_reducible refine(t2.out _ (p.out.trans G5.out)).mono ?_);rintro e w6 ⟨rfl,g6⟩;have G6:Hid (Gr W w6):=G5.out.trans g6;clear g6;obtain⟨⟨B,C,D,E⟩,⟨I,J,K,L⟩,⟨M,N,g,j⟩,l,m⟩:=t.out w6 G6.out)|(go_at_call 18;(with_reducible refine(t3.out _ (p.out.trans G6.out)).mono ?_);rintro e w7 ⟨rfl,g7⟩;have G7:Hid (Gr W w7):=G6.out.trans g7;clear g7;obtain⟨⟨B,C,D,E⟩,⟨I,J,K,L⟩,⟨M,N,g,j⟩,l,m⟩:=t.out w7 G7.out)|(go_at_call 11;refine(S.out _).mono ?_;rintro e w8 ⟨rfl,g8⟩))
   go_ret;exact⟨rfl,p.out.trans (G7.out.trans g8)⟩
end
