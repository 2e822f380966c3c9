/- Parts. -/
import Derived.Test.YthfjdhanbegaoaaGreatDoorT29
import Derived.Deep.CutRange
set_option linter.unusedSimpArgs false
set_option linter.unusedVariables false
set_option maxRecDepth 100000
set_option maxHeartbeats 16000000
open Go.Proofs.Tryz
namespace Go.Proofs.YthfjdhanbegaoaaGreatDoor
open Go.RowKit
namespace Tx
def p1 (x:Ins)(v:Int):S:=if 0<x.width then num v++[32,61,32] else []
def p2 (x:Ins)(v:Int):S:=p1 x v++nameS x.op
def p3 (x:Ins)(v:Int):S:=if 0<x.flags then p2 x v++46::num x.flags else p2 x v
def p4 (x:Ins)(v:Int):S:=if 0<x.width then p3 x v++32::num x.width else p3 x v
def p5 (x:Ins)(v:Int):S:=if numbered x.op=true then p4 x v++32::35::num x.imm else p4 x v
def argsS (l:List Int):S:=l.flatMap fun a=>32::num a
def toS (l:List Int):S:=l.flatMap fun a=>32::64::num a
def p6 (x:Ins)(v:Int):S:=p5 x v++argsS x.args
theorem flat_map (f:Int->S)(l:List Int):(l.map f).flatMap (fun t=>32::t)=l.flatMap fun a=>32::f a:=by
 induction l with
 | nil=>rfl
 | cons a r ih=>rw[List.map_cons,List.flatMap_cons,List.flatMap_cons,ih]
theorem line_pieces (x:Ins)(v:Int):lineS x v=p6 x v++toS x.to:=by
 unfold lineS wordsI restW p6 p5 p4 p3 p2 p1 argsS toS opW;by_cases j:0<x.width
 ·simp only[pB j,unw,List.flatMap_cons,List.flatMap_append,flat_map];by_cases g:numbered x.op=true
  ·by_cases d:0<x.flags
   ·simp[g,d]
   ·simp[g,d]
  ·by_cases d:0<x.flags
   ·simp[g,d]
   ·simp[g,d]
 ·simp only[pC j,unw,List.flatMap_append,flat_map];by_cases g:numbered x.op=true
  ·by_cases d:0<x.flags
   ·simp[g,d]
   ·simp[g,d]
  ·by_cases d:0<x.flags
   ·simp[g,d]
   ·simp[g,d]
theorem argsS_len:∀(l:List Int),(∀a∈l,Ok a)->(argsS l).length<=11*l.length
 | [],_=>by simp[argsS]
 | a::r,h=>by
  have d:=argsS_len r fun b hb=>h b (by simp[hb])
  have g:=num_len (h a (by simp));unfold argsS at *;rw[List.flatMap_cons,pT,List.length_cons,List.length_cons];omega
theorem toS_len:∀(l:List Int),(∀a∈l,Ok a)->(toS l).length<=12*l.length
 | [],_=>by simp[toS]
 | a::r,h=>by
  have d:=toS_len r fun b hb=>h b (by simp[hb])
  have g:=num_len (h a (by simp));unfold toS at *;rw[List.flatMap_cons,pT,List.length_cons,List.length_cons,List.length_cons];omega
theorem p5_len {x:Ins}(h:PrI x){v:Int}(hv:Ok v):(p1 x v).length<=13/\(p2 x v).length<=19/\(p3 x v).length<=30/\(p4 x v).length<=41/\(p5 x v).length<=53:=by
 have g:=num_len hv;have j:=name_len x.op;have l:=num_len h.flags;have m:=num_len h.width;have p:=num_len h.imm;have d:(p1 x v).length<=13:=by unfold p1;split<;>simp;omega
 have a2:(p2 x v).length<=19:=by unfold p2;simp;omega
 have a3:(p3 x v).length<=30:=by unfold p3;split<;>(try simp only[pT,List.length_cons])<;>omega
 have a4:(p4 x v).length<=41:=by unfold p4;split<;>(try simp only[pT,List.length_cons])<;>omega
 have a5:(p5 x v).length<=53:=by unfold p5;split<;>(try simp only[pT,List.length_cons])<;>omega
 exact⟨d,a2,a3,a4,a5⟩
theorem argsS_snoc {l:List Int}{k:Nat}{a:Int}(h:l[k]?=some a):argsS (l.take (k+1))=argsS (l.take k)++32::num a:=by unfold argsS;rw[List.take_add_one,h,List.flatMap_append];simp
theorem toS_snoc {l:List Int}{k:Nat}{a:Int}(h:l[k]?=some a):toS (l.take (k+1))=toS (l.take k)++32::64::num a:=by unfold toS;rw[List.take_add_one,h,List.flatMap_append];simp
end Tx
theorem lq (w:World)(v0 v1 v2 v3 v4 v5:Value):∃W,w.alloc (.cells #[v0,v1,v2,v3,v4,v5] 50)=W/\Hid (Gr w W)/\Hid (∀w',Gr W w'->w'.cell? ⟨w.heap.size,0,none⟩=some v0/\w'.cell? ⟨w.heap.size,1,none⟩=some v1/\w'.cell? ⟨w.heap.size,2,none⟩=some v2/\w'.cell? ⟨w.heap.size,3,none⟩=some v3/\w'.cell? ⟨w.heap.size,4,none⟩=some v4/\w'.cell? ⟨w.heap.size,5,none⟩=some v5):=by refine⟨_,rfl,dJ ((qj w).alloc _),dJ fun w' q=>?_⟩;have h:=(q.heap w.heap.size (by simp)).trans (heap_alloc_new w _);exact⟨px _ _ 0 _ _ _ h,px _ _ 1 _ _ _ h,px _ _ 2 _ _ _ h,px _ _ 3 _ _ _ h,px _ _ 4 _ _ _ h,px _ _ 5 _ _ _ h⟩
theorem gG (op:Int)(w:World):Calls prog 74 #[.int .i64 op] w (RS (.bool (Tx.numbered op)) w):=by
 rcases (by omega:op=0\/op=14\/op=19\/op=20\/op=24\/¬(op=0\/op=14\/op=19\/op=20\/op=24)) with rfl|rfl|rfl|rfl|rfl|h
 ·go_enter func74, ntmps74
  go_wp2;go_ret;exact⟨rfl,rfl⟩
 ·go_enter func74, ntmps74
  go_wp2;go_ret;exact⟨rfl,rfl⟩
 ·go_enter func74, ntmps74
  go_wp2;go_ret;exact⟨rfl,rfl⟩
 ·go_enter func74, ntmps74
  go_wp2;go_ret;exact⟨rfl,rfl⟩
 ·go_enter func74, ntmps74
  go_wp2;go_ret;exact⟨rfl,rfl⟩
 ·have d:Tx.numbered op=false:=by unfold Tx.numbered;simp;omega
  rw[d];have g:(op == 0)=false:=by simp;omega
  have b1:(op == 14)=false:=by simp;omega
  have b2:(op == 19)=false:=by simp;omega
  have j:(op == 20)=false:=by simp;omega
  have l:(op == 24)=false:=by simp;omega
  clear h d
  go_enter func74, ntmps74
  go_wp2;go_ret;exact⟨rfl,rfl⟩
theorem nD (op:Int)(w:World):Calls prog 116 #[.int .i64 op] w (RS (.bool (Tx.numbered op)) w):=by
 have d:Tx.numbered op=(op == 0 || op == 14 || op == 19 || op == 20 || op == 24):=by unfold Tx.numbered;rw[Bool.eq_iff_iff];simp
 rw[d];rcases (by omega:op=0\/op=14\/op=19\/op=20\/op=24\/¬(op=0\/op=14\/op=19\/op=20\/op=24)) with rfl|rfl|rfl|rfl|rfl|h
 all_goals
  (try
    have g:(op == 0)=false:=by simp;omega
    have b1:(op == 14)=false:=by simp;omega
    have b2:(op == 19)=false:=by simp;omega
    have j:(op == 20)=false:=by simp;omega
    have l:(op == 24)=false:=by simp;omega)
  (try rw[g,b1,b2,j,l]);clear d
  go_enter func116, ntmps116
  go_wp2;go_ret;exact⟨rfl,rfl⟩
theorem ek {w w':World}{A:Option Addr}{n c:Nat}{zs:List Int}(h:IntsAt w.heap.size w (.slice A n c) zs)(g:Gr w w'){k:Nat}{z:Int}(hk:zs[k]?=some z):∃b off,A=some ⟨b,off,none⟩/\w'.cell? ⟨b,off+k,none⟩=some (.int .i64 z):=by obtain⟨t,d,e,B,C,m⟩:=h;injection e with l u y;subst l;have r:=(oZ.1 hk).1;obtain⟨b,off,j,q,p⟩:=m (by omega);exact⟨b,off,j,(g.cell _ _ q).trans (p k z hk)⟩
theorem iX (x:Ins)(v:Int)(hp:Tx.PrI x)(hl:x.args.length<=10/\x.to.length<=10)(hv:Tx.Ok v)(vx:Value)(w:World)(hx:jS w.heap.size w vx x)(ht:TabW w) :
  Calls prog 46 #[vx,.int .i64 v] w (RG (.string (bs (Tx.lineS x v))) w):=by
 obtain⟨va,vt,rfl,Q,R⟩:=hx;have ac:=dJ Q;have ad:=dJ R;obtain⟨Aa,ca,rfl,al,-,-⟩:=Q;obtain⟨At,ct,rfl,ar,-,-⟩:=R;obtain⟨q1,q2,q3,q4,q5⟩:=Tx.p5_len hp hv;have qa:=Tx.argsS_len x.args hp.args;have qt:=Tx.toS_len x.to hp.to;have q6:(Tx.p6 x v).length<=163:=by unfold Tx.p6;rw[pT];omega
 have M:Hid (∀z,Tx.Ok z->∀d,Gr w d->Calls prog 73 #[.int .i64 z] d (RG (.string (bs (Tx.num z))) d)):=fun z g d q=>fW z g.1 g.2 d (ht.gr q);have HF:Hid (∀z,Tx.Ok z->∀d,Gr w d->Calls prog 75 #[.int .u64 z,.int .i64 10] d (RG (.string (bs (Tx.num z))) d)):=fun z g d q=>iM z g.1 g.2 d (ht.gr q);have u:=dJ hp;have HV:=dJ hv;have aa:=dJ (Tx.line_pieces x v);have E1:Hid (Tx.p1 x v=if 0<x.width then Tx.num v++[32,61,32] else []):=dJ rfl;have E2:Hid (Tx.p2 x v=Tx.p1 x v++Tx.nameS x.op):=dJ rfl;have E3:Hid (Tx.p3 x v=if 0<x.flags then Tx.p2 x v++46::Tx.num x.flags else Tx.p2 x v):=dJ rfl;have E4:Hid (Tx.p4 x v=if 0<x.width then Tx.p3 x v++32::Tx.num x.width else Tx.p3 x v):=dJ rfl;have E5:Hid (Tx.p5 x v=if Tx.numbered x.op=true then Tx.p4 x v++32::35::Tx.num x.imm else Tx.p4 x v):=dJ rfl;have E6:Hid (Tx.p6 x v=Tx.p5 x v++Tx.argsS x.args):=dJ rfl;obtain⟨n,hn⟩:∃n:Nat,x.op=n:=⟨x.op.toNat,by have:=hp.op.1;omega⟩;have O:n<33:=by have:=hp.op.2;omega
 have ag:(n:Int)<33:=by omega
 have aq:(0:Int)<=(n:Int):=by omega
 have EN:Hid (Tx.nameS x.op=Tx.names.getD n []):=dJ (by rw[hn];rfl);have EB:Hid (x.op=n):=dJ hn
 have ab:Hid (∀d:World,Calls prog 40 #[] d fun e w'=>∃B,e=.returned (.slice (some ⟨B,0,none⟩) 33 33)/\Hid (w'.cell? ⟨B,n,none⟩=some (.string (bs (Tx.nameS x.op))))/\Gr d w'):=dJ fun d =>
  (eC d).mono fun _ _ ⟨h1,h2⟩=>⟨_,h1,by rw[h2,EN.out];exact dJ (dK O d),by rw[h2];exact(qj d).alloc _⟩
 have qn:=Tx.name_len x.op;rw[ef,hn];obtain⟨W,hW,A,D⟩:=lq w (.int .i64 n) (.int .i64 x.width) (.int .i64 x.flags) (.slice Aa x.args.length ca) (.int .u32 x.imm) (.slice At x.to.length ct);obtain⟨k0,k1,k2,k3,k4,k5⟩:=D.out W (qj _);have ao:=hp.imm.1;have ap:x.imm<4294967296:=hp.imm.2;clear hp hv ht hn;have L1:=Tx.num_len HV.out;have L2:=Tx.num_len u.out.flags;have L3:=Tx.num_len u.out.width;have L4:=Tx.num_len u.out.imm
 go_enter func46, ntmps46
 go_upto_if 12 with (fail)
 go_cut [5] (fun s5 C=>s5=.string (bs (Tx.p1 x v))/\Hid (Gr W C))
 case first =>
  by_cases p:0<x.width
  ·have K:∀d:World,(Op.stringOp .add (bs (Tx.num v)) ⟨#[32,61,32]⟩).run prog d=.ok (.string (bs (Tx.num v++[32,61,32]))) d:=fun d=>dq d _ [32,61,32] (by simp;omega);have y:Hid (bs (Tx.p1 x v)=bs (Tx.num v++[32,61,32])):=dJ (by rw[E1.out,pB p]);go_wp2_with (go_at_call 73;refine(M.out _ HV.out _ A.out).mono ?_;rintro e d ⟨rfl,g1⟩;have G1:=dJ g1;clear g1);go_meet;exact⟨by rw[y.out],G1⟩
  ·have y:Hid (bs (Tx.p1 x v)=bs []):=dJ (by rw[E1.out,pC p]);go_wp2;go_meet;exact⟨by rw[y.out];rfl,dJ (qj _)⟩
 case rest =>
  obtain⟨rfl,G1⟩:=hcut;obtain⟨T,U,V,X,Y,Z⟩:=D.out _ G1.out;clear k0 k1 k2 k3 k4 k5;have H:∀d:World,(Op.stringOp .add (bs (Tx.p1 x v)) (bs (Tx.nameS x.op))).run prog d=.ok (.string (bs (Tx.p2 x v))) d:=fun d=>by rw[E2.out];exact dq d _ _ (by omega)
  go_upto_region 4 with (fail)
  go_cut [5] (fun s5 C=>s5=.string (bs (Tx.p2 x v))/\Hid (Gr W C))
  case first =>
   go_region_with (go_at_call 40;(refine(ab.out _).mono ?_);rintro e3 w3 ⟨B,rfl,HC,ae⟩;have L:Hid (Gr W w3):=dJ (G1.out.trans ((qj _).drew.trans ae));have am:=HC.out;obtain⟨c0,-⟩:=D.out _ L.out)
   all_goals (go_wp2_with (fail);go_meet)
   all_goals with_reducible exact⟨rfl,L⟩
  case rest =>
   obtain⟨rfl,G2⟩:=hcut;obtain⟨m0,m1,m2,m3,m4,m5⟩:=D.out _ G2.out;clear T U V X Y Z H
   go_upto_if 25 with (fail)
   go_cut [5] (fun s5 C=>s5=.string (bs (Tx.p3 x v))/\Hid (Gr W C))
   case first =>
    by_cases p:0<x.flags
    ·have K:∀d:World,(Op.stringOp .add ⟨#[46]⟩ (bs (Tx.num x.flags))).run prog d=.ok (.string (bs (46::Tx.num x.flags))) d:=fun d=>dq d [46] _ (by simp;omega);have H:∀d:World,(Op.stringOp .add (bs (Tx.p2 x v)) (bs (46::Tx.num x.flags))).run prog d=.ok (.string (bs (Tx.p3 x v))) d:=fun d=>by rw[E3.out,pB p];exact dq d _ _ (by simp;omega)
     go_wp2_with (go_at_call 73;refine(M.out _ u.out.flags _ (A.out.trans G2.out)).mono ?_;rintro e d ⟨rfl,g1⟩;have I:Hid (Gr W d):=dJ (G2.out.trans g1);clear g1);go_meet;exact⟨rfl,I⟩
    ·have y:Hid (bs (Tx.p3 x v)=bs (Tx.p2 x v)):=dJ (by rw[E3.out,pC p]);go_wp2;go_meet;exact⟨by rw[y.out],G2⟩
   case rest =>
    obtain⟨rfl,I⟩:=hcut;obtain⟨T,U,V,X,Y,Z⟩:=D.out _ I.out;clear m0 m1 m2 m3 m4 m5
    go_upto_if 34 with (fail)
    go_cut [5] (fun s5 C=>s5=.string (bs (Tx.p4 x v))/\Hid (Gr W C))
    case first =>
     by_cases p:0<x.width
     ·have K:∀d:World,(Op.stringOp .add ⟨#[32]⟩ (bs (Tx.num x.width))).run prog d=.ok (.string (bs (32::Tx.num x.width))) d:=fun d=>dq d [32] _ (by simp;omega);have H:∀d:World,(Op.stringOp .add (bs (Tx.p3 x v)) (bs (32::Tx.num x.width))).run prog d=.ok (.string (bs (Tx.p4 x v))) d:=fun d=>by rw[E4.out,pB p];exact dq d _ _ (by simp;omega)
      go_wp2_with (go_at_call 73;refine(M.out _ u.out.width _ (A.out.trans I.out)).mono ?_;rintro e d ⟨rfl,g1⟩;have J:Hid (Gr W d):=dJ (I.out.trans g1);clear g1);go_meet;exact⟨rfl,J⟩
     ·have y:Hid (bs (Tx.p4 x v)=bs (Tx.p3 x v)):=dJ (by rw[E4.out,pC p]);go_wp2;go_meet;exact⟨by rw[y.out],I⟩
    case rest =>
     obtain⟨rfl,J⟩:=hcut;obtain⟨m0,m1,m2,m3,m4,m5⟩:=D.out _ J.out;clear T U V X Y Z
     go_upto_if 43 with (go_at_call 74;refine(gG _ _).mono ?_;rintro e d ⟨rfl,rfl⟩)
     go_cut [5] (fun s5 C=>s5=.string (bs (Tx.p5 x v))/\Hid (Gr W C))
     case first =>
      cases p:Tx.numbered n with
      | true =>
       have K:∀d:World,(Op.stringOp .add ⟨#[32,35]⟩ (bs (Tx.num x.imm))).run prog d=.ok (.string (bs (32::35::Tx.num x.imm))) d:=fun d=>dq d [32,35] _ (by simp;omega);have H:∀d:World,(Op.stringOp .add (bs (Tx.p4 x v)) (bs (32::35::Tx.num x.imm))).run prog d=.ok (.string (bs (Tx.p5 x v))) d:=fun d=>by rw[E5.out,EB.out,pB p];exact dq d _ _ (by simp;omega)
       clear p;go_wp2_with (go_at_call 75;refine(HF.out _ u.out.imm _ (A.out.trans J.out)).mono ?_;rintro e d ⟨rfl,g1⟩;have G5:Hid (Gr W d):=dJ (J.out.trans g1);clear g1);go_meet;exact⟨rfl,G5⟩
      | false =>
       have y:Hid (bs (Tx.p5 x v)=bs (Tx.p4 x v)):=dJ (by rw[E5.out,EB.out,p,pC (by decide)]);clear p;go_wp2;go_meet;exact⟨by rw[y.out],J⟩
     case rest =>
      obtain⟨rfl,G5⟩:=hcut;obtain⟨T,U,V,X,Y,Z⟩:=D.out _ G5.out;clear m0 m1 m2 m3 m4 m5;go_wp2
      go_loopw [5,54] (fun s5 ai wr=>∃k:Nat,k<=x.args.length/\ai=.int .i64 k/\s5=.string (bs (Tx.p5 x v++Tx.argsS (x.args.take k)))/\Hid (Gr W wr)) (fun _ i _=>x.args.length-(intOf i).toNat)
      case atStart=>exact⟨0,pR _,rfl,by simp[Tx.argsS],G5⟩
      case round =>
       obtain⟨k,hk,rfl,rfl,r⟩:=hrel;by_cases N:k<x.args.length
       ·have g:=oY N;obtain⟨z,t⟩:=xJ (x.args[k]);rw[t]at g;obtain⟨b,ah,rfl,af⟩:=ek ac.out (A.out.trans r.out) g;have l:Tx.Ok z:=u.out.args z (pa g);have G:=dJ l;have lz:=Tx.num_len l;have ls:=Tx.argsS_len (x.args.take k) (fun a ha=>u.out.args a (List.mem_of_mem_take ha));have lt:(x.args.take k).length<=10:=by rw[List.length_take];omega
        have K:∀d:World,(Op.stringOp .add ⟨#[32]⟩ (bs (Tx.num z))).run prog d=.ok (.string (bs (32::Tx.num z))) d:=fun d=>dq d [32] _ (by simp;omega)
        have H:∀d:World,(Op.stringOp .add (bs (Tx.p5 x v++Tx.argsS (x.args.take k))) (bs (32::Tx.num z))).run prog d=.ok (.string (bs (Tx.p5 x v++Tx.argsS (x.args.take (k+1))))) d:=fun d=>by rw[Tx.argsS_snoc g,<-List.append_assoc];exact dq d _ _ (by simp;omega)
        clear g t l lz ls lt;go_wp2_with (go_at_call 73;refine(M.out _ G.out _ (A.out.trans r.out)).mono ?_;rintro e d ⟨rfl,g1⟩;have F:Hid (Gr W d):=dJ (r.out.trans g1);clear g1);go_roundw;case rel=>exact⟨k+1,by omega,rfl,rfl,F⟩
        case measure=>simp[intOf]<;>omega
       ·have m:k=x.args.length:=by omega
        have F6:Hid (bs (Tx.p5 x v++Tx.argsS (x.args.take k))=bs (Tx.p6 x v)):=dJ (by rw[E6.out,m,pE]);have ak:=dJ m;obtain⟨m0,m1,m2,m3,m4,m5⟩:=D.out _ r.out;clear T U V X Y Z m;have hd:decide (k<x.args.length)=false:=by simpa using N
        go_wp2
        go_loopw [5,67] (fun s5 aj wq=>∃j:Nat,j<=x.to.length/\aj=.int .i64 j/\s5=.string (bs (Tx.p6 x v++Tx.toS (x.to.take j)))/\Hid (Gr W wq)) (fun _ i _=>x.to.length-(intOf i).toNat)
        case atStart=>exact⟨0,pR _,rfl,by rw[F6.out];simp[Tx.toS],r⟩
        case round =>
         clear r;obtain⟨j,hj,rfl,rfl,r⟩:=hrel;by_cases E:j<x.to.length
         ·have g:=oY E;obtain⟨z,t⟩:=xJ (x.to[j]);rw[t]at g;obtain⟨b,ah,rfl,af⟩:=ek ad.out (A.out.trans r.out) g;have l:Tx.Ok z:=u.out.to z (pa g);have G:=dJ l;have lz:=Tx.num_len l;have ls:=Tx.toS_len (x.to.take j) (fun a ha=>u.out.to a (List.mem_of_mem_take ha));have lt:(x.to.take j).length<=10:=by rw[List.length_take];omega
          have K:∀d:World,(Op.stringOp .add ⟨#[32,64]⟩ (bs (Tx.num z))).run prog d=.ok (.string (bs (32::64::Tx.num z))) d:=fun d=>dq d [32,64] _ (by simp;omega)
          have H:∀d:World,(Op.stringOp .add (bs (Tx.p6 x v++Tx.toS (x.to.take j))) (bs (32::64::Tx.num z))).run prog d=.ok (.string (bs (Tx.p6 x v++Tx.toS (x.to.take (j+1))))) d:=fun d=>by rw[Tx.toS_snoc g,<-List.append_assoc];exact dq d _ _ (by simp;omega)
          clear g t l lz ls lt;go_wp2_with (go_at_call 73;refine(M.out _ G.out _ (A.out.trans r.out)).mono ?_;rintro e d ⟨rfl,g1⟩;have F:Hid (Gr W d):=dJ (r.out.trans g1);clear g1);go_roundw;case rel=>exact⟨j+1,by omega,rfl,rfl,F⟩
          case measure=>simp[intOf]<;>omega
         ·have m:j=x.to.length:=by omega
          have F7:Hid (bs (Tx.p6 x v++Tx.toS (x.to.take j))=bs (Tx.lineS x v)):=dJ (by rw[aa.out,m,pE]);have an:decide (j<x.to.length)=false:=by simpa using E
          clear m;go_wp2;go_ret;exact⟨by rw[F7.out];rfl,A.out.trans r.out⟩
theorem mm (x:Ins)(v:Int)(hp:Tx.PrI x)(hl:x.args.length<=10/\x.to.length<=10)(hv:Tx.Ok v)(vx:Value)(w:World)(hx:jS w.heap.size w vx x)(ht:TabW w) :
  Calls prog 76 #[vx,.int .i64 v] w (RG (.string (bs (Tx.lineS x v))) w):=by
 obtain⟨va,vt,rfl,V,X⟩:=hx;have ac:=dJ V;have ad:=dJ X;obtain⟨Aa,ca,rfl,ai,-,-⟩:=V;obtain⟨At,ct,rfl,ao,-,-⟩:=X;obtain⟨q1,q2,q3,q4,q5⟩:=Tx.p5_len hp hv;have qa:=Tx.argsS_len x.args hp.args;have qt:=Tx.toS_len x.to hp.to;have q6:(Tx.p6 x v).length<=163:=by unfold Tx.p6;rw[pT];omega
 have Q:Hid (∀z,Tx.Ok z->∀d,Gr w d->Calls prog 73 #[.int .i64 z] d (RG (.string (bs (Tx.num z))) d)):=fun z g d q=>fW z g.1 g.2 d (ht.gr q);have HF:Hid (∀z,Tx.Ok z->∀d,Gr w d->Calls prog 75 #[.int .u64 z,.int .i64 10] d (RG (.string (bs (Tx.num z))) d)):=fun z g d q=>iM z g.1 g.2 d (ht.gr q);have y:=dJ hp;have HV:=dJ hv;have aa:=dJ (Tx.line_pieces x v);have E1:Hid (Tx.p1 x v=if 0<x.width then Tx.num v++[32,61,32] else []):=dJ rfl;have E2:Hid (Tx.p2 x v=Tx.p1 x v++Tx.nameS x.op):=dJ rfl;have E3:Hid (Tx.p3 x v=if 0<x.flags then Tx.p2 x v++46::Tx.num x.flags else Tx.p2 x v):=dJ rfl;have E4:Hid (Tx.p4 x v=if 0<x.width then Tx.p3 x v++32::Tx.num x.width else Tx.p3 x v):=dJ rfl;have E5:Hid (Tx.p5 x v=if Tx.numbered x.op=true then Tx.p4 x v++32::35::Tx.num x.imm else Tx.p4 x v):=dJ rfl;have E6:Hid (Tx.p6 x v=Tx.p5 x v++Tx.argsS x.args):=dJ rfl;obtain⟨n,Z⟩:∃n:Nat,x.op=n:=⟨x.op.toNat,by have:=hp.op.1;omega⟩;have U:n<33:=by have:=hp.op.2;omega
 have ag:(n:Int)<33:=by omega
 have an:(0:Int)<=(n:Int):=by omega
 have EN:Hid (Tx.nameS x.op=Tx.names.getD n []):=dJ (by rw[Z];rfl);have EB:Hid (x.op=n):=dJ Z
 have ab:Hid (∀d:World,Calls prog 41 #[] d fun e w'=>∃B,e=.returned (.slice (some ⟨B,0,none⟩) 33 33)/\Hid (w'.cell? ⟨B,n,none⟩=some (.string (bs (Tx.nameS x.op))))/\Gr d w'):=dJ fun d =>
  (eD d).mono fun _ _ ⟨h1,h2⟩=>⟨_,h1,by rw[h2,EN.out];exact dJ (dK U d),by rw[h2];exact(qj d).alloc _⟩
 have qn:=Tx.name_len x.op;rw[ef,Z];obtain⟨W,hW,A,D⟩:=lq w (.int .i64 n) (.int .i64 x.width) (.int .i64 x.flags) (.slice Aa x.args.length ca) (.int .u32 x.imm) (.slice At x.to.length ct);obtain⟨k0,k1,k2,k3,k4,k5⟩:=D.out W (qj _);have al:=hp.imm.1;have am:x.imm<4294967296:=hp.imm.2;clear hp hv ht Z;have L1:=Tx.num_len HV.out;have L2:=Tx.num_len y.out.flags;have L3:=Tx.num_len y.out.width;have L4:=Tx.num_len y.out.imm
 go_enter func76, ntmps76
 go_upto_region 1 with (fail)
 go_cut [5] (fun s5 C=>s5=.string (bs (Tx.nameS x.op))/\Hid (Gr W C))
 case first =>
  go_region_with (go_at_call 41;(refine(ab.out _).mono ?_);rintro e3 w3 ⟨B,rfl,HC,ae⟩;have O:Hid (Gr W w3):=dJ ((qj _).drew.trans ae);have aj:=HC.out;obtain⟨c0,-⟩:=D.out _ O.out)
  all_goals (go_wp2_with (fail);go_meet)
  all_goals with_reducible exact⟨rfl,O⟩
 case rest =>
  obtain⟨rfl,Y⟩:=hcut;obtain⟨l0,l1,l2,l3,l4,l5⟩:=D.out _ Y.out;clear k0 k1 k2 k3 k4 k5
  go_upto_if 15 with (fail)
  go_cut [5] (fun s5 C=>s5=.string (bs (Tx.p2 x v))/\Hid (Gr W C))
  case first =>
   by_cases m:0<x.width
   ·have M:∀d:World,(Op.stringOp .add (bs (Tx.num v)) ⟨#[32,61,32]⟩).run prog d=.ok (.string (bs (Tx.num v++[32,61,32]))) d:=fun d=>dq d _ [32,61,32] (by simp;omega);have N:∀d:World,(Op.stringOp .add (bs (Tx.num v++[32,61,32])) (bs (Tx.nameS x.op))).run prog d=.ok (.string (bs (Tx.p2 x v))) d:=fun d=>by rw[E2.out,E1.out,pB m];exact dq d _ _ (by simp;omega)
    go_wp2_with (go_at_call 73;refine(Q.out _ HV.out _ (A.out.trans Y.out)).mono ?_;rintro e d ⟨rfl,g1⟩;have I:Hid (Gr W d):=dJ (Y.out.trans g1);clear g1);go_meet;exact⟨rfl,I⟩
   ·have F:Hid (bs (Tx.p2 x v)=bs (Tx.nameS x.op)):=dJ (by rw[E2.out,E1.out,pC m];rfl);go_wp2;go_meet;exact⟨by rw[F.out],Y⟩
  case rest =>
   obtain⟨rfl,I⟩:=hcut;obtain⟨m0,m1,m2,m3,m4,L⟩:=D.out _ I.out;clear l0 l1 l2 l3 l4 l5
   go_upto_if 23 with (fail)
   go_cut [5] (fun s5 C=>s5=.string (bs (Tx.p3 x v))/\Hid (Gr W C))
   case first =>
    by_cases m:0<x.flags
    ·have M:∀d:World,(Op.stringOp .add (bs (Tx.p2 x v)) ⟨#[46]⟩).run prog d=.ok (.string (bs (Tx.p2 x v++[46]))) d:=fun d=>dq d _ [46] (by simp;omega);have N:∀d:World,(Op.stringOp .add (bs (Tx.p2 x v++[46])) (bs (Tx.num x.flags))).run prog d=.ok (.string (bs (Tx.p3 x v))) d:=fun d=>by rw[E3.out,pB m,dq d _ _ (by simp;omega),List.append_assoc];rfl
     go_wp2_with (go_at_call 73;refine(Q.out _ y.out.flags _ (A.out.trans I.out)).mono ?_;rintro e d ⟨rfl,g1⟩;have J:Hid (Gr W d):=dJ (I.out.trans g1);clear g1);go_meet;exact⟨rfl,J⟩
    ·have F:Hid (bs (Tx.p3 x v)=bs (Tx.p2 x v)):=dJ (by rw[E3.out,pC m]);go_wp2;go_meet;exact⟨by rw[F.out],I⟩
   case rest =>
    obtain⟨rfl,J⟩:=hcut;obtain⟨l0,l1,l2,l3,l4,l5⟩:=D.out _ J.out;clear m0 m1 m2 m3 m4 L
    go_upto_if 32 with (fail)
    go_cut [5] (fun s5 C=>s5=.string (bs (Tx.p4 x v))/\Hid (Gr W C))
    case first =>
     by_cases m:0<x.width
     ·have M:∀d:World,(Op.stringOp .add (bs (Tx.p3 x v)) ⟨#[32]⟩).run prog d=.ok (.string (bs (Tx.p3 x v++[32]))) d:=fun d=>dq d _ [32] (by simp;omega);have N:∀d:World,(Op.stringOp .add (bs (Tx.p3 x v++[32])) (bs (Tx.num x.width))).run prog d=.ok (.string (bs (Tx.p4 x v))) d:=fun d=>by rw[E4.out,pB m,dq d _ _ (by simp;omega),List.append_assoc];rfl
      go_wp2_with (go_at_call 73;refine(Q.out _ y.out.width _ (A.out.trans J.out)).mono ?_;rintro e d ⟨rfl,g1⟩;have K:Hid (Gr W d):=dJ (J.out.trans g1);clear g1);go_meet;exact⟨rfl,K⟩
     ·have F:Hid (bs (Tx.p4 x v)=bs (Tx.p3 x v)):=dJ (by rw[E4.out,pC m]);go_wp2;go_meet;exact⟨by rw[F.out],J⟩
    case rest =>
     obtain⟨rfl,K⟩:=hcut;obtain⟨m0,m1,m2,m3,m4,L⟩:=D.out _ K.out;clear l0 l1 l2 l3 l4 l5
     go_upto_if 41 with (go_at_call 116;refine(nD _ _).mono ?_;rintro e d ⟨rfl,rfl⟩)
     go_cut [5] (fun s5 C=>s5=.string (bs (Tx.p5 x v))/\Hid (Gr W C))
     case first =>
      cases m:Tx.numbered n with
      | true =>
       have M:∀d:World,(Op.stringOp .add (bs (Tx.p4 x v)) ⟨#[32,35]⟩).run prog d=.ok (.string (bs (Tx.p4 x v++[32,35]))) d:=fun d=>dq d _ [32,35] (by simp;omega);have N:∀d:World,(Op.stringOp .add (bs (Tx.p4 x v++[32,35])) (bs (Tx.num x.imm))).run prog d=.ok (.string (bs (Tx.p5 x v))) d:=fun d=>by rw[E5.out,EB.out,pB m,dq d _ _ (by simp;omega),List.append_assoc];rfl
       clear m;go_wp2_with (go_at_call 75;refine(HF.out _ y.out.imm _ (A.out.trans K.out)).mono ?_;rintro e d ⟨rfl,g1⟩;have G5:Hid (Gr W d):=dJ (K.out.trans g1);clear g1);go_meet;exact⟨rfl,G5⟩
      | false =>
       have F:Hid (bs (Tx.p5 x v)=bs (Tx.p4 x v)):=dJ (by rw[E5.out,EB.out,m,pC (by decide)]);clear m;go_wp2;go_meet;exact⟨by rw[F.out],K⟩
     case rest =>
      obtain⟨rfl,G5⟩:=hcut;clear m0 m1 m2 m3 m4 L;go_wp2
      go_loopw [5,6] (fun s5 s6 wr=>∃k:Nat,k<=x.args.length/\s6=.int .i64 k/\s5=.string (bs (Tx.p5 x v++Tx.argsS (x.args.take k)))/\Hid (Gr W wr)) (fun _ i _=>x.args.length-(intOf i).toNat)
      case atStart=>exact⟨0,pR _,rfl,by simp[Tx.argsS],G5⟩
      case round =>
       obtain⟨k,hk,rfl,rfl,p⟩:=hrel;obtain⟨m0,m1,m2,m3,m4,L⟩:=D.out _ p.out;by_cases T:k<x.args.length
       ·have g:=oY T;obtain⟨z,u⟩:=xJ (x.args[k]);rw[u]at g;obtain⟨b,ah,rfl,af⟩:=ek ac.out (A.out.trans p.out) g;have l:Tx.Ok z:=y.out.args z (pa g);have H:=dJ l;have lz:=Tx.num_len l;have ls:=Tx.argsS_len (x.args.take k) (fun a ha=>y.out.args a (List.mem_of_mem_take ha));have lt:(x.args.take k).length<=10:=by rw[List.length_take];omega
        obtain⟨t,R⟩:∃t,Hid (t=Tx.p5 x v++Tx.argsS (x.args.take k)++[32]):=⟨_,dJ rfl⟩;have M:∀d:World,(Op.stringOp .add (bs (Tx.p5 x v++Tx.argsS (x.args.take k))) ⟨#[32]⟩).run prog d=.ok (.string (bs t)) d:=fun d=>by rw[R.out];exact dq d _ [32] (by simp;omega)
        have N:∀d:World,(Op.stringOp .add (bs t) (bs (Tx.num z))).run prog d=.ok (.string (bs (Tx.p5 x v++Tx.argsS (x.args.take (k+1))))) d:=fun d=>by rw[R.out,Tx.argsS_snoc g,dq d _ _ (by simp;omega)];simp
        clear g u l lz ls lt;go_wp2_with (go_at_call 73;refine(Q.out _ H.out _ (A.out.trans p.out)).mono ?_;rintro e d ⟨rfl,g1⟩;have G:Hid (Gr W d):=dJ (p.out.trans g1);clear g1);go_roundw;case rel=>exact⟨k+1,by omega,rfl,rfl,G⟩
        case measure=>simp[intOf]<;>omega
       ·have r:k=x.args.length:=by omega
        have F6:Hid (bs (Tx.p5 x v++Tx.argsS (x.args.take k))=bs (Tx.p6 x v)):=dJ (by rw[E6.out,r,pE]);clear r;have hd:decide (k<x.args.length)=false:=by simpa using T
        go_wp2
        go_loopw [5,7] (fun s5 s7 wq=>∃j:Nat,j<=x.to.length/\s7=.int .i64 j/\s5=.string (bs (Tx.p6 x v++Tx.toS (x.to.take j)))/\Hid (Gr W wq)) (fun _ i _=>x.to.length-(intOf i).toNat)
        case atStart=>exact⟨0,pR _,rfl,by rw[F6.out];simp[Tx.toS],p⟩
        case round =>
         clear p m0 m1 m2 m3 m4 L;obtain⟨j,hj,rfl,rfl,p⟩:=hrel;obtain⟨m0,m1,m2,m3,m4,L⟩:=D.out _ p.out;by_cases E:j<x.to.length
         ·have g:=oY E;obtain⟨z,u⟩:=xJ (x.to[j]);rw[u]at g;obtain⟨b,ah,rfl,af⟩:=ek ad.out (A.out.trans p.out) g;have l:Tx.Ok z:=y.out.to z (pa g);have H:=dJ l;have lz:=Tx.num_len l;have ls:=Tx.toS_len (x.to.take j) (fun a ha=>y.out.to a (List.mem_of_mem_take ha));have lt:(x.to.take j).length<=10:=by rw[List.length_take];omega
          obtain⟨t,R⟩:∃t,Hid (t=Tx.p6 x v++Tx.toS (x.to.take j)++[32,64]):=⟨_,dJ rfl⟩;have M:∀d:World,(Op.stringOp .add (bs (Tx.p6 x v++Tx.toS (x.to.take j))) ⟨#[32,64]⟩).run prog d=.ok (.string (bs t)) d:=fun d=>by rw[R.out];exact dq d _ [32,64] (by simp;omega)
          have N:∀d:World,(Op.stringOp .add (bs t) (bs (Tx.num z))).run prog d=.ok (.string (bs (Tx.p6 x v++Tx.toS (x.to.take (j+1))))) d:=fun d=>by rw[R.out,Tx.toS_snoc g,dq d _ _ (by simp;omega)];simp
          clear g u l lz ls lt;go_wp2_with (go_at_call 73;refine(Q.out _ H.out _ (A.out.trans p.out)).mono ?_;rintro e d ⟨rfl,g1⟩;have G:Hid (Gr W d):=dJ (p.out.trans g1);clear g1);go_roundw;case rel=>exact⟨j+1,by omega,rfl,rfl,G⟩
          case measure=>simp[intOf]<;>omega
         ·have r:j=x.to.length:=by omega
          have F7:Hid (bs (Tx.p6 x v++Tx.toS (x.to.take j))=bs (Tx.lineS x v)):=dJ (by rw[aa.out,r,pE]);have ak:decide (j<x.to.length)=false:=by simpa using E
          clear r;go_wp2;go_ret;exact⟨by rw[F7.out];rfl,A.out.trans p.out⟩
namespace Tx
def h0 (f:Fn):S:=[102,117,110,99]++argsS f.params++([32,58,32]++num f.ret++[32,58])
theorem head_pieces (f:Fn):unw (headW f)=h0 f++argsS f.slots:=by unfold headW h0 argsS unw;simp only[List.flatMap_append,List.flatMap_cons,flat_map];simp
def upTo (f:Fn)(k:Nat):List S:=unw (headW f)::linesFrom (f.blocks.take k) 0 f.params.length
def upIn (f:Fn)(k j:Nat)(l:List Ins):List S:=upTo f k++(num (k:Int)++[58])::insLines (l.take j) (Ref.number f k)
theorem upTo_zero (f:Fn):upTo f 0=[unw (headW f)]:=rfl
theorem upTo_all (f:Fn):upTo f f.blocks.length=linesS f:=by unfold upTo linesS;rw[pE]
theorem linesFrom_snoc (l:List Ins):∀(bs:List (List Ins))(b v:Int),linesFrom (bs++[l]) b v=linesFrom bs b v++(num (b+bs.length)++[58])::insLines l (v+Ref.total bs)
 | [],b,v=>by simp[linesFrom,Ref.total]
 | m::r,b,v=>by
  rw[List.cons_append,linesFrom,linesFrom_snoc l r,linesFrom,Ref.total_cons,List.length_cons]
  rw[List.cons_append,List.append_assoc]
  rw[show b+1+(r.length:Int)=b+((r.length+1:Nat):Int) by push_cast;omega,show v+(m.length:Int)+(Ref.total r:Int)=v+((m.length+Ref.total r:Nat):Int) by push_cast;omega]
theorem upTo_succ {f:Fn}{k:Nat}{l:List Ins}(h:f.blocks[k]?=some l):upTo f (k+1)=upIn f k l.length l:=by
 unfold upIn upTo;rw[List.take_add_one,h,pE];show _::linesFrom (f.blocks.take k++[l]) 0 _=_;have d:(f.blocks.take k).length=k:=by rw[List.length_take];have:=(oZ.1 h).1;omega
 rw[linesFrom_snoc,d,List.cons_append,show (0:Int)+(k:Int)=k by omega,show (f.params.length:Int)+(Ref.total (f.blocks.take k):Int)=((Ref.number f k:Nat):Int) by unfold Ref.number;push_cast;rfl]
theorem insLines_snoc (x:Ins):∀(l:List Ins)(v:Int),insLines (l++[x]) v=insLines l v++[lineS x (v+l.length)]
 | [],v=>by simp[insLines]
 | y::r,v=>by rw[List.cons_append,insLines,insLines_snoc x r,insLines,List.cons_append,List.length_cons,show v+1+(r.length:Int)=v+((r.length+1:Nat):Int) by push_cast;omega]
theorem upIn_zero (f:Fn)(k:Nat)(l:List Ins):upIn f k 0 l=upTo f k++[num (k:Int)++[58]]:=by unfold upIn;simp[insLines]
theorem upIn_succ {f:Fn}{k j:Nat}{l:List Ins}{x:Ins}(hx:l[j]?=some x):upIn f k (j+1) l=upIn f k j l++[lineS x ((Ref.number f k+j:Nat):Int)]:=by
 unfold upIn;have d:(l.take j).length=j:=by rw[List.length_take];have:=(oZ.1 hx).1;omega
 rw[List.take_add_one,hx];show _++_::insLines (l.take j++[x]) _=_;rw[insLines_snoc,d]
 push_cast
 simp
theorem upTo_len (f:Fn)(k:Nat):(upTo f k).length<=1+f.blocks.length+Ref.total f.blocks:=by
 unfold upTo;rw[List.length_cons,linesFrom_len,List.length_take];have:=Ref.total_take_le f.blocks k f.blocks.length;rcases pF k f.blocks.length with h|h
 ·have:=this (by omega);rw[pE]at this;omega
 ·rw[pq h];omega
theorem upIn_len {f:Fn}{k j:Nat}{l:List Ins}:(upIn f k j l).length<=2+f.blocks.length+Ref.total f.blocks+j:=by unfold upIn;have:=upTo_len f k;rw[pT,List.length_cons,insLines_len,List.length_take];omega
end Tx
theorem lK:((prog).info? 9).map (fun i=>(i.zero,i.size,i.bytes))=some (some (.string ByteArray.empty),1,16):=by kernel_rfl
theorem oC {w:World}{ops:Array Oper}{rest:List Oper}{o:Oper}{a:Act}{Q:Exit->Act->World->Prop}{B:Nat}
  (hgd:o.guard=none) (s x:Operand) (ho:o.op=.call {callee:=.builtin .append,args:=#[s,x],argTypes:=#[58,58]})
  {v:Value} {ws:List (List UInt8)} (hs:a.eval s=v) (hown:Own1 B 9 w v (es ws)) (y:List UInt8) {e':TypeId} (hx:a.eval x=.slice (some ⟨w.heap.size,0,none⟩) 1 1) (hlt:ws.length<1099511627776) (hB:B<=w.heap.size)
  (h:∀A c w',Own1 B 9 w' (.slice A (ws.length+1) c) (es (ws++[y]))->Below B w w'->(w.alloc (.cells #[.string (bs y)] e')).grownBy w' v.ownBlock->wpList prog ops Q rest (a.put o.dst (.slice A (ws.length+1) c)) w') :
  wpList prog ops Q (o::rest) a (w.alloc (.cells #[.string (bs y)] e')):=by
 obtain⟨i0,q,g,j,l⟩:=info_parts lK;have r:(es ws).length=ws.length:=pv _;refine nF (i:=i0) (z:=.string ByteArray.empty) (bytes:=16) underlying58 q g j l rfl (by omega) hgd s x ho hs hown (y:=.string (bs y)) rfl hx (by omega) hB ?_;intro A c w' d m p;rw[r]at d ⊢;unfold es at h;rw[List.map_append]at h;exact h A c w' d m p
theorem lZ {B:Nat}(w:World)(y:List UInt8)(hB:B<=w.heap.size):Own1 B 9 (w.alloc (.cells #[.string (bs y)] 9)) (.slice (some ⟨w.heap.size,0,none⟩) 1 1) (es [y]) :=
 ⟨rfl,.inr ⟨w.heap.size,1,#[.string (bs y)],rfl,hB,heap_alloc_new w _,pS _,by simp[maxLen],rfl,rfl⟩⟩
theorem gS {w:World}{B:Nat}{v:Value}{ws:List (List UInt8)}(h:Own1 B 9 w v (es ws))(hn:ws.length<=100000):WordsF B w v ws:=by
 have C:(es ws).length=ws.length:=pv _;obtain⟨A,c,p⟩:=h.form;have d:=h;unfold Own1 at d;rw[C]at d p;subst p
 have z:ws.length<=c:=by
  rcases d.2 with ⟨e,h0⟩|⟨g,q,r,e,-,-,F,-⟩
  ·injection e with _ _ e;omega
  ·injection e with _ _ e;omega
 refine⟨A,c,rfl,z,by omega,fun E=>?_⟩;obtain⟨b,rfl,y,t,u⟩:=dr d rfl E;refine⟨b,0,rfl,t,y,fun j l m=>?_⟩;have D:=(oZ.1 m).1;rw[Nat.zero_add,u j (by omega)];exact mM m
theorem gq {w:World}{B:Nat}{v:Value}{ws:List (List UInt8)}(h:Own1 B 9 w v (es ws))(hn:ws.length<=100000):WordsIn w v ws:=(gS h hn).words
theorem dz (w:World)(v0 v1 v2 v3:Value):∃W,w.alloc (.cells #[v0,v1,v2,v3] 25)=W/\Hid (Gr w W)/\Hid (∀w',Gr W w'->w'.cell? ⟨w.heap.size,0,none⟩=some v0/\w'.cell? ⟨w.heap.size,1,none⟩=some v1/\w'.cell? ⟨w.heap.size,2,none⟩=some v2/\w'.cell? ⟨w.heap.size,3,none⟩=some v3):=by refine⟨_,rfl,dJ ((qj w).alloc _),dJ fun w' q=>?_⟩;have h:=(q.heap w.heap.size (by simp)).trans (heap_alloc_new w _);exact⟨px _ _ 0 _ _ _ h,px _ _ 1 _ _ _ h,px _ _ 2 _ _ _ h,px _ _ 3 _ _ _ h⟩
def LW (W wr:World)(vo:Value)(ls:List (List UInt8)):Prop:=Own1 W.heap.size 9 wr vo (es ls)/\Gr W wr
theorem LW.gr {W wr w':World}{vo:Value}{ls:List (List UInt8)}(h:LW W wr vo ls)(g:Gr wr w'):LW W w' vo ls:=⟨h.1.gr g,h.2.trans g⟩
theorem ic {w w':World}{A:Option Addr}{n c:Nat}{fb:List (List Ins)}(h:BlksAt w.heap.size w (.slice A n c) fb)(g:Gr w w'){k:Nat}{l:List Ins}(hk:fb[k]?=some l):∃b off Al cl,A=some ⟨b,off,none⟩/\w'.cell? ⟨b,off+k,none⟩=some (.slice Al l.length cl)/\Hid (BlkAt w.heap.size w (.slice Al l.length cl) l)/\l.length<=cl:=by obtain⟨D,m,e,G,H,r⟩:=h;injection e with q E F;subst q;have z:=(oZ.1 hk).1;obtain⟨b,off,p,y,t⟩:=r (by omega);obtain⟨u,B,d⟩:=t k l hk;have j:=d;obtain⟨Al,cl,rfl,C,-,-⟩:=d;exact⟨b,off,Al,cl,p,(g.cell _ _ y).trans B,dJ j,C⟩
theorem ju {w w':World}{A:Option Addr}{n c:Nat}{l:List Ins}(h:BlkAt w.heap.size w (.slice A n c) l)(g:Gr w w'){k:Nat}{x:Ins}(hk:l[k]?=some x):∃b off Aa ca At ct,A=some ⟨b,off,none⟩/\(w'.cell? ⟨b,off+k*6,none⟩=some (.int .i64 x.op)/\w'.cell? ⟨b,off+k*6+1,none⟩=some (.int .i64 x.width)/\w'.cell? ⟨b,off+k*6+2,none⟩=some (.int .i64 x.flags) /\
    w'.cell? ⟨b,off+k*6+3,none⟩=some (.slice Aa x.args.length ca)/\w'.cell? ⟨b,off+k*6+4,none⟩=some (.int .u32 x.imm)/\w'.cell? ⟨b,off+k*6+5,none⟩=some (.slice At x.to.length ct))/\Hid (jS w.heap.size w (ef x (.slice Aa x.args.length ca) (.slice At x.to.length ct)) x):=by
 obtain⟨I,r,e,L,M,y⟩:=h;injection e with u J K;subst u;have B:=(oZ.1 hk).1;obtain⟨b,off,t,d,z⟩:=y (by omega);obtain⟨va,vt,C,D,E,F,G,H,j,p⟩:=z k x hk;have m:=j;have q:=p;obtain⟨Aa,ca,rfl,-,-,-⟩:=j;obtain⟨At,ct,rfl,-,-,-⟩:=p;exact⟨b,off,Aa,ca,At,ct,t,⟨(g.cell _ _ d).trans C,(g.cell _ _ d).trans D,(g.cell _ _ d).trans E,(g.cell _ _ d).trans F,(g.cell _ _ d).trans G,(g.cell _ _ d).trans H⟩,dJ ⟨_,_,rfl,m,q⟩⟩
theorem jt {a b:World}{v:Value}{x:Ins}(h:jS a.heap.size a v x)(g:Gr a b):jS b.heap.size b v x:=by obtain⟨va,vt,e,d,j⟩:=h;exact⟨va,vt,e,d.gr g,j.gr g⟩
