/- Parts. -/
import Derived.Test.YthfhamagopbgcaaGreatK39
set_option linter.unusedSimpArgs false
set_option linter.unusedVariables false
set_option maxRecDepth 100000
set_option maxHeartbeats 16000000
open Go.Proofs.Tryz
namespace Go.Proofs.YthfhamagopbgcaaGreat
section
open Go.RowKit
theorem fm:∀a b:List Rn.V,dy (a++b)=dy a++dy b
 | [],b=>rfl
 | x::r,b=>by simp only[List.cons_append,dy,fm r b]
def VsAt (w:World)(v:Value)(l:List Rn.V):Prop:=∃B,w.ownsRow B 37 3 v l.length (dy l)
section
variable {w w':World}{v:Value}{l:List Rn.V}
theorem VsAt.gr (h:VsAt w v l)(g:Gr w w'):VsAt w' v l:=by obtain⟨B,h⟩:=h;exact⟨B,ew h g⟩
theorem VsAt.form (h:VsAt w v l):∃A c,v=.slice A l.length c/\l.length<=c:=by obtain⟨B,h⟩:=h;obtain⟨A,c,e,d,-⟩:=dU h;exact⟨A,c,e,d⟩
theorem VsAt.cells (h:VsAt w v l){k:Nat}{y:Rn.V}(hy:l[k]?=some y):∃b c,v=.slice (some ⟨b,0,none⟩) l.length c/\l.length<=c/\b<w.heap.size/\w.cell? ⟨b,k*3,none⟩=some (.bool y.p)/\w.cell? ⟨b,k*3+1,none⟩=some (.int .i64 y.s)/\w.cell? ⟨b,k*3+2,none⟩=some (.int .u32 y.n):=by obtain⟨B,h⟩:=h;obtain⟨A,c,rfl,q,-⟩:=dU h;have t:=(yq.1 hy).1;obtain⟨b,rfl,r,-,d⟩:=dz h rfl (by omega);obtain⟨g,j,m⟩:=dZ l k y hy;rw[Nat.mul_comm]at g j m;exact⟨b,c,rfl,q,r,(d _ (by omega)).trans g,(d _ (by omega)).trans j,(d _ (by omega)).trans m⟩
end
theorem tV:(prog.info? 37).map (fun i=>(i.zero,i.size,i.bytes))=some (some (.agg #[.bool false,.int .i64 0,.int .u32 0]),3,24):=by kernel_rfl
theorem jP {w a b:World}{row:Option Nat}(g:Gr w a)(h:a.grownBy b row)(hr:∀k,row=some k->w.heap.size<=k):Gr w b :=
 ⟨h.os.trans g.os,h.tape.trans g.tape,h.output.trans g.output,Nat.le_trans g.size h.size,fun k d=>(h.block k (by have:=g.size;omega) (fun e=>by have:=hr k e.symm;omega)).trans (g.heap k d)⟩
theorem lh {B B' n n' sz sz':Nat}{e e':TypeId}{w:World}{v v':Value}{xs ys:List Value}(h:w.ownsRow B e sz v n xs)(h':w.ownsRow B' e' sz' v' n' ys)(hne:e≠e'):∀k,v.ownBlock=some k->v'.ownBlock≠some k:=by
 intro k j l
 have f:∀{B n sz:Nat} {e:TypeId} {v:Value} {xs:List Value},w.ownsRow B e sz v n xs->v.ownBlock=some k->∃d,w.heap[k]?=some (.cells d e (0,0)):=by
  intro B n sz e v xs h j;rcases h.2 with ⟨rfl,_⟩|⟨g,m,d,rfl,y,p,_⟩
  ·simp[Value.ownBlock]at j
  ·simp[Value.ownBlock]at j;subst j;exact⟨d,p⟩
 obtain⟨t,q⟩:=f h j;obtain⟨u,r⟩:=f h' l;exact gs q r hne rfl
theorem lo {P:Program}{w:World}{ops:Array Oper}{o:Oper}{a:Act}{K:Act->World->Prop}{Q:Exit->Act->World->Prop}{F:Prop}{B n:Nat}{t e:TypeId}{i:TypeInfo}{z:Value}{bytes:Nat}
  (ht:P.underlying t=some (.slice e)) (hi:P.info? e=some i) (hz:i.zero=some z) (hsize:i.size=3) (hby:i.bytes=bytes) (hzs:z.cells.size=3) (hbb:bytes<=128)
  (hgd:o.guard=none) (s x:Operand) (ho:o.op=.call {callee:=.builtin .append,args:=#[s,x],argTypes:=#[t,t]})
  {v:Value} {l:List Rn.V} (hn:l.length=n) (hs:a.eval s=v) (hown:w.ownsRow B e 3 v n (dy l)) {y:Rn.V} {e':TypeId} (hx:a.eval x=.slice (some ⟨w.heap.size,0,none⟩) 1 1) (hlt:n<1099511627776) (hB:B<=w.heap.size)
  (h:∀A c w',w'.ownsRow B e 3 (.slice A (n+1) c) (n+1) (dy (l++[y]))->(w.alloc (.cells #[.bool y.p,.int .i64 y.s,.int .u32 y.n] e')).grownBy w' v.ownBlock->K (a.put o.dst (.slice A (n+1) c)) w') :
  if Region.wanted o (yielded ops a.tmps)=true then Oper.wp P o a (w.alloc (.cells #[.bool y.p,.int .i64 y.s,.int .u32 y.n] e')) K Q else F:=by
 have r:Region.wanted o (yielded ops a.tmps)=true:=by simp[Region.wanted,hgd]
 rw[wa r];refine eM s x t ho B e i z 3 bytes ht hi hz hsize hby hzs (by omega) v n (dy l) hs (ew hown ((wL _).alloc _)) _ 1 [.bool y.p,.int .i64 y.s,.int .u32 y.n] hx (Src.newN _ [.bool y.p,.int .i64 y.s,.int .u32 y.n] _) ?_ ?_ ?_ ?_ ?_
 ·intro u g;simp at g;rcases g with rfl|rfl|rfl<;>rfl
 ·simp only[maxLen];omega
 ·have:(n+1)*bytes<=(n+1)*128:=Nat.mul_le_mul_left _ hbb;omega
 ·simp;omega
 ·intro C w' d q m;have j:dy l++[.bool y.p,.int .i64 y.s,.int .u32 y.n]=dy (l++[y]):=by rw[fm];rfl
  rw[j]at d;obtain⟨A,c,hv,-⟩:=dU d;subst hv;exact h A c w' d q
theorem pm {c:Cfg}{pk bl:List Int}{w:World}{s:Rn.St}{o:Rn.Out}{om wv bv:Value}(h:DS c pk w s bl o om wv bv)(hf:VFn c.f)(x:Ins)(va vt:Value)(hx:IntsAt c.n₀ w va x.args)(hl:x.args.length<=40)(hin:∀v∈x.args,0<=v/\v<s.vals.length)(hsl:s.vals.length=Ref.count c.f)(hsn:s.vals.length<=1000) :
  Calls prog 126 #[.pointer (some ⟨c.Bs,0,none⟩),df x va vt] w fun e w'=>∃A c1 A' c',e=.returned (.tuple #[.slice A x.args.length c1,.slice A' x.args.length c'])/\VsAt w' (.slice A x.args.length c1) (x.args.map s.get)/\IntsAt w'.heap.size w' (.slice A' x.args.length c') (x.args.map (Ref.kind c.f))/\Gr w w':=by
 obtain⟨i0,hi,au,av,aw⟩:=info_parts dR;obtain⟨iv,ao,ap,aq,ar⟩:=info_parts tV;obtain⟨W,U⟩:=xJ (dY w x va vt);have S:Gr w W:=by rw[<-U];exact(wL w).alloc _
 have gx:Gr (dY w x va vt) W:=by rw[U];exact wL _
 have az:W.heap.size=w.heap.size+1:=by rw[<-U];unfold dY;simp
 obtain⟨Aa,ca,rfl,a1,a2,a3⟩:=hx;have m:Hid (∀wr,Gr W wr->wr.cell? ⟨w.heap.size,3,none⟩=some (.slice Aa x.args.length ca)):=fun wr g=>(dk (gx.trans g)).2.2.2.1
 have L:Hid (∀(k:Nat)(z:Int),x.args[k]?=some z->∃R oa,Aa=some ⟨R,oa,none⟩/\∀wr,Gr W wr->wr.cell? ⟨R,oa+k,none⟩=some (.int .i64 z)):=fun k z d=>by obtain⟨R,oa,e,aA,a4⟩:=a3 (by have:=(yq.1 d).1;omega);exact⟨R,oa,e,fun wr g=>((S.trans g).cell _ _ (by have:=h.n₀;omega)).trans (a4 k z d)⟩
 have t:Hid (∀(z:Int),z∈x.args->∃l:Nat,z=(l:Int)/\l<s.vals.length/\∀wr,Gr W wr->wr.cell? ⟨c.Bv,l*3,none⟩=some (.bool (s.get z).p)/\wr.cell? ⟨c.Bv,l*3+1,none⟩=some (.int .i64 (s.get z).s)/\wr.cell? ⟨c.Bv,l*3+2,none⟩=some (.int .u32 (s.get z).n)/\wr.cell? ⟨c.Bs,14,none⟩=some (.slice (some ⟨c.Bv,0,none⟩) s.vals.length s.vals.length)):=fun z d=>by
  obtain⟨z0,z1⟩:=hin z d;obtain⟨l,rfl⟩:=vF z0;have r:l<s.vals.length:=by omega
  refine⟨l,rfl,r,fun wr g=>?_⟩;have hp:=h.gr (S.trans g)
  have e:s.vals[l]?=some (s.get (l:Int)):=by unfold Rn.St.get;rw[vG,vA,vu r];rfl
  obtain⟨e0,e1,e2⟩:=dZ _ _ _ e;rw[Nat.mul_comm]at e0 e1 e2;exact⟨(vX _ _ _ _ _ _ hp.vals).trans (by simpa using e0),(vX _ _ _ _ _ _ hp.vals).trans (by simpa using e1),(vX _ _ _ _ _ _ hp.vals).trans (by simpa using e2),hp.cell 14⟩
 have ag:Hid (∀z,z∈x.args->∀wr,Gr W wr->Calls prog 151 #[.pointer (some ⟨c.Bs,0,none⟩),.int .i64 z] wr (RG (.tuple #[.int .i64 (Ref.kind c.f z),.bool true]) wr)):=fun z d wr g=>xM (h.gr (S.trans g)) hf z (hin z d).1 (by have:=(hin z d).2;omega);have ah:=dJ S;have M:Hid (∀k,k<x.args.length->∃z,x.args[k]?=some z):=fun k j=>⟨_,vu j⟩;obtain⟨n,hn⟩:=xJ x.args.length;have HN:=dJ hn;rw[hn]at a1 a2 m hl M ⊢;obtain⟨VN,T⟩:=xJ s.vals.length;rw[T]at t hsn;have x3:=m.out W (wL W);have Z:W.ownsRow W.heap.size 37 3 (.slice none 0 0) 0 (dy ((x.args.take 0).map s.get)):=World.ownsRow_nil _ _ _ _;have Y:W.ownsRow W.heap.size 3 1 (.slice none 0 0) 0 (((x.args.take 0).map (Ref.kind c.f)).map (Value.int .i64)):=World.ownsRow_nil _ _ _ _;have am:=dJ Z;have al:=dJ Y;have X:=U;unfold dY at X;rw[hn]at X;unfold df;clear h hf hin hsl a3 S gx Z Y T hn U
 go_enter func126, ntmps126
 go_wp2
 go_loopw [6,7,8] (fun s6 s7 s8 wr=>∃(k:Nat)(J H:Option Addr)(c1 I:Nat),k<=n/\s8=.int .i64 (k:Int)/\s6=.slice J k c1/\s7=.slice H k I/\Hid (wr.ownsRow W.heap.size 37 3 (.slice J k c1) k (dy ((x.args.take k).map s.get)))/\Hid (wr.ownsRow W.heap.size 3 1 (.slice H k I) k (((x.args.take k).map (Ref.kind c.f)).map (Value.int .i64)))/\Hid (Gr W wr)) (fun _ _ s8 _=>n-(intOf s8).toNat)
 case atStart=>exact⟨0,none,none,0,0,vU _,rfl,rfl,rfl,am,al,wL _⟩
 case round =>
  obtain⟨k,J,H,c1,I,j,rfl,rfl,rfl,hr,E,hg⟩:=hrel;have y3:=m.out wr hg.out;by_cases F:k<n
  ·obtain⟨z,d⟩:=M.out k F;obtain⟨R,oa,rfl,ha⟩:=L.out k z d;have G:=vz d;have ay:=ha wr hg.out;have CK:=dJ (ag.out z G wr hg.out);obtain⟨l,r,ax,af⟩:=t.out z G;have Q:=dJ af;have ai:=dJ ha;have O:Hid ((x.args.take (k+1)).map s.get=(x.args.take k).map s.get++[s.get z]):=by show _=_;rw[List.take_add_one,d];simp
   have N:Hid (((x.args.take (k+1)).map (Ref.kind c.f)).map (Value.int .i64)=((x.args.take k).map (Ref.kind c.f)).map (Value.int .i64)++[.int .i64 (Ref.kind c.f z)]):=by show _=_;rw[List.take_add_one,d];simp
   have B:Hid ((((x.args.take k).map (Ref.kind c.f)).map (Value.int .i64)).length=k):=by show _=_;simp;have:=HN.out;omega
   have ak:Hid (((x.args.take k).map s.get).length=k):=by show _=_;simp;have:=HN.out;omega
   obtain⟨kz,ab⟩:=xJ (Ref.kind c.f z);rw[ab]at CK N;obtain⟨sv,ae⟩:=xJ (s.get z);rw[ae]at Q O;have aj:Hid (k<n):=F;clear d G ha af ab ae;subst r
   go_wp2_with (first
     | (go_at_call 151;refine CK.out.mono ?_;rintro e w1 ⟨rfl,g1⟩;have G1:=dJ (hg.out.trans g1);have R1:=dJ (ew hr.out g1);have K1:=dJ (ew E.out g1);clear g1)
     | (at_builtin;refine lB (n:=k) (v:=.slice H k I) underlying22 hi au av aw rfl (by omega) rfl (.tmp 28) (.tmp 30) rfl B.out rfl (by unfold Own1;rw[B.out];exact K1.out) rfl rfl (by omega) G1.out.size ?_;intro A4 c4 w4 ac C aa;
         have R4:=dJ (iK (ew R1.out ((wL _).alloc _)) C (fun k j=>lh R1.out K1.out (by decide) k j));
         have K4:Hid (w4.ownsRow W.heap.size 3 1 (.slice A4 (k+1) c4) (k+1) (((x.args.take (k+1)).map (Ref.kind c.f)).map (Value.int .i64))):=(by show World.ownsRow _ _ _ _ _ _ _;rw[N.out];have q:=ac;unfold Own1 at q;rw[vW,B.out]at q;exact q);
         have K:=dJ (jP ((G1.out).alloc _) C (fun k j=>(dx K1.out k j).1));clear ac C aa))
   have v3:=m.out _ K.out;have va:=ai.out _ K.out;obtain⟨v0,v1,v2,aC⟩:=Q.out _ K.out;have mixed:(prog).follows .mixedOrders=true:=by kernel_rfl
   have R9:=dJ (ew R4.out ((wL w4).drew));have K9:=dJ (ew K4.out (((wL w4).drew).alloc (.cells #[.bool sv.p,.int .i64 sv.s,.int .u32 sv.n] 37)));obtain⟨S1,an⟩:=xJ w1.heap.size;rw[an]
   go_region_law_o ((refine lo (n:=k) (v:=.slice J k c1) (y:=sv) underlying78 ao ap aq ar rfl (by omega) rfl (.tmp 32) (.tmp 45) rfl ak.out rfl R9.out rfl (by omega) (by show _<=w4.heap.size;exact K.out.size) ?_;intro A6 c6 w6 ad D;
                      have R6:Hid (w6.ownsRow W.heap.size 37 3 (.slice A6 (k+1) c6) (k+1) (dy ((x.args.take (k+1)).map s.get))):=(by show World.ownsRow _ _ _ _ _ _ _;rw[O.out];exact ad);
                      have K6:=dJ (iK K9.out D (fun k j=>lh K4.out R4.out (by decide) k j));
                      have G6:=dJ (jP (K.out.trans (((wL w4).drew).alloc _)) D (fun k j=>(dx R9.out k j).1));clear ad D))
   all_goals
    go_wp2;have aB:=aj.out;exact⟨⟨k+1,A6,A4,c6,c4,by omega,by go_num,rfl,rfl,R6,K6,G6⟩,by simp[intOf];omega⟩
  ·obtain rfl:k=n:=by omega
   have e:x.args.take k=x.args:=vO (by have:=HN.out;omega);rw[e]at hr E;have u:Hid (x.args.length=k):=HN.out;clear F j;go_wp2;go_ret2;refine⟨J,c1,H,I,rfl,⟨W.heap.size,?_⟩,?_,ah.out.trans hg.out⟩
   ·rw[vS,u.out];exact hr.out
   ·have q:Own1 W.heap.size 3 wr (.slice H k I) ((x.args.map (Ref.kind c.f)).map (Value.int .i64)):=by
     unfold Own1;rw[vS,vS,u.out];exact E.out
    exact q.ints (by rw[vS,u.out];omega)
end
