/- Parts. -/
import Derived.Test.YtjkajidbdmbbaaaGreatI47
set_option linter.unusedSimpArgs false
set_option linter.unusedVariables false
set_option maxRecDepth 100000
set_option maxHeartbeats 16000000
open Go.Proofs.Tryz
namespace Go.Proofs.YtjkajidbdmbbaaaGreat
section
open Go.RowKit
namespace Rf
theorem and_mask {x n:Int}(hx:0<=x)(hx2:x<4294967296)(h0:0<=n)(h1:n<=32):bits .and .i64 x (Wd.sz n-1)=x%Wd.sz n:=by
 obtain⟨y,rfl⟩:=tb hx;obtain⟨m,rfl⟩:=tb h0;have g:Wd.sz (m:Int)=((2 ^ m:Nat):Int):=by unfold Wd.sz;simp
 have l:2 ^ m<=4294967296:=by have:2 ^ m<=2 ^ 32:=Nat.pow_le_pow_right (by decide) (by omega);simpa using this
 have j:=Nat.two_pow_pos m;rw[g,show ((2 ^ m:Nat):Int)-1=((2 ^ m-1:Nat):Int) by omega]
 have d:∀z:Nat,z<4294967296->(BitVec.ofInt 64 (z:Int)).toNat=z:=fun z hz=>by rw[BitVec.toNat_ofInt];have:((z:Int)%((2 ^ 64:Nat):Int))=z:=Int.emod_eq_of_lt (by omega) (by simp;omega);rw[this];simp
 show IntKind.i64.wrap (((BitVec.ofInt 64 (y:Int) &&& BitVec.ofInt 64 ((2 ^ m-1:Nat):Int)).toNat:Nat):Int)=_;rw[BitVec.toNat_and,d _ (by omega),d _ (by omega),Nat.and_two_pow_sub_one_eq_mod,lo (by omega) (by have:=Nat.mod_le y (2 ^ m);omega)];simp
theorem argsP_snoc (k:Int)(l:List Int)(i:Nat)(w:Int)(h:l[i]?=some w):((argsP k l).take (i+1))=(argsP k l).take i++[k / Wd.sz (bitsOf (l.drop (i+1)))%Wd.sz w]:=by
 induction l generalizing i with
 | nil=>simp at h
 | cons a r ih =>
  cases i with
  | zero=>simp at h;subst h;simp[argsP]
  | succ i=>rw[argsP,tJ,ih i (by simpa using h)];simp
theorem argsP_len (k:Int):∀l:List Int,(argsP k l).length=l.length
 | []=>rfl
 | w::r=>by rw[argsP,List.length_cons,argsP_len k r,List.length_cons]
theorem bits_tail:∀(l:List Int)(i:Nat),(∀z∈l,0<=z)->0<=bitsOf (l.drop i)/\bitsOf (l.drop i)<=bitsOf l
 | [],i,_=>by simp[bitsOf]
 | a::r,0,h=>⟨(prod_bits _ h).1,Int.le_refl _⟩
 | a::r,i+1,h=>by
  have:=bits_tail r i fun z hz=>h z (by simp[hz])
  have:=h a (by simp);rw[tM,bitsOf];omega
theorem bits_drop {l:List Int}{i:Nat}{w:Int}(h:l[i]?=some w):bitsOf (l.drop i)=w+bitsOf (l.drop (i+1)):=by obtain⟨d,g⟩:=sR.1 h;rw[tl d,g,bitsOf]
end Rf
theorem mr (n:Nat):madeCells #[Value.int .i64 0] n=Array.replicate n (Value.int .i64 0):=by
 apply Array.ext_getElem?;intro i;rcases tF i n with h|h
 ·unfold madeCells;rw[Array.getElem?_map,Array.getElem?_range,tB h];simp[h,Nat.mod_one]
 ·rw[Array.getElem?_eq_none (by rw[size_madeCells];omega),Array.getElem?_eq_none (by simp;omega)]
theorem ip (w:World)(n:Nat)(hn:n<=1000):(Instr.makeSlice 33 (.int .i64 n) (.int .i64 n)).run prog w=.ok (.slice (some ⟨w.heap.size,0,none⟩) n n) (w.alloc (.cells (Array.replicate n (Value.int .i64 0)) 3)):=by obtain⟨m,g,j,d,l⟩:=info_parts dC;have:=run_makeSlice (P:=prog) (w:=w) 33 3 m _ underlying33 g j .i64 .i64 n n (by omega) (by omega) (by rw[d];omega) (by rw[l];omega) (by omega);rw[this,d];simp only[tc,Nat.mul_one];rw[show (Value.int IntKind.i64 0).cells=#[Value.int .i64 0] from rfl,mr]
structure AS (Bo:Nat)(W w:World)(zs:List Int)(A:Option Addr)(c:Nat):Prop where
 fr:FrS (·=Bo) W w
 st:w.heap[Bo]?=some (.cells #[.slice A zs.length c,.slice none 0 0] 41 (0,0))
 own:Own1 (Bo+1) 22 w (.slice A zs.length c) (zs.map (Value.int .u32))
section
variable {Bo c c2:Nat}{W w w1 w2:World}{zs:List Int}{A A2:Option Addr}{tmp:Obj}{z:Int}
theorem AS.grow (h:AS Bo W w zs A c)(g:Gr w w1):AS Bo W w1 zs A c where
 fr:=h.fr.trans (FrS.of_gr g)
 st:=(g.heap _ (cX h.st)).trans h.st
 own:=h.own.gr g
theorem AS.push (hW:W.heap.size=Bo+1)(h:AS Bo W w zs A c)(g1:Gr w w1)(hg:(w1.alloc tmp).grownBy w2 (Value.slice A zs.length c).ownBlock)(ho2:Own1 (Bo+1) 22 w2 (.slice A2 (zs.length+1) c2) (zs.map (Value.int .u32)++[.int .u32 z])) :
  (w2.cell? ⟨Bo,0,none⟩=some (.slice A zs.length c)/\w2.frozen? ⟨Bo,0,none⟩=false)/\AS Bo W (w2.setCell ⟨Bo,0,none⟩ (.slice A2 (zs.length+1) c2)) (zs++[z]) A2 c2:=by
 have j:=h.own.gr g1;have g:FrS (fun q=>(Value.slice A zs.length c).ownBlock=some q) w1 w2:=((FrS.refl _ w1).alloc tmp).grown hg (fun q d=>.inl d);have u:w.heap.size<=w1.heap.size:=g1.size;have t:W.heap.size<=w.heap.size:=h.fr.size;have l:=(g1.heap _ (cX h.st)).trans h.st;have m:w2.heap[Bo]?=some (.cells #[.slice A zs.length c,.slice none 0 0] 41 (0,0)):=(g.block _ (cX l) (fun q=>by have:=(de j q).1;omega)).trans l;refine⟨⟨tv _ _ 0 _ _ _ m,tx _ _ 0 _ _ m⟩,?_,?_,?_⟩
 ·have r:FrS (fun q=>(Value.slice A zs.length c).ownBlock=some q\/q=Bo) w1 (w2.setCell ⟨Bo,0,none⟩ (.slice A2 (zs.length+1) c2)):=(g.mono fun q d=>.inl d).setCell (p:=⟨Bo,0,none⟩) (.inr rfl) _;refine FrS.weaken (S:=fun q=>q=Bo\/W.heap.size<=q) ((h.fr.mono fun q d=>.inl d).trans ((FrS.of_gr g1).trans (r.mono fun q d=>?_))) fun q d e=>e.elim (fun e=>e) (fun e=>by omega);rcases d with e|e
  ·right;have:=(de j e).1;omega
  ·exact .inl e
 ·have:=cY (i:=0) (.slice A2 (zs.length+1) c2) m;rw[tT];exact this
 ·rw[tT,List.map_append];exact dh ho2 fun q d=>tH _ _ _ _ (by have:=(de ho2 d).1;show q≠Bo;omega)
end
theorem gL (w:World)(n:Nat)(hn:n<=1000):RowOf w.heap.size 3 ((w.alloc (.cells (Array.replicate n (Value.int .i64 0)) 3)).drew) (.slice (some ⟨w.heap.size,0,none⟩) n n) ((List.replicate n (0:Int)).map (Value.int .i64)):=by
 have d:((List.replicate n (0:Int)).map (Value.int .i64)).length=n:=by simp
 refine⟨some ⟨w.heap.size,0,none⟩,n,by rw[d],by rw[d];exact tS _,fun _=>?_⟩;have:=World.ownsRow_lit (base:=w.heap.size) (e:=3) (size:=1) w (Array.replicate n (Value.int .i64 0)) n (tS _) (by simp only[maxLen];omega) (by simp);have g:=fU this ((tX _).drew);unfold Own1;rw[d,List.map_replicate];simpa using g
theorem jP (w:World)(o:Obj):Value.slice (some ⟨w.heap.size+1,0,none⟩) 1 1=.slice (some ⟨((w.alloc o).drew).heap.size,0,none⟩) 1 1:=by have:((w.alloc o).drew).heap.size=w.heap.size+1:=World.size_alloc w o;rw[this]
structure MS (Bo:Nat)(V w:World)(zs:List Int)(A:Option Addr)(c:Nat)(mem:List (List Int))(q:Nat)(us:List Value)(A8:Option Addr)(c8:Nat):Prop where
 cs:CS Bo V w (.slice A zs.length c) mem q us A8 c8
 arg:Own1 (Bo+1) 22 w (.slice A zs.length c) (zs.map (Value.int .u32))
section
variable {Bo c q c8 c2:Nat}{W w w1 w2:World}{zs:List Int}{A A8 A2:Option Addr}{mem:List (List Int)}{us:List Value}{u:Value}{l:List Int}{tmp:Obj}
theorem MS.push (hW:W.heap.size=Bo+1)(h:MS Bo W w zs A c mem q us A8 c8)(hl:mem[q]?=some l)(g1:Gr w w1)(hu:RowOf w.heap.size 3 w1 u (l.map (Value.int .i64)))(hg:(w1.alloc tmp).grownBy w2 (Value.slice A8 q c8).ownBlock)(ho2:Own1 (Bo+1) 33 w2 (.slice A2 (q+1) c2) (us++[u])) :
  (w2.cell? ⟨Bo,1,none⟩=some (.slice A8 q c8)/\w2.frozen? ⟨Bo,1,none⟩=false)/\MS Bo W (w2.setCell ⟨Bo,1,none⟩ (.slice A2 (q+1) c2)) zs A c mem (q+1) (us++[u]) A2 c2:=by
 obtain⟨B,C⟩:=h.cs.push hW hl g1 hu hg ho2;refine⟨B,C,?_⟩;have m:=h.arg.gr g1;have g:=h.cs.own.gr g1;have d:FrS (fun p=>(Value.slice A8 q c8).ownBlock=some p) w1 w2:=((FrS.refl _ w1).alloc tmp).grown hg (fun p hp=>.inl hp);refine dh m fun k D=>?_;obtain⟨E,r,z,t⟩:=de m D;refine(tH _ _ _ _ (by show k≠Bo;omega)).trans (d.block _ r fun e=>?_);obtain⟨-,-,j,y⟩:=de g e;exact df t y (by decide) rfl
end
theorem jH {B:Nat}{w:World}{v:Value}{p:List Int}(h:Own1 B 22 w v (p.map (Value.int .u32)))(hl:p.length<=1000):U32At w.heap.size w v p:=by obtain⟨A,c,rfl,d,-,-⟩:=dE h;have g:RowOf B 22 w (.slice A (p.map (Value.int .u32)).length c) (p.map (Value.int .u32)):=⟨A,c,rfl,d,fun _=>h⟩;have:=g.u32 (by omega);exact this
theorem eG (k:Int):∀(l:List Int)(a:Int),a∈Rf.argsP k l->0<=a
 | [],a,h=>by cases h
 | w::r,a,h=>by
  rw[Rf.argsP]at h
  rcases List.mem_cons.1 h with rfl|h
  ·exact Int.emod_nonneg _ (Int.ne_of_gt (Wd.sz_pos w))
  ·exact eG k r a h
theorem gD (f:Fn)(k:Int)(hp:∀w∈f.params,0<=w):(Rf.input f k).args=Rf.argsP k f.params:=by unfold Rf.input;exact(Rf.argsP_eq k f.params hp).symm
theorem jb (z L:Int):z+L-z=L:=by omega
theorem pn {k z L l x s y:Int}(hl:l=L)(hx:k / 2 ^ L.toNat=x)(hs:wrap64 (2 ^ z.toNat)=s)(hm:bits .and .i64 x (s-1)=y)(hs0:0<s)(hs1:s<=4294967296)(hy0:0<=y)(hy1:y<4294967296) :
  IntKind.u32.wrap (bits .and .i64 (k / 2 ^ l.toNat) (IntKind.i64.wrap (IntKind.i64.wrap (2 ^ z.toNat)-1)))=y:=by
 have d:IntKind.i64.wrap (s-1)=s-1:=by clear hx hs hm hl;exact lo (by omega) (by omega)
 have g:IntKind.u32.wrap y=y:=by clear hx hs hm hl hs0 hs1;exact IntWalk.u32_in y ⟨hy0,by omega⟩
 rw[hl,hx,IntWalk.i64_left (2 ^ z.toNat),hs,d,hm,g]
theorem gP {n:Int}(h0:0<=n)(h1:n<=32):Wd.sz n<=4294967296:=by
 unfold Wd.sz
 have d:(2:Int) ^ n.toNat<=2 ^ 32:=by
  have:=Nat.pow_le_pow_right (n:=2) (by decide) (show n.toNat<=32 by omega)
  exact_mod_cast this
 have g:(2:Int) ^ 32=4294967296:=by decide
 omega
theorem ju {w:World}{vf:Value}{f:Fn}(hf:FnAt w.heap.size w vf f)(hv:Ref.validate f=0)(hbt:Rf.bitsOf f.params<=32){k:Nat}(hk:k<4294967296) :
  Calls prog 46 #[vf,.int .i64 k] w fun e w'=>(∃A c A2 c2,e=.returned (.agg #[.slice A (Rf.input f k).args.length c,.slice A2 (Rf.input f k).mem.length c2])/\InpAt w'.heap.size w' (.slice A (Rf.input f k).args.length c) (.slice A2 (Rf.input f k).mem.length c2) (Rf.input f k))/\Gr w w':=by
 obtain⟨i0,be,bi,bj,bk⟩:=info_parts dC;obtain⟨i1,a1,a7,a8,ar⟩:=info_parts ij;obtain⟨i2,a2,a4,a5,a6⟩:=info_parts iK;obtain⟨a3,ac,bh,aI⟩:=Rf.valid_widths hv;have C1:Hid (∀u,Gr w u->Calls prog 43 #[vf] u (RG (.int .i64 (Rf.bitsOf f.params)) u)):=fun u q=>hH (hf.gr q) a3 ac;obtain⟨vp,vs,vb,rfl,hp,hs,hb⟩:=hf;have HP:=dJ hp;have HS:=dJ hs;obtain⟨Ap,cp,rfl,-⟩:=hp;obtain⟨As,cs,rfl,-⟩:=hs;obtain⟨Ab,cb,rfl,-⟩:=hb;obtain⟨I,al⟩:=xJ (w.alloc (.cells #[.slice Ap f.params.length cp,.int .i64 f.ret,.slice As f.slots.length cs,.slice Ab f.blocks.length cb] 36));obtain⟨W,hW⟩:=xJ (I.alloc (.cells #[.slice none 0 0,.slice none 0 0] 41));have s0:I.heap.size=w.heap.size+1:=by rw[<-al];simp
 have s1:W.heap.size=w.heap.size+2:=by rw[<-hW];simp[s0]
 have g0:Gr w I:=by rw[<-al];exact(tX _).alloc _
 have Y:Gr I W:=by rw[<-hW];exact(tX _).alloc _
 have q0:I.heap[w.heap.size]?=some (.cells #[.slice Ap f.params.length cp,.int .i64 f.ret,.slice As f.slots.length cs,.slice Ab f.blocks.length cb] 36 (0,0)):=by rw[<-al];exact heap_alloc_new _ _
 have q1:W.heap[I.heap.size]?=some (.cells #[.slice none 0 0,.slice none 0 0] 41 (0,0)):=by rw[<-hW];exact heap_alloc_new _ _
 have HG:=dJ (g0.trans Y)
 have HC:Hid (∀wr,Gr W wr->wr.cell? ⟨w.heap.size,0,none⟩=some (.slice Ap f.params.length cp)/\wr.cell? ⟨w.heap.size,1,none⟩=some (.int .i64 f.ret)/\wr.cell? ⟨w.heap.size,2,none⟩=some (.slice As f.slots.length cs)/\wr.cell? ⟨w.heap.size,3,none⟩=some (.slice Ab f.blocks.length cb)):=fun wr g=>by have:=(g.heap _ (by omega)).trans ((Y.heap _ (cX q0)).trans q0);exact⟨tv _ _ 0 _ _ _ this,tv _ _ 1 _ _ _ this,tv _ _ 2 _ _ _ this,tv _ _ 3 _ _ _ this⟩
 have HR:Hid (∀wr,Gr W wr->wr.heap[I.heap.size]?=some (.cells #[.slice none 0 0,.slice none 0 0] 41 (0,0))):=fun wr g=>(g.heap _ (by omega)).trans q1;have af:Hid ((Rf.input f k).args=Rf.argsP k f.params):=gD f k fun z D=>(ac z D).1;have ai:Hid ((Rf.input f k).mem=f.slots.map fun n=>List.replicate n.toNat 0):=by show _=_;rfl
 obtain⟨k0,k1,k2,k3⟩:=HC.out W (tX W);have aj:=dJ s1;have aA:=dJ s0;have az:=dJ ac;have aB:=dJ aI;have aQ:=dJ hbt
 have aW:Hid (∀(i:Nat)(z:Int),f.params[i]?=some z->∃b off,Ap=some ⟨b,off,none⟩/\∀wr,Gr w wr->wr.cell? ⟨b,off+i,none⟩=some (.int .i64 z)):=fun i z D=>by obtain⟨A',c',e,-,-,h3⟩:=HP.out;injection e with e1 e2 e3;obtain⟨b,off,e4,hb,h4⟩:=h3 (by have:=(sR.1 D).1;omega);exact⟨b,off,e1.trans e4,fun wr g=>(g.cell _ _ hb).trans (h4 i z D)⟩
 have aY:Hid (∀(i:Nat)(z:Int),f.slots[i]?=some z->∃b off,As=some ⟨b,off,none⟩/\∀wr,Gr w wr->wr.cell? ⟨b,off+i,none⟩=some (.int .i64 z)):=fun i z D=>by obtain⟨A',c',e,-,-,h3⟩:=HS.out;injection e with e1 e2 e3;obtain⟨b,off,e4,hb,h4⟩:=h3 (by have:=(sR.1 D).1;omega);exact⟨b,off,e1.trans e4,fun wr g=>(g.cell _ _ hb).trans (h4 i z D)⟩
 clear q0 q1 g0 Y ac aI hbt s0 s1
 go_enter func46, ntmps46
 go_wp2_with (go_at_call 43;refine(C1.out _ HG.out).mono ?_;rintro e K ⟨rfl,Y⟩;have ah:Hid (Gr W K):=Y;clear Y;have x0:=fun o=>(HC.out (K.alloc o) (ah.out.alloc o)).1);obtain⟨V,hV⟩:=xJ (K.alloc (.cells #[.slice none 0 0,.slice none 0 0] 41));rw[hV];obtain⟨C,O⟩:=xJ K.heap.size;rw[O];have GV:Gr K V:=by rw[<-hV];exact(tX _).alloc _
 have HV:Hid (V.heap.size=C+1):=by show _=_;rw[<-hV,<-O];simp
 have aP:Hid (AS C V V [] none 0):=⟨FrS.refl _ _,by rw[<-hV,<-O];exact heap_alloc_new _ _,Own1.nil _ _ _⟩;have ag:Hid (w.heap.size+2<=C):=by show _<=_;rw[<-O,<-aj.out];exact ah.out.size
 have ay:=dJ (ah.out.trans GV);have aR:Hid (∀(wr:World) zs A c,AS C V wr zs A c->Gr W wr):=fun wr zs A c h=>gr_frs' ay.out h.fr (fun q hq=>by have:=ag.out;have:=aj.out;omega);have aS:Hid (∀(wr:World) va (q:Nat) (us:List Value) (H:Option Addr) (J:Nat),CS C V wr va (Rf.input f k).mem q us H J->Gr W wr):=fun wr va q us H J h=>gr_frs' ay.out h.fr (fun q hq=>by have:=ag.out;have:=aj.out;omega);clear GV hV O k0 k1 k2 k3 x0
 go_loopw [5,8,16] (fun s5 _ aw wr=>∃(i:Nat)(zs:List Int)(A:Option Addr)(c:Nat),i<=f.params.length/\aw=.int .i64 (i:Int)/\s5=.int .i64 (Rf.bitsOf (f.params.drop i))/\Hid (zs=(Rf.argsP k f.params).take i)/\Hid (AS C V wr zs A c)) (fun _ _ aw _=>f.params.length-(intOf aw).toNat)
 case atStart=>exact⟨0,[],none,0,tR _,rfl,rfl,rfl,aP⟩
 case round =>
  obtain⟨i,zs,A,c,hi,rfl,rfl,ae,has⟩:=hrel;have Z:=aR.out _ _ _ _ has.out;by_cases an:i<f.params.length
  ·obtain⟨z,D⟩:∃z,f.params[i]?=some z:=⟨_,sQ an⟩;obtain⟨bp,op,rfl,S⟩:=aW.out i z D;have av:=az.out z (sS D);have am:=Rf.bits_drop D;have R:=Rf.bits_tail f.params (i+1) fun y hy=>(az.out y hy).1;have aE:=aQ.out;have ak:Hid (zs++[(k:Int) / Wd.sz (Rf.bitsOf (f.params.drop (i+1)))%Wd.sz z]=(Rf.argsP k f.params).take (i+1)):=by show _=_;rw[Rf.argsP_snoc k f.params i z D,ae.out]
   have aU:Hid (zs.length=i):=by show _=_;rw[ae.out,List.length_take,Rf.argsP_len];omega
   obtain⟨L,hL⟩:=xJ (Rf.bitsOf (f.params.drop (i+1)));rw[hL]at am R ak;have HL:=dJ hL;have bc:=R.1;have bd:L<=32:=by omega
   have M:=av.1;have U:=av.2;rw[am];have hx:(k:Int) / 2 ^ L.toNat=k / Wd.sz L:=rfl;have hs:=gN M U;have ad:=Wd.sz_pos z;have ap:=gP M U;have aL:0<=(k:Int) / Wd.sz L:=tQ (by omega) (Int.le_of_lt (Wd.sz_pos L));have aM:(k:Int) / Wd.sz L<4294967296:=Int.lt_of_le_of_lt (Int.ediv_le_self _ (by omega)) (by omega);have hm:=Rf.and_mask aL aM M U;have aO:=Int.emod_nonneg ((k:Int) / Wd.sz L) (Int.ne_of_gt ad);have au:=Int.emod_lt_of_pos ((k:Int) / Wd.sz L) ad;obtain⟨y,hy⟩:=xJ ((k:Int) / Wd.sz L%Wd.sz z);rw[hy]at hm aO au ak;obtain⟨x,aN⟩:=xJ ((k:Int) / Wd.sz L);rw[aN]at hx hm aL aM;obtain⟨s,aH⟩:=xJ (Wd.sz z);rw[aH]at hs hm ad ap au;have ar:y<4294967296:=Int.lt_of_lt_of_le au ap;have HY:Hid (IntKind.u32.wrap (bits .and .i64 ((k:Int) / 2 ^ (z+L-z).toNat) (IntKind.i64.wrap (IntKind.i64.wrap (2 ^ z.toNat)-1)))=y):=pn (jb z L) hx hs hm ad ap aO ar;have aT:Hid (z+L-z=L):=jb z L
   have t:Hid (∀r,Gr wr r->r.cell? ⟨C,0,none⟩=some (.slice A zs.length c)/\r.frozen? ⟨C,0,none⟩=false/\Own1 (C+1) 22 r (.slice A zs.length c) (zs.map (Value.int .u32))/\C+1<=r.heap.size):=fun r g2=>by have E:=has.out.grow g2;exact⟨tv _ _ 0 _ _ _ E.st,tx _ _ 0 _ _ E.st,E.own,by have:=E.fr.size;have:=HV.out;omega⟩
   have F:Hid (∀(K r:World)(X:Obj)(A2:Option Addr)(c2:Nat),Gr wr K->(K.alloc X).grownBy r (Value.slice A zs.length c).ownBlock->Own1 (C+1) 22 r (.slice A2 (zs.length+1) c2) (zs.map (Value.int .u32)++[.int .u32 y])->_):=fun K r X A2 c2 Y hg B=>AS.push HV.out has.out Y hg B;have mixed:(prog).follows .mixedOrders=true:=by kernel_rfl
   have a0:=S wr (HG.out.trans Z);obtain⟨x4,z4,-,-⟩:=t.out wr (tX _);have Q4:=fun o=>(t.out (wr.alloc o) ((tX wr).alloc o)).1;have zl:zs.length<1000:=by have:=aU.out;omega
   clear am R aE D av hL hy aN aH S has Z;go_wp2
   go_region_law_o (refine eq (n:=zs.length) (v:=.slice A zs.length c) underlying39 a2 a4 a5 a6 rfl (by omega) rfl (.tmp 24) (.tmp 33) rfl (tt _) rfl (t.out _ ((tX wr).drew)).2.2.1 rfl rfl (by omega) (t.out _ ((tX wr).drew)).2.2.2 ?_;intro A2 c2 r B T Q;rw[HY.out]at B;have G:=dJ (F.out wr.drew r _ A2 c2 ((tX wr).drew) T B);have a9:=G.out.1.1;have ba:=G.out.1.2;clear B T Q)
   all_goals go_wp2
   all_goals
    refine⟨⟨i+1,zs++[y],A2,c2,by omega,by go_num,by rw[HL.out,aT.out],ak.out,?_⟩,by simp[intOf];omega⟩;exact G.out.2
  ·obtain rfl:i=f.params.length:=by omega
   have HZ:Hid (zs=(Rf.input f k).args):=by show _=_;rw[ae.out,af.out,tm (by rw[Rf.argsP_len];exact tS _)]
   have aV:Hid (MS C V wr zs A c (Rf.input f k).mem 0 [] none 0):=⟨⟨has.out.fr,has.out.st,rfl,Own1.nil _ _ _,fun j u l h=>by simp at h⟩,has.out.own⟩;obtain⟨-,-,r2,-⟩:=HC.out wr Z;have N:Hid ((Rf.input f k).mem.length=f.slots.length):=by show _=_;rw[ai.out,tt]
   obtain⟨b5,aD⟩:=xJ (Rf.bitsOf (f.params.drop f.params.length));rw[aD];clear has Z ae aD;go_wp2
   go_loopw [10,40] (fun _ ax w3=>∃(q:Nat)(us:List Value)(H:Option Addr)(J:Nat),q<=f.slots.length/\ax=.int .i64 (q:Int)/\Hid (MS C V w3 zs A c (Rf.input f k).mem q us H J)) (fun _ ax _=>f.slots.length-(intOf ax).toNat)
   case atStart=>exact⟨0,[],none,0,tR _,rfl,aV⟩
   case round =>
    obtain⟨q,us,H,J,hq,rfl,d⟩:=hrel;have Z:=aS.out _ _ _ _ _ _ d.out.cs;by_cases an:q<f.slots.length
    ·obtain⟨z,D⟩:∃z,f.slots[q]?=some z:=⟨_,sQ an⟩;obtain⟨bp,op,rfl,S⟩:=aY.out q z D;obtain⟨M,U⟩:=aB.out z (sS D);obtain⟨m,rfl⟩:=tb M;have hl:(Rf.input f k).mem[q]?=some (List.replicate m 0):=by rw[ai.out,td,D];rfl
     have aG:m<=1000:=by omega
     have bf:=fun u:World=>ip u m aG;have aX:=dJ (gL wr m aG)
     have t:Hid (∀r,Gr wr r->r.cell? ⟨C,1,none⟩=some (.slice H q J)/\r.frozen? ⟨C,1,none⟩=false/\Own1 (C+1) 33 r (.slice H q J) us/\C+1<=r.heap.size):=fun r g2=>by have E:=d.out.cs.grow HV.out g2;exact⟨tv _ _ 1 _ _ _ E.st,tx _ _ 1 _ _ E.st,E.own,by have:=E.fr.size;have:=HV.out;omega⟩
     have F:Hid (∀(K r:World)(X:Obj)(u:Value)(A2:Option Addr)(c2:Nat),Gr wr K->RowOf wr.heap.size 3 K u ((List.replicate m (0:Int)).map (Value.int .i64))->(K.alloc X).grownBy r (Value.slice H q J).ownBlock->Own1 (C+1) 33 r (.slice A2 (q+1) c2) (us++[u])->_):=fun K r X u A2 c2 Y hu hg B=>MS.push HV.out d.out hl Y hu hg B;have mixed:(prog).follows .mixedOrders=true:=by kernel_rfl
     have aZ:Hid (us.length=q):=d.out.cs.len;have a0:=S wr (HG.out.trans Z);obtain⟨x4,z4,-,-⟩:=t.out wr (tX _);have Q4:=fun o=>(t.out (wr.alloc o) ((tX wr).alloc o)).1;have bb:=fun o o'=>(t.out ((wr.alloc o).alloc o') (((tX wr).alloc o).alloc o')).1;clear D hl S d Z M U;go_wp2
     go_region_law_o (refine eq (n:=q) (v:=.slice H q J) underlying25 a1 a7 a8 ar rfl (by omega) rfl (.tmp 45) (.tmp 48) rfl aZ.out rfl (t.out _ (((tX wr).alloc (.cells (Array.replicate m (Value.int .i64 0)) 3)).drew)).2.2.1 rfl (jP wr _) (by omega) (t.out _ (((tX wr).alloc (.cells (Array.replicate m (Value.int .i64 0)) 3)).drew)).2.2.2 ?_;intro A2 c2 r B T Q;have G:=dJ (F.out ((wr.alloc (.cells (Array.replicate m (Value.int .i64 0)) 3)).drew) r (.cells #[.slice (some ⟨wr.heap.size,0,none⟩) m m] 33) (.slice (some ⟨wr.heap.size,0,none⟩) m m) A2 c2 (((tX wr).alloc _).drew) aX.out T B);have a9:=G.out.1.1;have ba:=G.out.1.2;clear B T Q)
     all_goals go_wp2
     all_goals
      refine⟨?_,?_⟩
      ·exact⟨q+1,_,A2,c2,by omega,by go_num,G.out.2⟩
      ·simp[intOf];omega
    ·obtain rfl:q=f.slots.length:=by omega
     obtain⟨b0,b1⟩:=crw2 d.out.cs.st 0 1;have ao:=HR.out _ Z;obtain⟨r0,r1⟩:=crw2 ao 0 1;obtain⟨f0,f1⟩:=frw2 ao 0 1;obtain⟨w9,aK⟩:=xJ ((wr.setCell ⟨I.heap.size,0,none⟩ (.slice A zs.length c)).setCell ⟨I.heap.size,1,none⟩ (.slice H f.slots.length J));have hF:FrS (·=I.heap.size) wr w9:=by rw[<-aK];exact((FrS.refl (·=I.heap.size) wr).setCell (p:=⟨I.heap.size,0,none⟩) rfl _).setCell (p:=⟨I.heap.size,1,none⟩) rfl _
     have h9:=cY (i:=1) (.slice H f.slots.length J) (cY (i:=0) (.slice A zs.length c) ao);rw[aK]at h9;have aF:Gr w w9:=gr_frs' (HG.out.trans Z) hF (fun p hp=>by have:=aA.out;omega);have bg:I.heap.size<C+1:=by have:=aA.out;have:=ag.out;omega
     have aq:=qr (w:=w9) (d.out.cs.len.trans N.out.symm) (by rw[N.out];exact dh d.out.cs.own fun p hp=>hF.block _ (de d.out.cs.own hp).2.1 (by have:=(de d.out.cs.own hp).1;show p≠_;omega)) (fun j u l h1 h2=>(d.out.cs.rows j u l h1 h2).same fun p cur hp hc=>hF.block _ (cX hc) (by show p≠_;omega)) (by rw[N.out];omega) (fun l hl=>by
       rw[ai.out]at hl
       obtain⟨z,D,rfl⟩:=List.mem_map.1 hl
       have:=aB.out z D
       simp;omega)
     have aC:=(dh d.out.arg fun p hp=>hF.block _ (de d.out.arg hp).2.1 (by have:=(de d.out.arg hp).1;show p≠_;omega):Own1 (C+1) 22 w9 _ _);have aJ:=jH aC (by have:=HZ.out;rw[this,af.out,Rf.argsP_len];omega);obtain⟨z0,z1⟩:=crw2 h9 0 1
     have F:Hid ((∃A' c' aa ab,(Value.agg #[.slice A zs.length c,.slice H f.slots.length J])=(.agg #[.slice A' (Rf.input f k).args.length c',.slice aa (Rf.input f k).mem.length ab])/\InpAt w9.heap.size w9 (.slice A' (Rf.input f k).args.length c') (.slice aa (Rf.input f k).mem.length ab) (Rf.input f k))/\Gr w w9):=by
      refine⟨⟨A,c,H,J,by rw[<-HZ.out,N.out],?_,?_,?_⟩,aF⟩
      ·rw[<-HZ.out];exact aJ
      ·rw[N.out]at aq ⊢;exact aq
      ·intro a ha;rw[af.out]at ha;exact eG _ _ _ ha
     clear d hF h9 aq aC aJ aF Z;go_wp2;refine tA (v:=.agg #[.slice A zs.length c,.slice H f.slots.length J]) (by simp[results,results46,go_sem,z0,z1]) rfl ?_;obtain⟨⟨A',c',aa,ab,he,hi⟩,hg⟩:=F.out;exact⟨⟨A',c',aa,ab,by rw[he],hi⟩,hg⟩
end
section
open Go.RowKit Go.Shelf
theorem kQ {n:Nat}{g:Operand}{ps:Array Tmp}{assign body:Code}{Q:Exit->Act->World->Prop}{a:Act}{w:World}{gf N:Nat}{lb:Array Value}{M:Nat->Array Value->World->Prop}
  (h1:1<=n) (hg:a.eval g=.func (.func gf) #[] lb) (eg:∀args w,(callFunc gf args).run prog w=.ok (.enter gf args) w)
  (hseq:∀(l:Nat)(J Jx:Nat->World->Prop)(W:World),(∀k A,J k A->Below w.heap.size w A)->(∀k A B,J k A->Gr A B->J k B) ->
    (∀k vs A,k<N->J k A->M k vs A->YieldAt Fence.wide (n-1-1) prog l vs A fun e B=>(e=.returned (.bool true)/\J (k+1) B)\/(e=.returned (.bool false)/\Jx k B))->J 0 W ->
    CallsIn Fence.wide (n-1) prog gf (#[.func (.yield l) #[] #[]]++lb) W fun e B=>(∃v,e=.returned v)/\(J N B\/∃k,k<N/\Jx k B))
  (hM:∀k vs A,M k vs A->vs.size=ps.size)
  (I Ix:Nat->World->Prop) (hIb:∀k A,I k A->Below w.heap.size w A) (hIg:∀k A B,I k A->Gr A B->I k B)
  (hIp:∀k A l o o',I k A->w.heap.size<=l->A.heap[l]?=some o->o.isCells=false->I k (A.putObj l o'))
  (hXp:∀k A l o o',Ix k A->w.heap.size<=l->A.heap[l]?=some o->o.isCells=false->Ix k (A.putObj l o'))
  (h0:I 0 w) (Ax:Nat->Act->World->Prop) (hAp:∀k a A l o o',Ax k a A->w.heap.size<=l->A.heap[l]?=some o->o.isCells=false->Ax k a (A.putObj l o'))
  (hassign:∀(l k:Nat)(vs:Array Value)(W:World)(K:Act->World->Prop),I k W->M k vs W->(∀a' W',Gr W W'->Ax k a' W'->K a' W') ->
    assign.wpIn (Fence.wide.inRound l) (n-1-1) prog (Exit.then K (fun _ _ _=>False)) {tmps:=(ps.zip vs).foldl (fun t (p,v)=>t.setIfInBounds p v) a.tmps,defers:=[]} W)
  (hbody:∀(l k:Nat)(a':Act)(W:World),k<N->I k W->Ax k a' W->body.wpIn (Fence.wide.inRound l) (n-1-1) prog (fun e _ W'=>KeepsFrom w.heap.size W W'/\((e=.normal/\I (k+1) W')\/(e=.ret/\Ix k W'))) a' W)
  (hdone:∀(D:Nat)(W:World),w.heap.size<=D->I N W->W.heap[D]?=some (.deferred (some []))->Q .normal {a with defers:={target:=.collected D,args:=#[]}::a.defers} W)
  (hstop:∀(D k:Nat)(W:World),w.heap.size<=D->k<N->Ix k W->W.heap[D]?=some (.deferred (some []))->Code.ret.wpIn Fence.wide n prog Q {a with defers:={target:=.collected D,args:=#[]}::a.defers} W) :
  (Code.rangeFunc g ps assign body).wpIn Fence.wide n prog Q a w:=by
 refine wpIn_rangeFunc fun fn T=>?_;obtain⟨B,F⟩:=xJ w.heap.size;rw[F]at hseq hIp hXp hAp hbody hdone hstop
 let rec_:LoopState->Option Code->Loop:=fun st pe=>{state:=st,pending:=pe,fn,tmps:=a.tmps,params:=ps,assign,body,defers:=B}
 have d:rec_=fun st pe=>{state:=st,pending:=pe,fn,tmps:=a.tmps,params:=ps,assign,body,defers:=B}:=rfl
 clear_value rec_
 obtain⟨V,L⟩:=xJ ((w.alloc (.deferred (some []))).alloc (.loop (rec_ .ready none)));have hG:Gr w V:=by rw[<-L];exact((tX w).alloc _).alloc _
 have hL:V.heap[B+1]?=some (.loop (rec_ .ready none)):=by rw[<-L,<-F];have:=World.alloc_heap_new (w.alloc (.deferred (some []))) (.loop (rec_ .ready none));rwa [World.size_alloc]at this
 have hK:V.heap[B]?=some (.deferred (some [])):=by rw[<-L,<-F];exact(Below.heap_alloc _ _ _ (by simp)).trans (World.alloc_heap_new w _)
 have j:∀{A:World} {k:Nat} {o:Obj},A.heap[k]?=some o->k<A.heap.size:=fun h=>(sZ.1 h).1;refine⟨B+1,[{target:=.collected B,args:=#[]}],V,{target:=.fn (.func gf) lb,args:=#[.func (.yield (B+1)) #[] #[]]},V,gf,#[.func (.yield (B+1)) #[] #[]]++lb,V,?_,?_,fun _ _=>trivial,?_,fun _=>h1,?_⟩
 ·rw[<-L,d,<-F];exact run_enterLoop_outer _ _ _ _ _
 ·simp only[resolve,hg];simp[go_sem]
 ·simp[invoke,go_sem,eg]
 refine(hseq (B+1) (fun k A=>I k A/\A.heap[B+1]?=some (.loop (rec_ .ready none))/\A.heap[B]?=some (.deferred (some [])))
   (fun k A=>Ix k A/\A.heap[B+1]?=some (.loop (rec_ .done (some .ret)))/\A.heap[B]?=some (.deferred (some []))) V (fun k A h=>F ▸ hIb k A h.1)
   (fun k A C h q=>⟨hIg k A C h.1 q,(q.heap _ (j h.2.1)).trans h.2.1,(q.heap _ (j h.2.2)).trans h.2.2⟩) ?_ ⟨hIg 0 w V h0 hG,hL,hK⟩).mono ?_
 ·rintro k vs W z ⟨O,u,E⟩ hm;have hy:=run_yield (P:=prog) (args:=vs) u (by rw[d];exact hM k vs W hm);rw[d]at hy;refine⟨fn,_,assign,body,hy,roundIn_of_wpIn T (hassign _ k vs W _ O hm ?_)⟩;intro a' U R S;have y:=(R.heap _ (j u)).trans u;have Z:=(R.heap _ (j E)).trans E;have X:=hIg k W U O R;refine⟨_,run_beginRound y (by rw[d]),?_⟩;have ab:(U.putObj (B+1) (.loop {rec_ .ready none with state:=.busy})).heap[B+1]?=some (.loop {rec_ .ready none with state:=.busy}):=World.putObj_heap_same (j y);have aa:(U.putObj (B+1) (.loop {rec_ .ready none with state:=.busy})).heap[B]?=some (.deferred (some [])):=(World.putObj_heap_other (by omega)).trans Z;refine wpIn_mono (hbody _ k a' _ z (hIp k U _ _ _ X (by omega) y rfl) (hAp k a' U _ _ _ S (by omega) y rfl)) ?_;rintro e a3 W3 ⟨H,he⟩;have m:=H.same _ _ (by omega) ab rfl;have G:=H.same _ _ (by omega) aa rfl;rcases he with ⟨rfl,Y⟩|⟨rfl,ac⟩
  ·have r:=run_endRound (P:=prog) none m;rw[d]at r m;refine⟨_,_,r,.inl ⟨rfl,hIp _ _ _ _ _ Y (by omega) m rfl,?_,(World.putObj_heap_other (by omega)).trans G⟩⟩;rw[d];exact World.putObj_heap_same (j m)
  ·have r:=run_endRound (P:=prog) (some .ret) m;rw[d]at r m;refine⟨_,_,r,.inr ⟨rfl,hXp _ _ _ _ _ ac (by omega) m rfl,?_,(World.putObj_heap_other (by omega)).trans G⟩⟩;rw[d];exact World.putObj_heap_same (j m)
 ·rintro e W2 ⟨⟨v,rfl⟩,(⟨O,u,E⟩|⟨k,z,hx,u,E⟩)⟩
  ·have r:=run_endLoop (P:=prog) u (by rw[d];simp);rw[d]at r;exact⟨none,_,r,hdone B _ (tS _) (hIp _ _ _ _ _ O (by omega) u rfl) ((World.putObj_heap_other (by omega)).trans E)⟩
  ·have r:=run_endLoop (P:=prog) u (by rw[d];simp);rw[d]at r;exact⟨some .ret,_,r,hstop B k _ (tS _) z (hXp _ _ _ _ _ hx (by omega) u rfl) ((World.putObj_heap_other (by omega)).trans E)⟩
attribute [local go_sem] Oper.semAt_some
section
variable {W:World}{l:Nat}{o:Obj}
theorem iS (o':Obj)(hl:W.heap[l]?=some o)(ho:o.isCells=false){p:Addr}{v:Value}(h:W.cell? p=some v):(W.putObj l o').cell? p=some v :=
 cell_kept h (grownBy_putObj' W l o') fun r e=>by cases e;exact⟨o,hl,ho⟩
theorem lz (W:World)(l:Nat)(o':Obj):W.heap.size<=(W.putObj l o').heap.size:=(grownBy_putObj' W l o').size
theorem IntsAt.put {B:Nat}(o':Obj)(hl:W.heap[l]?=some o)(ho:o.isCells=false){v:Value}{zs:List Int}(h:IntsAt B W v zs):IntsAt B (W.putObj l o') v zs :=
 SlAt.imp h fun b off _ d j z g=>iS o' hl ho (d j z g)
theorem InpAt.put (o':Obj)(hl:W.heap[l]?=some o)(ho:o.isCells=false){va vm:Value}{i:Rn.Inp}(h:InpAt W.heap.size W va vm i):InpAt (W.putObj l o').heap.size (W.putObj l o') va vm i:=by refine⟨SlAt.mono (SlAt.imp h.1 fun b off _ d j z p=>iS o' hl ho (d j z p)) (lz W l o'),TabAt.mono (SlAt.imp h.2.1 fun b off _ d j r hr=>?_) (lz W l o'),h.2.2⟩;obtain⟨u,g,m⟩:=d j r hr;exact⟨u,iS o' hl ho g,m.put o' hl ho⟩
theorem gl {n:Nat}{w:World}(o':Obj)(h:Below n w W)(hn:n<=l)(hl:W.heap[l]?=some o)(ho:o.isCells=false):Below n w (W.putObj l o') :=
 h.grown (grownBy_putObj' W l o') (by have:=(sZ.1 hl).1;omega) (fun k e=>by cases e;omega)
end
theorem oY (Ap As Ab:Option Addr)(np ns nb cp cs cb:Nat)(r:Int)(n:Int)(w:World) :
  Calls prog 50 #[.agg #[.slice Ap np cp,.int .i64 r,.slice As ns cs,.slice Ab nb cb],.int .i64 n] w fun e w' =>
   e=.returned (.func (.func 76) #[] #[.pointer (some ⟨w.heap.size+1,0,none⟩),.pointer (some ⟨w.heap.size,0,none⟩)])/\w'=(w.alloc (.cells #[.slice Ap np cp,.int .i64 r,.slice As ns cs,.slice Ab nb cb] 36)).alloc (.cells #[.int .i64 n] 3):=by
 go_enter func50, ntmps50
 go_wp2;go_ret;exact⟨rfl,rfl⟩
def MI (f:Fn)(k:Nat)(vs:Array Value)(W:World):Prop :=
 ∃Aa c A2 c2,vs=#[.int .i64 k,.agg #[.slice Aa (Rf.input f k).args.length c,.slice A2 (Rf.input f k).mem.length c2]]/\InpAt W.heap.size W (.slice Aa (Rf.input f k).args.length c) (.slice A2 (Rf.input f k).mem.length c2) (Rf.input f k)
theorem oX (n:Nat)(hn:1<=n)(l Bn Bf N:Nat)(hN:N<=256){f:Fn}{w0:World}{Ap As Ab:Option Addr}{cp cs cb:Nat}(hf:FnAt w0.heap.size w0 (.agg #[.slice Ap f.params.length cp,.int .i64 f.ret,.slice As f.slots.length cs,.slice Ab f.blocks.length cb]) f)
  (hv:Ref.validate f=0) (hb:Rf.bitsOf f.params<=32) (hBn:Bn<w0.heap.size) (hBf:Bf<w0.heap.size) (cn:w0.cell? ⟨Bn,0,none⟩=some (.int .i64 N)) (cf:FBox Bf w0 f Ap As Ab cp cs cb)
  (J Jx:Nat->World->Prop) (W:World) (hJb:∀k A,J k A->Below w0.heap.size w0 A) (hJg:∀k A B,J k A->Gr A B->J k B)
  (hY:∀k vs A,k<N->J k A->MI f k vs A->YieldAt Fence.wide (n-1) prog l vs A fun e B=>(e=.returned (.bool true)/\J (k+1) B)\/(e=.returned (.bool false)/\Jx k B)) (h0:J 0 W) :
  CallsIn Fence.wide n prog 76 (#[.func (.yield l) #[] #[]]++#[.pointer (some ⟨Bn,0,none⟩),.pointer (some ⟨Bf,0,none⟩)]) W fun e B=>(∃v,e=.returned v)/\(J N B\/∃k,k<N/\Jx k B):=by
 have O:=dJ hY;have M:=dJ hJb;have z:=dJ hJg
 have D:Hid (∀k A,J k A->A.cell? ⟨Bn,0,none⟩=some (.int .i64 N)/\FBox Bf A f Ap As Ab cp cs cb):=fun k A h=>by have F:=hJb k A h;exact⟨(F.cell (p:=⟨Bn,0,none⟩) hBn).trans cn,cf.gr hBf F⟩
 have L:Hid (∀k A,k<N->J k A->Calls prog 46 #[.agg #[.slice Ap f.params.length cp,.int .i64 f.ret,.slice As f.slots.length cs,.slice Ab f.blocks.length cb],.int .i64 k] A fun e w'=>(∃A c r u,e=.returned (.agg #[.slice A (Rf.input f k).args.length c,.slice r (Rf.input f k).mem.length u])/\InpAt w'.heap.size w' (.slice A (Rf.input f k).args.length c) (.slice r (Rf.input f k).mem.length u) (Rf.input f k))/\Gr A w'):=fun k A T h =>
  ju (hf.gr (hJb k A h)) hv hb (by omega)
 have K:=dJ h0;have R:(N:Int)<=256:=by omega
 obtain⟨X,-⟩:=D.out 0 W h0;clear hY hJb hJg hf hv hb cn cf h0;refine callsIn_of_wp func76 rfl trivial ?_ rfl;simp only[ntmps76,List.size_toArray,List.length_cons,List.length_nil,Nat.reduceAdd,Nat.reduceSub,Array.replicate_succ,Array.replicate_zero,List.push_toArray,List.append_toArray,List.nil_append,List.cons_append];gi_wp2
 gi_loopw [4,6] (fun _ i wr=>∃k:Nat,k<=N/\i=.int .i64 k/\Hid (J k wr)) (fun _ i _=>N-(intOf i).toNat)
 case atStart=>exact⟨0,tR _,rfl,K⟩
 case round =>
  obtain⟨k,T,rfl,g⟩:=hrel;obtain⟨q,rfl⟩:∃q:World,q=wr:=⟨_,rfl⟩;by_cases j:k<N
  ·obtain⟨-,Z,k1,k2,k3⟩:=D.out k q g.out;have y:=dJ (L.out k q j g.out);have d:Hid (k<N):=j;clear j;gi_wp2_with (refine⟨trivial,?_⟩;gi_at_call 46;refine(callsIn_wide.2 y.out).mono ?_;rintro e H ⟨⟨I,c,r,u,rfl,G⟩,Q⟩;obtain⟨fn,tmps,t,E,Y,S⟩:=O.out k _ H d.out (z.out k q H g.out Q) ⟨I,c,r,u,rfl,G⟩;clear G);refine S.mono ?_;rintro e U (⟨rfl,C⟩|⟨rfl,m⟩)
   ·gi_wp2;go_roundw;case rel=>exact⟨k+1,d.out,by go_num,C⟩
    case measure=>have:=d.out;simp[intOf];omega
   ·gi_wp2;refine tA (results_none rfl _ _ _) rfl ?_;exact⟨⟨_,rfl⟩,.inr ⟨k,d.out,m⟩⟩
  ·obtain rfl:k=N:=by omega
   gi_wp2
   go_end0
   exact⟨⟨_,rfl⟩,.inl g.out⟩
def inV (Aa A2:Option Addr)(n c n2 c2:Nat):Value:=.agg #[.slice Aa n c,.slice A2 n2 c2]
def rnd (t:Array Value)(k:Nat)(v:Value)(Bx:Nat):Array Value:=(((t.setIfInBounds 31 (.int .i64 k)).setIfInBounds 32 v).setIfInBounds 10 (.int .i64 k)).setIfInBounds 11 (.pointer (some ⟨Bx,0,none⟩))
theorem kR {assign body:Code}{Q:Exit->Act->World->Prop}{a:Act}{V:World}{Bn Bf N:Nat}{f:Fn}{Ap As Ab:Option Addr}{cp cs cb:Nat}
  (hg:a.eval (.tmp 30)=.func (.func 76) #[] #[.pointer (some ⟨Bn,0,none⟩),.pointer (some ⟨Bf,0,none⟩)]) (hN:N<=256)
  (hf:FnAt V.heap.size V (.agg #[.slice Ap f.params.length cp,.int .i64 f.ret,.slice As f.slots.length cs,.slice Ab f.blocks.length cb]) f) (hv:Ref.validate f=0) (hb:Rf.bitsOf f.params<=32) (hBn:Bn<V.heap.size) (hBf:Bf<V.heap.size) (cn:V.cell? ⟨Bn,0,none⟩=some (.int .i64 N)) (cf:FBox Bf V f Ap As Ab cp cs cb)
  (I Ix:Nat->World->Prop) (hIb:∀k A,I k A->Below V.heap.size V A) (hIg:∀k A B,I k A->Gr A B->I k B)
  (hIp:∀k A l o o',I k A->V.heap.size<=l->A.heap[l]?=some o->o.isCells=false->I k (A.putObj l o'))
  (hXp:∀k A l o o',Ix k A->V.heap.size<=l->A.heap[l]?=some o->o.isCells=false->Ix k (A.putObj l o')) (h0:I 0 V)
  (hassign:∀(l k:Nat)(Aa A2:Option Addr)(n c n2 c2:Nat)(W:World)(K:Act->World->Prop),K {tmps:=rnd a.tmps k (inV Aa A2 n c n2 c2) W.heap.size,defers:=[]} (W.alloc (.cells #[.slice Aa n c,.slice A2 n2 c2] 41)) ->
    assign.wpIn (Fence.wide.inRound l) 3 prog (Exit.then K (fun _ _ _=>False)) {tmps:=(a.tmps.setIfInBounds 31 (.int .i64 k)).setIfInBounds 32 (inV Aa A2 n c n2 c2),defers:=[]} W)
  (hbody:∀(l k:Nat)(Aa A2:Option Addr)(n c n2 c2 Bx:Nat)(W:World),k<N->I k W->InpAt W.heap.size W (.slice Aa n c) (.slice A2 n2 c2) (Rf.input f k)->W.heap[Bx]?=some (.cells #[.slice Aa n c,.slice A2 n2 c2] 41 (0,0)) ->
    body.wpIn (Fence.wide.inRound l) 3 prog (fun e _ W'=>KeepsFrom V.heap.size W W'/\((e=.normal/\I (k+1) W')\/(e=.ret/\Ix k W'))) {tmps:=rnd a.tmps k (inV Aa A2 n c n2 c2) Bx,defers:=[]} W)
  (hdone:∀(D:Nat)(W:World),V.heap.size<=D->I N W->W.heap[D]?=some (.deferred (some []))->Q .normal {a with defers:={target:=.collected D,args:=#[]}::a.defers} W)
  (hstop:∀(D k:Nat)(W:World),V.heap.size<=D->k<N->Ix k W->W.heap[D]?=some (.deferred (some []))->Code.ret.wp prog Q {a with defers:={target:=.collected D,args:=#[]}::a.defers} W) :
  (Code.rangeFunc (.tmp 30) #[31,32] assign body).wp prog Q a V:=by
 refine(wpIn_wide (n:=5)).1 ?_
 refine kQ (n:=5) (N:=N) (M:=MI f) (by omega) hg (enters_of func76 (by kernel_rfl) rfl)
  (fun l J y W p q H m=>oX 4 (by omega) l Bn Bf N hN hf hv hb hBn hBf cn cf J y W p q H m)
  (fun k vs A h=>by obtain⟨_,_,_,_,rfl,-⟩:=h;rfl) I Ix hIb hIg hIp hXp h0
  (fun k j A=>∃Aa A2 n c n2 c2 Bx,j={tmps:=rnd a.tmps k (inV Aa A2 n c n2 c2) Bx,defers:=[]}/\InpAt A.heap.size A (.slice Aa n c) (.slice A2 n2 c2) (Rf.input f k)/\A.heap[Bx]?=some (.cells #[.slice Aa n c,.slice A2 n2 c2] 41 (0,0)))
  ?hAp ?hassign ?hbody hdone (fun D k W z C E F=>wpIn_wide.2 (hstop D k W z C E F))
 case hAp =>
  rintro k j A l o o' ⟨Aa,A2,n,c,n2,c2,Bx,e,g,d⟩ O u r;refine⟨Aa,A2,n,c,n2,c2,Bx,e,g.put o' u r,(World.putObj_heap_other ?_).trans d⟩;rintro rfl;rw[u]at d;injection d with d;rw[d]at r;cases r
 case hassign =>
  rintro l k vs W K g ⟨Aa,c,A2,c2,rfl,t⟩ G;have:=hassign l k Aa A2 _ c _ c2 W K (G _ _ ((tX W).alloc _) ⟨Aa,A2,_,c,_,c2,W.heap.size,rfl,t.gr ((tX W).alloc _),heap_alloc_new W _⟩);simpa[inV] using this
 case hbody =>
  rintro l k j W L g ⟨Aa,A2,n,c,n2,c2,Bx,rfl,t,d⟩;exact hbody l k Aa A2 n c n2 c2 Bx W L g t d
attribute [local go_sem] Oper.semAt_some
theorem fE (fn:Func)(tmps:Array Value)(w:World)(B4 B5 B6:Nat)(r1:Int)(r2:Bool)(r3:Int)(h:fn.results=#[.cell 4 3,.cell 5 4,.cell 6 44])(t4:tmps[4]?.getD undef=.pointer (some ⟨B4,0,none⟩))(t5:tmps[5]?.getD undef=.pointer (some ⟨B5,0,none⟩))(t6:tmps[6]?.getD undef=.pointer (some ⟨B6,0,none⟩))
  (h4:w.cell? ⟨B4,0,none⟩=some (.int .i64 r1)) (h5:w.cell? ⟨B5,0,none⟩=some (.bool r2)) (h6:w.cell? ⟨B6,0,none⟩=some (.int .i64 r3)) :
  (results fn tmps).run prog w=.ok (.tuple #[.int .i64 r1,.bool r2,.int .i64 r3]) w:=by simp[results,h,t4,t5,t6,go_sem,h4,h5,h6]
def Res3 (w:World)(B:Nat)(r:Int × Bool × Int):Prop :=
 w.heap[B]?=some (.cells #[.int .i64 r.1] 3 (0,0))/\w.heap[B+1]?=some (.cells #[.bool r.2.1] 4 (0,0))/\w.heap[B+1+1]?=some (.cells #[.int .i64 r.2.2] 44 (0,0))
theorem Res3.gr {w w':World}{B:Nat}{r:Int × Bool × Int}(h:Res3 w B r)(g:Gr w w'):Res3 w' B r :=
 ⟨(g.heap _ (cX h.1)).trans h.1,(g.heap _ (cX h.2.1)).trans h.2.1,(g.heap _ (cX h.2.2)).trans h.2.2⟩
theorem Res3.put {w:World}{B l:Nat}{o':Obj}{r:Int × Bool × Int}(h:Res3 w B r)(hl:B+1+1<l):Res3 (w.putObj l o') B r :=
 ⟨(World.putObj_heap_other (by omega)).trans h.1,(World.putObj_heap_other (by omega)).trans h.2.1,(World.putObj_heap_other (by omega)).trans h.2.2⟩
theorem Res3.set {w:World}{B:Nat}{r:Int × Bool × Int}(h:Res3 w B r)(r1:Int)(r2:Bool)(r3:Int):Res3 (((w.setCell ⟨B,0,none⟩ (.int .i64 r1)).setCell ⟨B+1,0,none⟩ (.bool r2)).setCell ⟨B+1+1,0,none⟩ (.int .i64 r3)) B (r1,r2,r3):=by
 have d:∀(u:World)(k j:Nat)(v:Value),j≠k->(u.setCell ⟨k,0,none⟩ v).heap[j]?=u.heap[j]?:=fun u k j v hj=>tH u ⟨k,0,none⟩ v j hj;refine⟨?_,?_,?_⟩
 ·rw[d _ _ _ _ (by omega),d _ _ _ _ (by omega)];exact cY (i:=0) _ h.1
 ·rw[d _ _ _ _ (by omega)];exact cY (i:=0) _ ((d w B (B+1) _ (by omega)).trans h.2.1)
 ·exact cY (i:=0) _ ((d _ _ _ _ (by omega)).trans ((d w B (B+1+1) _ (by omega)).trans h.2.2))
theorem rK {R:Ending->World->Prop}{a:Act}{w:World}{B:Nat}{r:Int × Bool × Int}(hd:a.defers=[])(t4:a.tmps[4]?.getD undef=.pointer (some ⟨B,0,none⟩))(t5:a.tmps[5]?.getD undef=.pointer (some ⟨B+1,0,none⟩))(t6:a.tmps[6]?.getD undef=.pointer (some ⟨B+1+1,0,none⟩))
  (h:Res3 w B r) (hR:R (.returned (.tuple #[.int .i64 r.1,.bool r.2.1,.int .i64 r.2.2])) w):bodyPostM Fence.wide 5 prog Tryz.f28 R .ret a w :=
 nd hd (fE _ _ _ _ _ _ _ _ _ rfl t4 t5 t6 (cell_of_one h.1) (cell_of_one h.2.1) (cell_of_one h.2.2)) hR
theorem rL {R:Ending->World->Prop}{a:Act}{w w0:World}{B D:Nat}{r:Int × Bool × Int}(hd:a.defers=[{target:=.collected D,args:=#[]}])(hK:w.heap[D]?=some (.deferred (some [])))(hDB:B+1+1<D)(t4:a.tmps[4]?.getD undef=.pointer (some ⟨B,0,none⟩))(t5:a.tmps[5]?.getD undef=.pointer (some ⟨B+1,0,none⟩))(t6:a.tmps[6]?.getD undef=.pointer (some ⟨B+1+1,0,none⟩))
  (h:Res3 w B r) (hw:Below w0.heap.size w0 w) (hD:w0.heap.size<=D) (hR:∀w',Gr w0 w'->R (.returned (.tuple #[.int .i64 r.1,.bool r.2.1,.int .i64 r.2.2])) w'):bodyPostM Fence.wide 5 prog Tryz.f28 R .ret a w:=by
 have d:Res3 (w.putObj D (.deferred none)) B r:=h.put hDB;exact rW hd hK (fE _ _ _ _ _ _ _ _ _ rfl t4 t5 t6 (cell_of_one d.1) (cell_of_one d.2.1) (cell_of_one d.2.2)) (hR _ (gl _ hw hD hK rfl))
namespace Rf
theorem firstFrom_step (f g:Fn)(N k:Nat)(h:k<N):firstFrom f g (N-k) k=if bothE f g (input f k)≠0 then (0,false,bothE f g (input f k)) else if atB f g (input f k)=true then firstFrom f g (N-(k+1)) (k+1) else (k,true,0):=by obtain⟨m,d⟩:∃m,N-k=m+1:=⟨N-k-1,by omega⟩;rw[d,firstFrom,show N-(k+1)=m by omega]
theorem firstFrom_end (f g:Fn)(N:Nat):firstFrom f g (N-N) N=(0,false,0):=by rw[Nat.sub_self];rfl
theorem inputs_small {f:Fn}(h:inputsE f=0):Ref.validate f=0/\0<=bitsOf f.params/\bitsOf f.params<=8/\inputsN f=Wd.sz (bitsOf f.params)/\0<=inputsN f/\inputsN f<=256:=by
 have g:inputsN f=Wd.sz (bitsOf f.params):=by unfold inputsN;rw[tB h]
 unfold inputsE at h;by_cases d:Ref.validate f=0
 ·rw[tC (by simp[d])]at h;have r:¬8<bitsOf f.params:=fun q=>by rw[tB q]at h;cases h
  obtain⟨-,l,-⟩:=valid_widths d;have j:=(bitsOf_le l).1;refine⟨d,j,by omega,g,by rw[g];exact Int.le_of_lt (Wd.sz_pos _),?_⟩;rw[g];unfold Wd.sz;have:=Nat.pow_le_pow_right (n:=2) (by decide) (show (bitsOf f.params).toNat<=8 by omega);have m:(2:Int) ^ (bitsOf f.params).toNat<=2 ^ 8:=by exact_mod_cast this
  have p:(2:Int) ^ 8=256:=by decide
  omega
 ·rw[tB d]at h;exact absurd h d
end Rf
def fp (f g:Fn):Value:=.tuple #[.int .i64 (Rf.firstR f g).1,.bool (Rf.firstR f g).2.1,.int .i64 (Rf.firstR f g).2.2]
theorem nA {w:World}{vf vg:Value}{f g:Fn}(hf:FnAt w.heap.size w vf f)(hg:FnAt w.heap.size w vg g)(hnf:fH f)(hng:fH g)(hif:Rn.Im f)(hig:Rn.Im g) :
  Calls prog 28 #[vf,vg] w (RG (fp f g) w):=by
 have C1:Hid (∀u,Gr w u->Calls prog 49 #[vf,vg] u (RG (.int .i64 (Rf.alikeX f g)) u)):=fun u q=>jc (hf.gr q) (hg.gr q) hnf hng;have C2:Hid (∀u,Gr w u->Calls prog 22 #[vf] u (RG (dw f) u)):=fun u q=>eO (hf.gr q) hnf;have ai:Hid (∀(u:World) va vm i,Gr w u->InpAt u.heap.size u va vm i->Calls prog 18 #[vf,vg,.agg #[va,vm]] u (RG (atV f g i) u)):=fun u va vm i q hi=>rD ⟨hf.gr q,hg.gr q,hi⟩ hnf hng hif hig;have HF:=dJ hf;obtain⟨vp,vs,vb,rfl,hp,az,hb⟩:=hf;obtain⟨up,us,ub,rfl,gp,ar,gb⟩:=hg;obtain⟨Ap,cp,rfl,-⟩:=hp;obtain⟨As,cs,rfl,-⟩:=az;obtain⟨Ab,cb,rfl,-⟩:=hb;obtain⟨Dp,dp,rfl,-⟩:=gp;obtain⟨Ds,ds,rfl,-⟩:=ar;obtain⟨Db,db,rfl,-⟩:=gb;obtain⟨d,ad⟩:=xJ ((w.alloc (.cells #[.slice Ap f.params.length cp,.int .i64 f.ret,.slice As f.slots.length cs,.slice Ab f.blocks.length cb] 36)).alloc (.cells #[.slice Dp g.params.length dp,.int .i64 g.ret,.slice Ds g.slots.length ds,.slice Db g.blocks.length db] 36));obtain⟨W,hW⟩:=xJ (((d.alloc (.cells #[.int .i64 0] 3)).alloc (.cells #[.bool false] 4)).alloc (.cells #[.int .i64 0] 44));have s2:d.heap.size=w.heap.size+1+1:=by rw[<-ad];simp
 have sW:W.heap.size=d.heap.size+1+1+1:=by rw[<-hW];simp
 have Y:Gr w d:=by rw[<-ad];exact((tX w).alloc _).alloc _
 obtain⟨gW,ax⟩:=rZ hW
 have HK:Hid (∀u,Gr W u->(FBox w.heap.size u f Ap As Ab cp cs cb/\FBox (w.heap.size+1) u g Dp Ds Db dp ds db)):=fun u q=>by have q2:=gW.trans q;rw[<-ad]at q2;exact⟨FBox.new (V:=w) (((tX _).alloc _).trans q2) rfl,FBox.new (V:=w.alloc _) q2 (by simp)⟩
 have ap:Hid (Res3 W d.heap.size (0,false,0)):=by
  refine⟨?_,?_,?_⟩
  ·rw[<-hW];exact(((tX _).alloc _).alloc _:Gr (d.alloc _) _).heap _ (by simp) |>.trans (heap_alloc_new _ _)
  ·rw[<-hW];exact((tX _).alloc _:Gr ((d.alloc _).alloc _) _).heap _ (by simp) |>.trans (by have:=heap_alloc_new (d.alloc (.cells #[.int .i64 0] 3)) (.cells #[.bool false] 4);rwa [World.size_alloc]at this)
  ·rw[<-hW];have:=heap_alloc_new ((d.alloc (.cells #[.int .i64 0] 3)).alloc (.cells #[.bool false] 4)) (.cells #[.int .i64 0] 44);rwa [World.size_alloc,World.size_alloc]at this
 have S:=dJ (Y.trans gW);have aB:=dJ s2;have aq:=dJ sW
 have M:Hid (∀u,Gr W u->Res3 u d.heap.size (0,false,0)/\u.cell? ⟨d.heap.size,0,none⟩=some (.int .i64 0)/\u.cell? ⟨d.heap.size+1,0,none⟩=some (.bool false)/\u.cell? ⟨d.heap.size+1+1,0,none⟩=some (.int .i64 0)/\u.frozen? ⟨d.heap.size,0,none⟩=false/\u.frozen? ⟨d.heap.size+1,0,none⟩=false/\u.frozen? ⟨d.heap.size+1+1,0,none⟩=false):=fun u q=>by have h:=ap.out.gr q;exact⟨h,cell_of_one h.1,cell_of_one h.2.1,cell_of_one h.2.2,free_of_one h.1,free_of_one h.2.1,free_of_one h.2.2⟩
 have j:Hid (∀(u:World)(r1:Int)(r2:Bool)(r3:Int),Gr W u->Gr w (((u.setCell ⟨d.heap.size,0,none⟩ (.int .i64 r1)).setCell ⟨d.heap.size+1,0,none⟩ (.bool r2)).setCell ⟨d.heap.size+1+1,0,none⟩ (.int .i64 r3))):=fun u r1 r2 r3 q=>by
  refine Gr.setCell (Gr.setCell (Gr.setCell (S.out.trans q) ?_ _) ?_ _) ?_ _
  ·show w.heap.size<=d.heap.size;omega
  ·show w.heap.size<=d.heap.size+1;omega
  ·show w.heap.size<=d.heap.size+1+1;omega
 obtain⟨⟨k0,k1,k2,k3⟩,⟨l0,l1,l2,l3⟩⟩:=HK.out W (tX W);have p:Hid (Rf.firstR f g=if Rf.alikeX f g≠0 then (0,false,Rf.alikeX f g) else if Rf.inputsE f≠0 then (0,false,Rf.inputsE f) else Rf.firstFrom f g (Rf.inputsN f).toNat 0):=by show _=_;rfl
 obtain⟨X,hX⟩:=xJ (Rf.alikeX f g);rw[hX]at C1 p;have z:Hid (fp f g=.tuple #[.int .i64 (Rf.firstR f g).1,.bool (Rf.firstR f g).2.1,.int .i64 (Rf.firstR f g).2.2]):=by show _=_;rfl
 clear hX s2 sW Y gW ax;refine(callsIn_wide (n:=5)).1 ?_;refine callsIn_of_wp_marks func28 rfl trivial ?_ rfl;simp only[ntmps28,List.size_toArray,List.length_cons,List.length_nil,Nat.reduceAdd,Nat.reduceSub,Array.replicate_succ,Array.replicate_zero,List.push_toArray,List.append_toArray,List.nil_append,List.cons_append];refine wpIn_wide.2 ?_;by_cases Z:X=0
 ·have q0:(X != 0)=false:=by simp[Z]
  by_cases h1:Rf.inputsE f=0
  ·obtain⟨hv,av,af,aw,ah,ay⟩:=Rf.inputs_small h1;obtain⟨N,hN⟩:=tb ah;have Q:Hid (dw f=.tuple #[.int .i64 N,.int .i64 0]):=by show _=_;unfold dw;rw[h1,hN]
   rw[Q.out]at C2;have H:Hid (Rf.firstR f g=Rf.firstFrom f g N 0):=by show _=_;rw[p.out,tC (by simp[Z]),tC (by simp[h1]),hN];rfl
   have ac:N<=256:=by omega
   have al:=dJ (oY Ap As Ab f.params.length f.slots.length f.blocks.length cp cs cb f.ret N);have HV:=dJ hv;have aj:=dJ af;clear Z p aw ah ay av af hN h1 hv Q
   go_wp2_with (first|(go_at_call 49;refine(C1.out _ S.out).mono ?_;rintro e w1 ⟨rfl,U⟩;have G:Hid (Gr W w1):=U;clear U;obtain⟨⟨k0,k1,k2,k3⟩,⟨l0,l1,l2,l3⟩⟩:=HK.out w1 G.out)|(go_at_call 22;refine(C2.out _ (S.out.trans G.out)).mono ?_;rintro e y ⟨rfl,Y⟩;have G2:Hid (Gr W y):=G.out.trans Y;clear Y;obtain⟨⟨i0,i1,i2,i3⟩,⟨j0,j1,j2,j3⟩⟩:=HK.out y G2.out)|(go_at_call 50;refine(al.out _).mono ?_;rintro e w3 ⟨rfl,rfl⟩))
   obtain⟨V,hV⟩:=xJ ((y.alloc (.cells #[.slice Ap f.params.length cp,.int .i64 f.ret,.slice As f.slots.length cs,.slice Ab f.blocks.length cb] 36)).alloc (.cells #[.int .i64 N] 3));rw[hV];have gV:Gr y V:=by rw[<-hV];exact((tX _).alloc _).alloc _
   have au:V.heap.size=y.heap.size+2:=by rw[<-hV];simp
   have GV:Hid (Gr W V):=G2.out.trans gV;have ag:Gr w V:=S.out.trans GV.out;have cn:V.cell? ⟨y.heap.size+1,0,none⟩=some (.int .i64 N):=by rw[<-hV];have:=tv _ _ 0 _ _ _ (heap_alloc_new (y.alloc (.cells #[.slice Ap f.params.length cp,.int .i64 f.ret,.slice As f.slots.length cs,.slice Ab f.blocks.length cb] 36)) (.cells #[.int .i64 N] 3));rwa [World.size_alloc]at this
   have cf:FBox y.heap.size V f Ap As Ab cp cs cb:=FBox.new (V:=y) (by rw[<-hV];exact(tX _).alloc _) rfl;have aC:=dJ au;have aa:Hid (d.heap.size+1+1<V.heap.size):=by show _<_;have:=aq.out;have:=GV.out.size;omega
   have ab:Hid (w.heap.size<=V.heap.size):=ag.size;clear i0 i1 i2 i3 j0 j1 j2 j3 k0 k1 k2 k3 l0 l1 l2 l3
   refine kR (f:=f) (N:=N) (Bn:=y.heap.size+1) (Bf:=y.heap.size) rfl ac (HF.out.gr ag) HV.out (by have:=aj.out;omega) (by omega) (by omega) cn cf
    (fun k A=>Gr V A/\Rf.firstR f g=Rf.firstFrom f g (N-k) k) (fun _ A=>Res3 A d.heap.size (Rf.firstR f g)/\Below w.heap.size w A)
    (fun k A h=>h.1) (fun k A B h q=>⟨h.1.trans q,h.2⟩) (fun k A l o o' h hl ho hc=>⟨gl o' h.1 hl ho hc,h.2⟩)
    (fun k A l o o' h hl ho hc=>⟨h.1.put (by have:=aa.out;omega),gl o' h.2 (by have:=ab.out;omega) ho hc⟩) ⟨tX _,H.out⟩ ?hassign ?hbody ?hdone ?hstop
   case hassign =>
    intro l k Aa A2 n c n2 c2 O K hK;simp only[rnd,inV,tO,List.set_cons_succ,List.set_cons_zero]at hK ⊢;gi_wp2;exact hK
   case hbody =>
    rintro l k Aa A2 n c n2 c2 Bx O hk ⟨C,I⟩ hi J;simp only[rnd,inV,tO,List.set_cons_succ,List.set_cons_zero];have x0:O.cell? ⟨Bx,0,none⟩=some (.slice Aa n c):=tv _ _ 0 _ _ _ J;have x1:O.cell? ⟨Bx,1,none⟩=some (.slice A2 n2 c2):=tv _ _ 1 _ _ _ J;have R:=GV.out.trans C;obtain⟨⟨k0,k1,k2,k3⟩,⟨l0,l1,l2,l3⟩⟩:=HK.out O R;have HA:=dJ (ai.out O _ _ _ (S.out.trans R) hi);have m:=I.trans (Rf.firstFrom_step f g N k hk);have G0:=dJ C;have L:=dJ R;have aA:Hid (k<N):=hk;unfold atV at HA;obtain⟨E,hE⟩:=xJ (Rf.bothE f g (Rf.input f k));obtain⟨T,hT⟩:=xJ (Rf.atB f g (Rf.input f k));rw[hE,hT]at HA m;clear hE hT hi J I hk C R;by_cases hz:E=0
    ·have q1:(E != 0)=false:=by simp[hz]
     subst hz;rw[tB rfl]at HA;rw[tC (by simp)]at m
     cases T with
     | true =>
      have t:Hid (Rf.firstR f g=Rf.firstFrom f g (N-(k+1)) (k+1)):=by show _=_;rw[m,tB rfl]
      clear m;gi_wp2_with (refine⟨trivial,?_⟩;gi_at_call 18;refine(CallsIn.inRound l (callsIn_wide.2 HA.out)).mono ?_;rintro e w5 ⟨rfl,F⟩);exact⟨F.keeps.from _,G0.out.trans F,t.out⟩
     | false =>
      have t:Hid (Rf.firstR f g=((k:Int),true,0)):=by show _=_;rw[m,tC (by decide)]
      clear m;gi_wp2_with (refine⟨trivial,?_⟩;gi_at_call 18;refine(CallsIn.inRound l (callsIn_wide.2 HA.out)).mono ?_;rintro e w5 ⟨rfl,F⟩;obtain⟨-,x4,x5,x6,y4,y5,y6⟩:=M.out w5 (L.out.trans F));refine⟨(F.keeps.trans (((KeepsOthers.setCell _ _ _).trans (KeepsOthers.setCell _ _ _)).trans (KeepsOthers.setCell _ _ _))).from _,?_,j.out _ _ _ _ (L.out.trans F)⟩;rw[t.out];exact Res3.set (M.out w5 (L.out.trans F)).1 _ _ _
    ·have q1:(E != 0)=true:=by simp[hz]
     have t:Hid (Rf.firstR f g=(0,false,E)):=by show _=_;rw[m,tB hz]
     rw[tC hz]at HA;clear m hz;gi_wp2_with (refine⟨trivial,?_⟩;gi_at_call 18;refine(CallsIn.inRound l (callsIn_wide.2 HA.out)).mono ?_;rintro e w5 ⟨rfl,F⟩;obtain⟨-,x4,x5,x6,y4,y5,y6⟩:=M.out w5 (L.out.trans F));refine⟨(F.keeps.trans (((KeepsOthers.setCell _ _ _).trans (KeepsOthers.setCell _ _ _)).trans (KeepsOthers.setCell _ _ _))).from _,?_,j.out _ _ _ _ (L.out.trans F)⟩;rw[t.out];exact Res3.set (M.out w5 (L.out.trans F)).1 _ _ _
   case hdone =>
    rintro D O hD ⟨C,I⟩ hK;have t:Hid (Rf.firstR f g=(0,false,0)):=I.trans (Rf.firstFrom_end f g N);have L:=dJ (GV.out.trans C);have am:Hid (d.heap.size+1+1<D):=by show _<_;have:=aa.out;omega
    have ao:Hid (((((O.setCell ⟨d.heap.size,0,none⟩ (.int .i64 0)).setCell ⟨d.heap.size+1,0,none⟩ (.bool false)).setCell ⟨d.heap.size+1+1,0,none⟩ (.int .i64 0))).heap[D]?=some (.deferred (some []))) :=
     (((KeepsOthers.setCell _ _ _).trans (KeepsOthers.setCell _ _ _)).trans (KeepsOthers.setCell _ _ _)).same D _ hK rfl
    have HD:Hid (w.heap.size<=D):=by show _<=_;have:=ab.out;omega
    obtain⟨-,x4,x5,x6,y4,y5,y6⟩:=M.out O L.out;clear hK I C;go_wp2;refine rL (w0:=w) (r:=(0,false,0)) rfl ao.out am.out rfl rfl rfl (Res3.set (M.out O L.out).1 _ _ _) (j.out _ _ _ _ L.out) HD.out ?_;exact fun w' q=>⟨dk (by rw[z.out,t.out]),q⟩
   case hstop =>
    rintro D k O hD hk ⟨hr,hB⟩ hK;have an:=dJ hK;have ak:=dJ hB;have ae:=dJ hr;clear hK hB hr;go_wp2;refine rL (w0:=w) rfl an.out (by have:=aa.out;omega) rfl rfl rfl ae.out ak.out (by have:=ab.out;omega) ?_;exact fun w' q=>⟨dk (by rw[z.out]),q⟩
  ·have q1:(Rf.inputsE f != 0)=true:=by simpa using h1
   have Q:Hid (dw f=.tuple #[.int .i64 (Rf.inputsN f),.int .i64 (Rf.inputsE f)]):=by show _=_;rfl
   rw[Q.out]at C2;have H:Hid (fp f g=.tuple #[.int .i64 0,.bool false,.int .i64 (Rf.inputsE f)]):=by show _=_;rw[z.out,p.out,tC (by simp[Z]),tB h1]
   clear Z p z h1
   go_wp2_with (first|(go_at_call 49;refine(C1.out _ S.out).mono ?_;rintro e w1 ⟨rfl,U⟩;have G:Hid (Gr W w1):=U;clear U;obtain⟨⟨k0,k1,k2,k3⟩,⟨l0,l1,l2,l3⟩⟩:=HK.out w1 G.out)|(go_at_call 22;refine(C2.out _ (S.out.trans G.out)).mono ?_;rintro e y ⟨rfl,Y⟩;have G2:Hid (Gr W y):=G.out.trans Y;clear Y;obtain⟨-,x4,x5,x6,y4,y5,y6⟩:=M.out y G2.out))
   refine rK rfl rfl rfl rfl (Res3.set (M.out y G2.out).1 _ _ _) ⟨dk (by rw[H.out]),j.out _ _ _ _ G2.out⟩
 ·have q0:(X != 0)=true:=by simpa using Z
  have H:Hid (fp f g=.tuple #[.int .i64 0,.bool false,.int .i64 X]):=by show _=_;rw[z.out,p.out,tB Z]
  clear Z p z;go_wp2_with (go_at_call 49;refine(C1.out _ S.out).mono ?_;rintro e w1 ⟨rfl,U⟩;have G:=dJ U;clear U;obtain⟨-,x4,x5,x6,y4,y5,y6⟩:=M.out w1 G.out);refine rK rfl rfl rfl rfl (Res3.set (M.out w1 G.out).1 _ _ _) ⟨dk (by rw[H.out]),j.out _ _ _ _ G.out⟩
theorem oF {fl:Int}(h:fl=0\/fl=2):fH (Rf.sumF fl):=by
 rcases h with rfl|rfl
 all_goals
  refine⟨by decide,?_,?_,?_⟩
  ·intro l d;simp[Rf.sumF]at d;subst d;decide
  ·intro l d x g;simp[Rf.sumF]at d;subst d;simp at g;rcases g with rfl|rfl<;>(unfold WfI;refine⟨by decide,?_,by decide,by decide⟩;intro z j;simp at j;omega)
  ·intro l d x g;simp[Rf.sumF]at d;subst d;simp at g;rcases g with rfl|rfl<;>decide
theorem se (fl:Int):Rn.Im (Rf.sumF fl):=by
 intro l d x g;simp[Rf.sumF]at d;subst d;simp at g;rcases g with rfl|rfl
 ·exact⟨Int.le_refl 0,(by decide:(0:Int)<4294967296)⟩
 ·exact⟨Int.le_refl 0,(by decide:(0:Int)<4294967296)⟩
theorem iL {w:World}{b:Nat}{t:TypeId}{zs:List Int}(h:w.heap[b]?=some (.cells (zs.map (Value.int .i64)).toArray t (0,0)))(hn:zs.length<=1000):IntsAt w.heap.size w (.slice (some ⟨b,0,none⟩) zs.length zs.length) zs :=
 ⟨_,_,rfl,tS _,by omega,fun _=>⟨_,_,rfl,cX h,fun j z hz=>by rw[tv _ _ _ _ _ _ h,Nat.zero_add];simp[hz]⟩⟩
def lB (b1 b5:Nat):Value:=.agg #[.slice (some ⟨b1,0,none⟩) 2 2,.int .i64 4,.slice none 0 0,.slice (some ⟨b5,0,none⟩) 1 1]
theorem rN {W:World}{b1 b2 b3 b4 b5:Nat}{fl:Int}(r1:W.heap[b1]?=some (.cells #[.int .i64 4,.int .i64 4] 3 (0,0)))(r2:W.heap[b2]?=some (.cells #[.int .i64 0,.int .i64 1] 3 (0,0)))(r3:W.heap[b3]?=some (.cells #[.int .i64 2] 3 (0,0)))
  (r4:W.heap[b4]?=some (.cells #[.int .i64 1,.int .i64 4,.int .i64 fl,.slice (some ⟨b2,0,none⟩) 2 2,.int .u32 0,.slice none 0 0,.int .i64 31,.int .i64 0,.int .i64 0,.slice (some ⟨b3,0,none⟩) 1 1,.int .u32 0,.slice none 0 0] 68 (0,0)))
  (r5:W.heap[b5]?=some (.cells #[.slice (some ⟨b4,0,none⟩) 2 2] 66 (0,0))):FnAt W.heap.size W (lB b1 b5) (Rf.sumF fl):=by
 have d:∀o,W.cell? ⟨b4,o,none⟩=_:=fun o=>tv _ _ o _ _ _ r4;have l:∀o,W.cell? ⟨b5,o,none⟩=_:=fun o=>tv _ _ o _ _ _ r5;have g:IntsAt W.heap.size W (.slice none 0 0) []:=⟨none,0,rfl,tS _,by simp,fun h=>by simp at h⟩;have m:=iL (zs:=[4,4]) r1 (by decide);have p:=iL (zs:=[0,1]) r2 (by decide);have q:=iL (zs:=[2]) r3 (by decide)
 have r:BlkAt W.heap.size W (.slice (some ⟨b4,0,none⟩) 2 2) [⟨1,4,fl,[0,1],0,[]⟩,⟨31,0,0,[2],0,[]⟩]:=by
  refine⟨_,_,rfl,tS _,by simp,fun _=>⟨_,_,rfl,cX r4,fun j y hy=>?_⟩⟩
  match j,hy with
  | 0,hy=>simp at hy;subst hy;exact⟨_,_,d 0,d 1,d 2,d 3,d 4,d 5,p,g⟩
  | 1,hy=>simp at hy;subst hy;exact⟨_,_,d 6,d 7,d 8,d 9,d 10,d 11,q,g⟩
 have t:BlksAt W.heap.size W (.slice (some ⟨b5,0,none⟩) 1 1) [[⟨1,4,fl,[0,1],0,[]⟩,⟨31,0,0,[2],0,[]⟩]]:=by
  refine⟨_,_,rfl,tS _,by simp,fun _=>⟨_,_,rfl,cX r5,fun j y hy=>?_⟩⟩
  match j,hy with
  | 0,hy=>simp at hy;subst hy;exact⟨_,l 0,r⟩
 exact⟨_,_,_,rfl,m,g,t⟩
theorem iq {w V:World}{o:Obj}(h:w.alloc o=V):V.heap[w.heap.size]?=some o:=by rw[<-h];exact heap_alloc_new w o
theorem rv (fl:Int)(w:World):Calls prog 32 #[.int .i64 fl] w fun e w'=>∃b1 b5,e=.returned (lB b1 b5)/\FnAt w'.heap.size w' (lB b1 b5) (Rf.sumF fl)/\Gr w w':=by
 obtain⟨d,C⟩:=xJ (w.alloc (.cells #[.slice none 0 0,.int .i64 0,.slice none 0 0,.slice none 0 0] 36));obtain⟨t,L⟩:=xJ (d.alloc (.cells #[.int .i64 4,.int .i64 4] 3));obtain⟨u,M⟩:=xJ (t.alloc (.cells #[.int .i64 0,.int .i64 1] 3));obtain⟨y,N⟩:=xJ (u.alloc (.cells #[.int .i64 2] 3));obtain⟨l,O⟩:=xJ (y.alloc (.cells #[.int .i64 1,.int .i64 4,.int .i64 fl,.slice (some ⟨t.heap.size,0,none⟩) 2 2,.int .u32 0,.slice none 0 0,.int .i64 31,.int .i64 0,.int .i64 0,.slice (some ⟨u.heap.size,0,none⟩) 1 1,.int .u32 0,.slice none 0 0] 68));obtain⟨q,Q⟩:=xJ (l.alloc (.cells #[.slice (some ⟨y.heap.size,0,none⟩) 2 2] 66));obtain⟨W,R⟩:=xJ ((((q.setCell ⟨w.heap.size,0,none⟩ (.slice (some ⟨d.heap.size,0,none⟩) 2 2)).setCell ⟨w.heap.size,1,none⟩ (.int .i64 4)).setCell ⟨w.heap.size,2,none⟩ (.slice none 0 0)).setCell ⟨w.heap.size,3,none⟩ (.slice (some ⟨l.heap.size,0,none⟩) 1 1));have K:Gr w d:=by rw[<-C];exact(tX _).alloc _
 have z:Gr d t:=by rw[<-L];exact(tX _).alloc _
 have r:Gr t u:=by rw[<-M];exact(tX _).alloc _
 have m:Gr u y:=by rw[<-N];exact(tX _).alloc _
 have g:Gr y l:=by rw[<-O];exact(tX _).alloc _
 have j:Gr l q:=by rw[<-Q];exact(tX _).alloc _
 have F:=iq C;have G:=iq L;have H:=iq M;have I:=iq N;have J:=iq O;have Z:=iq Q;have s0:d.heap.size=w.heap.size+1:=by rw[<-C];simp
 have k1:=z.size;have k2:=r.size;have k3:=m.size;have k4:=g.size
 have D:FrS (·=w.heap.size) q W:=by rw[<-R];exact((((FrS.refl (·=w.heap.size) q).setCell (p:=⟨w.heap.size,0,none⟩) rfl _).setCell (p:=⟨w.heap.size,1,none⟩) rfl _).setCell (p:=⟨w.heap.size,2,none⟩) rfl _).setCell (p:=⟨w.heap.size,3,none⟩) rfl _
 have st:∀(k:Nat)(o:Obj),q.heap[k]?=some o->k≠w.heap.size->W.heap[k]?=some o:=fun k o h hk=>(D.block k (cX h) hk).trans h;have S:=st _ _ ((r.trans (m.trans (g.trans j))).heap _ (cX G) |>.trans G) (by omega);have T:=st _ _ ((m.trans (g.trans j)).heap _ (cX H) |>.trans H) (by omega);have U:=st _ _ ((g.trans j).heap _ (cX I) |>.trans I) (by omega);have X:=st _ _ (j.heap _ (cX J) |>.trans J) (by omega);have Y:=st _ _ Z (by omega);have B:=dJ (rN (fl:=fl) S T U X Y);have A:=(z.trans (r.trans (m.trans (g.trans j)))).heap _ (cX F) |>.trans F;have E:=cY (i:=3) (.slice (some ⟨l.heap.size,0,none⟩) 1 1) (cY (i:=2) (.slice none 0 0) (cY (i:=1) (.int .i64 4) (cY (i:=0) (.slice (some ⟨d.heap.size,0,none⟩) 2 2) A)));rw[R]at E;have HG:Hid (Gr w W):=gr_frs' (K.trans (z.trans (r.trans (m.trans (g.trans j))))) D (fun k hk=>by omega);obtain⟨c0,c1,c2,c3⟩:=crw4 A 0 1 2 3;obtain⟨f0,f1,f2,f3⟩:=frw4 A 0 1 2 3;obtain⟨z0,z1,z2,z3⟩:=crw4 E 0 1 2 3;clear K z r m g j F G H I J Z s0 k1 k2 k3 k4 D st S T U X Y A E
 go_enter func32, ntmps32
 go_wp2;refine tA (v:=lB d.heap.size l.heap.size) (by simp[results,results32,go_sem,z0,z1,z2,z3,lB]) rfl ?_;exact⟨_,_,rfl,B.out,HG.out⟩
theorem mn (w:World):Calls prog 11 #[] w (RG (.bool true) w):=by
 have q:Hid (∀(fl:Int)(u:World),Calls prog 32 #[.int .i64 fl] u fun e w'=>∃j m,e=.returned (lB j m)/\FnAt w'.heap.size w' (lB j m) (Rf.sumF fl)/\Gr u w'):=rv;have H:Hid (∀(u:World)(a b c d:Nat)(k l:Int),k=0\/k=2->l=0\/l=2->FnAt u.heap.size u (lB a b) (Rf.sumF k)->FnAt u.heap.size u (lB c d) (Rf.sumF l)->Calls prog 28 #[lB a b,lB c d] u (RG (fp (Rf.sumF k) (Rf.sumF l)) u)):=fun u a b c d k l hk hl h1 h2=>nA h1 h2 (oF hk) (oF hl) (se k) (se l)
 have HI:Hid (∀(u:World)(a b:Nat),FnAt u.heap.size u (lB a b) (Rf.sumF 0)->Calls prog 22 #[lB a b] u (RG (.tuple #[.int .i64 256,.int .i64 0]) u)):=fun u a b h=>by
  have:=eO h (oF (.inl rfl));unfold dw at this
  rwa [Rf.k_inputs.1,Rf.k_inputs.2]at this
 have A:Hid (fp (Rf.sumF 2) (Rf.sumF 0)=.tuple #[.int .i64 0,.bool false,.int .i64 0]):=by show _=_;unfold fp;rw[Rf.k_yes]
 have B:Hid (fp (Rf.sumF 0) (Rf.sumF 2)=.tuple #[.int .i64 23,.bool true,.int .i64 0]):=by show _=_;unfold fp;rw[Rf.k_no]
 have g:Hid (∀j m,lB j m=.agg #[.slice (some ⟨j,0,none⟩) 2 2,.int .i64 4,.slice none 0 0,.slice (some ⟨m,0,none⟩) 1 1]):=fun _ _=>rfl
 go_enter func11, ntmps11
 go_wp2_with (first|(go_at_call 32;(with_reducible refine(q.out 2 w).mono ?_);rintro e w1 ⟨a1,j,rfl,r,I⟩;have U:=dJ r;have X:=dJ I;clear r I;rw[g.out])|(go_at_call 32;(with_reducible refine(q.out 0 w1).mono ?_);rintro e N ⟨a2,b2,rfl,p,C⟩;have F2:=dJ p;have Y:Hid (Gr w N):=X.out.trans C;have E:=dJ (H.out N a1 j a2 b2 2 0 (.inr rfl) (.inl rfl) (U.out.gr C) p);rw[A.out,g.out,g.out]at E;clear p C;rw[g.out])|(go_at_call 28;(with_reducible refine E.out.mono ?_);rintro e O ⟨rfl,J⟩;have Z:Hid (Gr w O):=Y.out.trans J;clear J)|(go_at_call 32;(with_reducible refine(q.out 0 O).mono ?_);rintro e Q ⟨a4,b4,rfl,t,K⟩;have W:=dJ t;have G4:Hid (Gr w Q):=Z.out.trans K;clear t K;rw[g.out])|(go_at_call 32;(with_reducible refine(q.out 2 Q).mono ?_);rintro e R ⟨a5,m,rfl,y,D⟩;have G5:Hid (Gr w R):=G4.out.trans D;have F:=dJ (H.out R a4 b4 a5 m 0 2 (.inl rfl) (.inr rfl) (W.out.gr D) y);rw[B.out,g.out,g.out]at F;clear y D;rw[g.out])|(go_at_call 28;(with_reducible refine F.out.mono ?_);rintro e S ⟨rfl,L⟩;have G6:Hid (Gr w S):=G5.out.trans L;clear L)|(go_at_call 32;(with_reducible refine(q.out 0 S).mono ?_);rintro e T ⟨a7,b7,rfl,z,M⟩;have G:=dJ (HI.out T a7 b7 z);rw[g.out]at G;have G7:Hid (Gr w T):=G6.out.trans M;clear z M;rw[g.out])|(go_at_call 22;refine G.out.mono ?_;rintro e w8 ⟨rfl,g8⟩))
 go_ret;exact⟨rfl,G7.out.trans g8⟩
end
section
open Go.RowKit
namespace Rf
def argsM (k:Int)(l:List Int)(m:Nat):List Int:=List.replicate m 0++(argsP k l).drop m
theorem argsM_len (k:Int)(l:List Int)(m:Nat)(h:m<=l.length):(argsM k l m).length=l.length:=by unfold argsM;simp[argsP_len];omega
theorem argsM_start (k:Int)(l:List Int):argsM k l l.length=List.replicate l.length 0:=by unfold argsM;rw[tq (by rw[argsP_len];exact tS _),List.append_nil]
theorem argsP_at (k:Int)(l:List Int)(i:Nat)(z:Int)(h:l[i]?=some z):(argsP k l)[i]?=some (k / Wd.sz (bitsOf (l.drop (i+1)))%Wd.sz z):=by
 have g:=argsP_snoc k l i z h
 have d:((argsP k l).take (i+1))[i]?=some (k / Wd.sz (bitsOf (l.drop (i+1)))%Wd.sz z):=by
  rw[g,tj (by simp;omega)];have j:=(sR.1 h).1;have:((argsP k l).take i).length=i:=by rw[List.length_take,argsP_len];omega
  rw[this,Nat.sub_self];rfl
 rw[tk,tB (by omega)]at d;exact d
theorem argsM_step (k:Int)(l:List Int)(m:Nat)(z:Int)(h:l[m]?=some z):argsM k l m=(argsM k l (m+1)).set m (k / Wd.sz (bitsOf (l.drop (m+1)))%Wd.sz z):=by
 have p:=argsP_at k l m z h;obtain⟨d,g⟩:=sR.1 p;unfold argsM;rw[tl d,g];apply List.ext_getElem?;intro i;rw[List.getElem?_set];rcases Nat.lt_trichotomy i m with q|q|q
 ·rw[tC (by omega),te (by simp;omega),te (by simp;omega),tr,tr,tB q,tB (by omega)]
 ·subst q;rw[tB rfl,tB (by simp;omega),tj (by simp)];simp
 ·rw[tC (by omega),tj (by simp;omega),tj (by simp;omega)];obtain⟨j,rfl⟩:∃j,i=m+1+j:=⟨i-m-1,by omega⟩;simp only[List.length_replicate];rw[show m+1+j-m=j+1 by omega,show m+1+j-(m+1)=j by omega,sV]
theorem sz_add {a b:Int}(ha:0<=a)(hb:0<=b):Wd.sz (a+b)=Wd.sz a*Wd.sz b:=by unfold Wd.sz;rw[Int.toNat_add ha hb,Int.pow_add]
theorem left_step (k:Int)(l:List Int)(m:Nat)(z:Int)(h:l[m]?=some z)(hl:∀y∈l,0<=y):k / Wd.sz (bitsOf (l.drop (m+1))) / Wd.sz z=k / Wd.sz (bitsOf (l.drop m)):=by have d:=bits_tail l (m+1) hl;have g:=hl z (sS h);rw[bits_drop h,Int.add_comm z,sz_add d.1 g,Int.ediv_ediv_of_nonneg (Int.le_of_lt (Wd.sz_pos _))]
end Rf
theorem mq (n:Nat):madeCells #[Value.int .u32 0] n=Array.replicate n (Value.int .u32 0):=by
 apply Array.ext_getElem?;intro i;rcases tF i n with h|h
 ·unfold madeCells;rw[Array.getElem?_map,Array.getElem?_range,tB h];simp[h,Nat.mod_one]
 ·rw[Array.getElem?_eq_none (by rw[size_madeCells];omega),Array.getElem?_eq_none (by simp;omega)]
theorem mt (w:World)(n:Nat)(hn:n<=1000):(Instr.makeSlice 39 (.int .i64 n) (.int .i64 n)).run prog w=.ok (.slice (some ⟨w.heap.size,0,none⟩) n n) (w.alloc (.cells (Array.replicate n (Value.int .u32 0)) 22)):=by obtain⟨m,g,j,d,l⟩:=info_parts iK;have:=run_makeSlice (P:=prog) (w:=w) 39 22 m _ underlying39 g j .i64 .i64 n n (by omega) (by omega) (by rw[d];omega) (by rw[l];omega) (by omega);rw[this,d];simp only[tc,Nat.mul_one];rw[show (Value.int IntKind.u32 0).cells=#[Value.int .u32 0] from rfl,mq]
structure RA (Bo b:Nat)(V w:World)(zs:List Int):Prop where
 fr:FrS (·=Bo) V w
 st:w.heap[Bo]?=some (.cells #[.slice (some ⟨b,0,none⟩) zs.length zs.length,.slice none 0 0] 41 (0,0))
 row:w.heap[b]?=some (.cells (zs.map (Value.int .u32)).toArray 22 (0,0))
section
variable {Bo b:Nat}{V w w':World}{zs:List Int}
theorem RA.gr (h:RA Bo b V w zs)(g:Gr w w'):RA Bo b V w' zs:=⟨h.fr.trans (FrS.of_gr g),(g.heap _ (cX h.st)).trans h.st,(g.heap _ (cX h.row)).trans h.row⟩
theorem RA.set (hV:V.heap.size=b)(hB:Bo<b)(h:RA Bo b V w zs)(i:Nat)(y:Int):RA Bo b V (w.setCell ⟨b,i,none⟩ (.int .u32 y)) (zs.set i y):=by
 refine⟨?_,?_,?_⟩
 ·refine FrS.weaken (S:=fun q=>q=Bo\/V.heap.size<=q) ((h.fr.mono fun q hq=>.inl hq).trans (((FrS.refl (fun q=>q=b) w).setCell (p:=⟨b,i,none⟩) rfl _).mono fun q hq=>.inr (by omega))) fun q hq e=>e.elim (fun e=>e) (fun e=>by omega)
 ·rw[List.length_set];exact(tH w ⟨b,i,none⟩ _ Bo (by show Bo≠b;omega)).trans h.st
 ·have:=cY (i:=i) (.int .u32 y) h.row;rw[tO]at this;rw[List.map_set];exact this
theorem RA.own (h:RA Bo b V w zs)(hB:Bo+1<=b)(hn:zs.length<=1000):Own1 (Bo+1) 22 w (.slice (some ⟨b,0,none⟩) zs.length zs.length) (zs.map (Value.int .u32)):=by unfold Own1;rw[tt];exact⟨by simp,.inr ⟨b,zs.length,_,rfl,hB,h.row,tS _,by simp only[maxLen];omega,by simp,by simp[tm]⟩⟩
end
theorem kP {w:World}{vf:Value}{f:Fn}(hf:FnAt w.heap.size w vf f)(hv:Ref.validate f=0)(hbt:Rf.bitsOf f.params<=32){k:Nat}(hk:k<4294967296) :
  Calls prog 47 #[vf,.int .i64 k] w fun e w'=>(∃A c A2 c2,e=.returned (.agg #[.slice A (Rf.input f k).args.length c,.slice A2 (Rf.input f k).mem.length c2])/\InpAt w'.heap.size w' (.slice A (Rf.input f k).args.length c) (.slice A2 (Rf.input f k).mem.length c2) (Rf.input f k))/\Gr w w':=by
 obtain⟨i0,bg,bo,bq,br⟩:=info_parts dC;obtain⟨i1,aF,ap,aq,aN⟩:=info_parts ij;obtain⟨bi,ak,bl,aK⟩:=Rf.valid_widths hv;obtain⟨vp,vs,vb,rfl,T,hs,hb⟩:=hf;have HP:=dJ T;have HS:=dJ hs;obtain⟨Ap,cp,rfl,-⟩:=T;obtain⟨As,cs,rfl,-⟩:=hs;obtain⟨Ab,cb,rfl,-⟩:=hb;obtain⟨I,ai⟩:=xJ (w.alloc (.cells #[.slice Ap f.params.length cp,.int .i64 f.ret,.slice As f.slots.length cs,.slice Ab f.blocks.length cb] 36));obtain⟨W,hW⟩:=xJ (I.alloc (.cells #[.slice none 0 0,.slice none 0 0] 41));obtain⟨V,hV⟩:=xJ (W.alloc (.cells #[.slice none 0 0,.slice none 0 0] 41));have s0:I.heap.size=w.heap.size+1:=by rw[<-ai];simp
 have s1:W.heap.size=w.heap.size+2:=by rw[<-hW];simp[s0]
 have s2:V.heap.size=W.heap.size+1:=by rw[<-hV];simp
 have g0:Gr w I:=by rw[<-ai];exact(tX _).alloc _
 have g1:Gr I W:=by rw[<-hW];exact(tX _).alloc _
 have R:Gr W V:=by rw[<-hV];exact(tX _).alloc _
 have q0:I.heap[w.heap.size]?=some (.cells #[.slice Ap f.params.length cp,.int .i64 f.ret,.slice As f.slots.length cs,.slice Ab f.blocks.length cb] 36 (0,0)):=by rw[<-ai];exact heap_alloc_new _ _
 have q1:W.heap[I.heap.size]?=some (.cells #[.slice none 0 0,.slice none 0 0] 41 (0,0)):=by rw[<-hW];exact heap_alloc_new _ _
 have q2:V.heap[W.heap.size]?=some (.cells #[.slice none 0 0,.slice none 0 0] 41 (0,0)):=by rw[<-hV];exact heap_alloc_new _ _
 have HG:=dJ (g0.trans g1);have bb:=dJ R
 have HC:Hid (∀wr,Gr W wr->wr.cell? ⟨w.heap.size,0,none⟩=some (.slice Ap f.params.length cp)/\wr.cell? ⟨w.heap.size,2,none⟩=some (.slice As f.slots.length cs)):=fun wr g=>by have:=(g.heap _ (by omega)).trans ((g1.heap _ (cX q0)).trans q0);exact⟨tv _ _ 0 _ _ _ this,tv _ _ 2 _ _ _ this⟩
 have HR:Hid (∀wr,Gr W wr->wr.heap[I.heap.size]?=some (.cells #[.slice none 0 0,.slice none 0 0] 41 (0,0))):=fun wr g=>(g.heap _ (by omega)).trans q1;have af:Hid ((Rf.input f k).args=Rf.argsP k f.params):=gD f k fun z C=>(ak z C).1;have ah:Hid ((Rf.input f k).mem=f.slots.map fun n=>List.replicate n.toNat 0):=by show _=_;rfl
 have aV:Hid (∀(i:Nat)(z:Int),f.params[i]?=some z->∃b off,Ap=some ⟨b,off,none⟩/\∀wr,Gr w wr->wr.cell? ⟨b,off+i,none⟩=some (.int .i64 z)):=fun i z C=>by obtain⟨A',c',e,-,-,h3⟩:=HP.out;injection e with e1 e2 e3;obtain⟨b,off,e4,hb,h4⟩:=h3 (by have:=(sR.1 C).1;omega);exact⟨b,off,e1.trans e4,fun wr g=>(g.cell _ _ hb).trans (h4 i z C)⟩
 have aX:Hid (∀(i:Nat)(z:Int),f.slots[i]?=some z->∃b off,As=some ⟨b,off,none⟩/\∀wr,Gr w wr->wr.cell? ⟨b,off+i,none⟩=some (.int .i64 z)):=fun i z C=>by obtain⟨A',c',e,-,-,h3⟩:=HS.out;injection e with e1 e2 e3;obtain⟨b,off,e4,hb,h4⟩:=h3 (by have:=(sR.1 C).1;omega);exact⟨b,off,e1.trans e4,fun wr g=>(g.cell _ _ hb).trans (h4 i z C)⟩
 obtain⟨b,aC⟩:=xJ V.heap.size;obtain⟨t,a3⟩:=xJ W.heap.size;have HV:Hid (V.heap.size=t+1):=by show _=_;omega
 have aZ:=dJ aC;have ar:Hid (t<b):=by show _<_;omega
 have aR:Hid (w.heap.size+2<=t):=by show _<=_;omega
 rw[a3]at q2
 have ax:Hid (∀u,Gr V u->u.cell? ⟨t,0,none⟩=some (.slice none 0 0)/\u.frozen? ⟨t,0,none⟩=false):=fun u g=>by have:=(g.heap _ (cX q2)).trans q2;exact⟨tv _ _ 0 _ _ _ this,tx _ _ 0 _ _ this⟩
 have ab:Hid (RA t b V ((V.alloc (.cells (Array.replicate f.params.length (Value.int .u32 0)) 22)).setCell ⟨t,0,none⟩ (.slice (some ⟨b,0,none⟩) f.params.length f.params.length)) (List.replicate f.params.length 0)):=by
  refine⟨?_,?_,?_⟩
  ·refine FrS.weaken (S:=fun q=>q=t\/V.heap.size<=q) (((FrS.of_gr ((tX V).alloc _)).trans ((FrS.refl (fun q=>q=t) _).setCell (p:=⟨t,0,none⟩) rfl _)).mono fun q hq=>.inl hq) fun q hq e=>e.elim (fun e=>e) (fun e=>by omega)
  ·rw[List.length_replicate];have:=cY (i:=0) (.slice (some ⟨b,0,none⟩) f.params.length f.params.length) (((tX V).alloc (.cells (Array.replicate f.params.length (Value.int .u32 0)) 22)).heap _ (cX q2) |>.trans q2);exact this
  ·refine(tH _ ⟨t,0,none⟩ _ b (by show b≠t;omega)).trans ?_;rw[<-aC,heap_alloc_new];simp
 have au:Hid (∀(wr:World) zs,RA t b V wr zs->Gr W wr):=fun wr zs h=>gr_frs' R h.fr (fun q hq=>by omega);have aT:Hid (∀(wr:World) va (q:Nat) (us:List Value) (H:Option Addr) (J:Nat),CS t V wr va (Rf.input f k).mem q us H J->Gr W wr):=fun wr va q us H J h=>gr_frs' R h.fr (fun q hq=>by omega);obtain⟨k0,k2⟩:=HC.out V R;have a8:=fun o=>(HC.out (V.alloc o) (R.alloc o)).1;have z0:=fun o=>(ax.out (V.alloc o) ((tX V).alloc o)).1;have z1:=fun o=>(ax.out (V.alloc o) ((tX V).alloc o)).2;have aI:=fun u:World=>mt u f.params.length (by omega);have aS:Hid (Gr W ((V.alloc (.cells (Array.replicate f.params.length (Value.int .u32 0)) 22)).setCell ⟨t,0,none⟩ (.slice (some ⟨b,0,none⟩) f.params.length f.params.length))):=au.out _ _ ab.out;obtain⟨m0,-⟩:=HC.out _ aS.out;have aw:=dJ s0;have av:=dJ ak;have ay:=dJ aK;have ba:=dJ hbt;have Q:(k:Int)<4294967296:=by omega
 clear q0 q1 q2 g0 g1 R ak aK hbt s0 s1 s2 hv
 go_enter func47, ntmps47
 go_wp2;clear k0 a8 k2 z0 z1 m0 aI
 go_loopw [1,6,7] (fun s1 s6 _ wr=>∃(m:Nat)(iv:Int),m<=f.params.length/\iv=(m:Int)-1/\s6=.int .i64 iv/\s1=.int .i64 ((k:Int) / Wd.sz (Rf.bitsOf (f.params.drop m)))/\Hid (RA t b V wr (Rf.argsM k f.params m))) (fun _ s6 _ _=>(intOf s6+1).toNat)
 case atStart=>exact⟨f.params.length,_,tS _,rfl,rfl,by rw[List.drop_length];simp[Rf.bitsOf,Wd.sz],by rw[Rf.argsM_start];exact ab.out⟩
 case round =>
  obtain⟨m,iv,hm,aG,rfl,rfl,B⟩:=hrel;have L:=au.out _ _ B.out;obtain⟨c0,c2⟩:=HC.out wr L
  cases m with
  | succ i =>
   obtain rfl:iv=(i:Int):=by omega
   obtain⟨z,C⟩:∃z,f.params[i]?=some z:=⟨_,sQ (by omega)⟩;obtain⟨bp,op,rfl,O⟩:=aV.out i z C;obtain⟨ad,ae⟩:=av.out z (sS C);have hs:=gN ad ae;have K:=Wd.sz_pos z;have am:=gP ad ae;have F:=dJ (Rf.argsM_step k f.params i z C);have D:=dJ (Rf.left_step k f.params i z C fun y hy=>(av.out y hy).1);obtain⟨x,hx⟩:=xJ ((k:Int) / Wd.sz (Rf.bitsOf (f.params.drop (i+1))));have aa:0<=x:=by rw[<-hx];exact tQ (by omega) (Int.le_of_lt (Wd.sz_pos _))
   have a6:x<4294967296:=by rw[<-hx];exact Int.lt_of_le_of_lt (Int.ediv_le_self _ (by omega)) Q
   rw[hx]at F D ⊢;obtain⟨s,aJ⟩:=xJ (Wd.sz z);rw[aJ]at hs K am F D;clear hx aJ;obtain⟨y,hy⟩:=xJ (x%s);obtain⟨d,hd⟩:=xJ (x / s);have ap:0<=y:=by rw[<-hy];exact Int.emod_nonneg x (Int.ne_of_gt K)
   have aq:y<s:=by rw[<-hy];exact Int.emod_lt_of_pos x K
   have aN:y<=4294967295:=by clear hs Q;omega
   have ht:x.tmod s=y:=by rw[Int.tmod_eq_emod_of_nonneg aa];exact hy
   have hq:x.tdiv s=d:=by rw[Int.tdiv_eq_ediv_of_nonneg aa];exact hd
   have be:0<=d:=by rw[<-hd];exact tQ aa (Int.le_of_lt K)
   have a4:d<=x:=by rw[<-hd];exact Int.ediv_le_self s aa
   rw[hy]at F;rw[hd]at D;have an:=B.out.st;rw[Rf.argsM_len _ _ _ (by omega)]at an;have a0:=tv _ _ 0 _ _ _ an;obtain⟨old,ac⟩:∃z,(Rf.argsM k f.params (i+1))[i]?=some z:=⟨_,sQ (by rw[Rf.argsM_len _ _ _ (by omega)];omega)⟩;have a1:wr.cell? ⟨b,i,none⟩=some (.int .u32 old):=by rw[tv _ _ i _ _ _ B.out.row];simp[ac]
   have a2:=tx _ _ i _ _ B.out.row
   have E:Hid (RA t b V (wr.setCell ⟨b,i,none⟩ (.int .u32 y)) (Rf.argsM k f.params i)):=by show RA _ _ _ _ _;rw[F.out];exact B.out.set aZ.out ar.out i y
   have bd:=O wr (HG.out.trans L);have mixed:(prog).follows .mixedOrders=true:=by kernel_rfl
   have aF:(i:Int)<(f.params.length:Int):=by omega
   have a9:s≠0:=Int.ne_of_gt K;have bm:=IntWalk.u32_in y ⟨ap,by omega⟩;have bf:d<=4294967295:=by clear hs Q;omega
   have bn:x<=4294967295:=by clear hs Q;omega
   have bk:s<=4294967296:=am;clear an ac B L O C F hy hd Q a6 am K aq a4 aG;go_wp2
   go_region
   all_goals go_wp2
   exact⟨⟨i,_,by omega,rfl,rfl,by rw[D.out],E.out.gr ((tX _).drew)⟩,by simp[intOf]⟩
  | zero =>
   obtain rfl:iv=-1:=by omega
   have C:Rf.argsM k f.params 0=(Rf.input f k).args:=by rw[af.out];rfl
   rw[C]at B;have aj:(Rf.input f k).args.length<=1000:=by rw[af.out,Rf.argsP_len];omega
   have aU:Hid (MS t V wr (Rf.input f k).args (some ⟨b,0,none⟩) (Rf.input f k).args.length (Rf.input f k).mem 0 [] none 0):=⟨⟨B.out.fr,B.out.st,rfl,Own1.nil _ _ _,fun j u l h=>by simp at h⟩,B.out.own (by have:=ar.out;omega) aj⟩;have aQ:=dJ aj;have N:Hid ((Rf.input f k).mem.length=f.slots.length):=by show _=_;rw[ah.out,tt]
   obtain⟨b1,aB⟩:=xJ ((k:Int) / Wd.sz (Rf.bitsOf (f.params.drop 0)));rw[aB];clear B L aG hm C aB aj;go_wp2
   go_loopw [8] (fun s8 wr=>∃(q:Nat)(us:List Value)(H:Option Addr)(J:Nat),q<=f.slots.length/\s8=.int .i64 (q:Int)/\Hid (MS t V wr (Rf.input f k).args (some ⟨b,0,none⟩) (Rf.input f k).args.length (Rf.input f k).mem q us H J)) (fun s8 _=>f.slots.length-(intOf s8).toNat)
   case atStart=>exact⟨0,[],none,0,tR _,rfl,aU⟩
   case round =>
    obtain⟨q,us,H,J,hq,rfl,r⟩:=hrel;have L:=aT.out _ _ _ _ _ _ r.out.cs;obtain⟨-,c2⟩:=HC.out wr L;by_cases a5:q<f.slots.length
    ·obtain⟨z,C⟩:∃z,f.slots[q]?=some z:=⟨_,sQ a5⟩;obtain⟨bp,op,rfl,O⟩:=aX.out q z C;obtain⟨aO,a7⟩:=ay.out z (sS C);obtain⟨m,rfl⟩:=tb aO;have hl:(Rf.input f k).mem[q]?=some (List.replicate m 0):=by rw[ah.out,td,C];rfl
     have aH:m<=1000:=by omega
     have aI:=fun u:World=>ip u m aH;have aW:=dJ (gL wr m aH)
     have M:Hid (∀G,Gr wr G->G.cell? ⟨t,1,none⟩=some (.slice H q J)/\G.frozen? ⟨t,1,none⟩=false/\Own1 (t+1) 33 G (.slice H q J) us/\t+1<=G.heap.size/\G.cell? ⟨w.heap.size,2,none⟩=some (.slice (some ⟨bp,op,none⟩) f.slots.length cs)/\G.cell? ⟨bp,op+q,none⟩=some (.int .i64 (m:Int))):=fun G R=>by have Y:=r.out.cs.grow HV.out R;exact⟨tv _ _ 1 _ _ _ Y.st,tx _ _ 1 _ _ Y.st,Y.own,by have:=Y.fr.size;have:=HV.out;omega,(HC.out G (L.trans R)).2,O G (HG.out.trans (L.trans R))⟩
     have E:Hid (∀(w1 G:World)(aP:Obj)(u:Value)(A2:Option Addr)(c2:Nat),Gr wr w1->RowOf wr.heap.size 3 w1 u ((List.replicate m (0:Int)).map (Value.int .i64))->(w1.alloc aP).grownBy G (Value.slice H q J).ownBlock->Own1 (t+1) 33 G (.slice A2 (q+1) c2) (us++[u])->_):=fun w1 G aP u A2 c2 g1 hu hg Z=>MS.push HV.out r.out hl g1 hu hg Z;have mixed:(prog).follows .mixedOrders=true:=by kernel_rfl
     have aY:Hid (us.length=q):=r.out.cs.len;obtain⟨x4,z4,-,-,x5,x6⟩:=M.out wr (tX _);have Q4:=fun o=>(M.out (wr.alloc o) ((tX wr).alloc o)).1;have bc:=fun o o'=>(M.out ((wr.alloc o).alloc o') (((tX wr).alloc o).alloc o')).1;have bj:(q:Int)<(f.slots.length:Int):=by omega
     clear C hl O r L aO a7 c2;go_wp2
     go_region_law_o (refine eq (n:=q) (v:=.slice H q J) underlying25 aF ap aq aN rfl (by omega) rfl (.tmp 48) (.tmp 55) rfl aY.out rfl (M.out _ (((tX wr).alloc (.cells (Array.replicate m (Value.int .i64 0)) 3)).drew)).2.2.1 rfl (jP wr _) (by omega) (M.out _ (((tX wr).alloc (.cells (Array.replicate m (Value.int .i64 0)) 3)).drew)).2.2.2.1 ?_;intro A2 c2 G Z aD aA;have ag:=dJ (E.out ((wr.alloc (.cells (Array.replicate m (Value.int .i64 0)) 3)).drew) G (.cells #[.slice (some ⟨wr.heap.size,0,none⟩) m m] 33) (.slice (some ⟨wr.heap.size,0,none⟩) m m) A2 c2 (((tX wr).alloc _).drew) aW.out aD Z);have bs:=ag.out.1.1;have bu:=ag.out.1.2;clear Z aD aA)
     all_goals go_wp2
     all_goals
      exact⟨⟨q+1,_,A2,c2,by omega,by go_num,ag.out.2⟩,by simp[intOf];omega⟩
    ·obtain rfl:q=f.slots.length:=by omega
     obtain⟨b0,b1⟩:=crw2 r.out.cs.st 0 1;have al:=HR.out _ L;obtain⟨r0,r1⟩:=crw2 al 0 1;obtain⟨f0,f1⟩:=frw2 al 0 1;obtain⟨w9,aM⟩:=xJ ((wr.setCell ⟨I.heap.size,0,none⟩ (.slice (some ⟨b,0,none⟩) (Rf.input f k).args.length (Rf.input f k).args.length)).setCell ⟨I.heap.size,1,none⟩ (.slice H f.slots.length J));have hF:FrS (·=I.heap.size) wr w9:=by rw[<-aM];exact((FrS.refl (·=I.heap.size) wr).setCell (p:=⟨I.heap.size,0,none⟩) rfl _).setCell (p:=⟨I.heap.size,1,none⟩) rfl _
     have h9:=cY (i:=1) (.slice H f.slots.length J) (cY (i:=0) (.slice (some ⟨b,0,none⟩) (Rf.input f k).args.length (Rf.input f k).args.length) al);rw[aM]at h9;have aE:Gr w w9:=gr_frs' (HG.out.trans L) hF (fun p T=>by have:=aw.out;omega);have bh:I.heap.size<t+1:=by have:=aw.out;have:=aR.out;omega
     have ao:=qr (w:=w9) (r.out.cs.len.trans N.out.symm) (by rw[N.out];exact dh r.out.cs.own fun p T=>hF.block _ (de r.out.cs.own T).2.1 (by have:=(de r.out.cs.own T).1;show p≠_;omega)) (fun j u l h1 h2=>(r.out.cs.rows j u l h1 h2).same fun p cur T hc=>hF.block _ (cX hc) (by show p≠_;omega)) (by rw[N.out];omega) (fun l hl=>by
       rw[ah.out]at hl
       obtain⟨z,C,rfl⟩:=List.mem_map.1 hl
       have:=ay.out z C
       simp;omega)
     have az:=(dh r.out.arg fun p T=>hF.block _ (de r.out.arg T).2.1 (by have:=(de r.out.arg T).1;show p≠_;omega):Own1 (t+1) 22 w9 _ _);have aL:=jH az aQ.out;obtain⟨z0,z1⟩:=crw2 h9 0 1
     have E:Hid ((∃A' c' U X,(Value.agg #[.slice (some ⟨b,0,none⟩) (Rf.input f k).args.length (Rf.input f k).args.length,.slice H f.slots.length J])=(.agg #[.slice A' (Rf.input f k).args.length c',.slice U (Rf.input f k).mem.length X])/\InpAt w9.heap.size w9 (.slice A' (Rf.input f k).args.length c') (.slice U (Rf.input f k).mem.length X) (Rf.input f k))/\Gr w w9):=by
      refine⟨⟨_,_,H,J,by rw[N.out],aL,?_,?_⟩,aE⟩
      ·rw[N.out]at ao ⊢;exact ao
      ·intro a ha;rw[af.out]at ha;exact eG _ _ _ ha
     clear r hF h9 ao az aL aE L;go_wp2;refine tA (v:=.agg #[.slice (some ⟨b,0,none⟩) (Rf.input f k).args.length (Rf.input f k).args.length,.slice H f.slots.length J]) (by simp[results,results47,go_sem,z0,z1]) rfl ?_;obtain⟨⟨A',c',U,X,he,hi⟩,hg⟩:=E.out;exact⟨⟨A',c',U,X,by rw[he],hi⟩,hg⟩
namespace Rf
def Dbl (n B:Int):Prop:=(B<=8->n=Wd.sz B)/\(8<B->256<n)/\1<=n/\n<=512
theorem sz_succ {B:Int}(h:0<=B):Wd.sz (B+1)=2*Wd.sz B:=by unfold Wd.sz;rw[Int.toNat_add h (by decide),show (1:Int).toNat=1 from rfl,Int.pow_succ,Int.mul_comm]
theorem sz_small {B:Int}(h0:0<=B)(h:B<=8):Wd.sz B<=256:=by
 unfold Wd.sz;have:=Nat.pow_le_pow_right (n:=2) (by decide) (show B.toNat<=8 by omega);have d:(2:Int) ^ B.toNat<=2 ^ 8:=by exact_mod_cast this
 have g:(2:Int) ^ 8=256:=by decide
 omega
theorem Dbl.zero:Dbl 1 0:=⟨fun _=>rfl,fun h=>absurd h (by decide),by decide,by decide⟩
theorem Dbl.step {n B:Int}(h:Dbl n B)(hB:0<=B)(hn:n<=256):Dbl (2*n) (B+1):=by
 obtain⟨g,j,l,m⟩:=h;have d:B<=8:=Classical.byContradiction fun q=>by have:=j (by omega);omega
 have e:=g d;refine⟨fun _=>by rw[sz_succ hB,e],fun q=>?_,by omega,by omega⟩;have:B=8:=by omega
 subst this;have:Wd.sz 8=256:=by decide
 omega
theorem Dbl.jump {n B C:Int}(h:Dbl n B)(hB:0<=B)(hn:256<n)(hC:B<=C):Dbl n C:=by
 obtain⟨d,m,g,j⟩:=h;have l:8<B:=Classical.byContradiction fun q=>by have:=d (by omega);have:=sz_small hB (by omega);omega
 exact⟨fun q=>absurd q (by omega),fun _=>hn,g,j⟩
end Rf
theorem jK {w:World}{vf:Value}{f:Fn}(hf:FnAt w.heap.size w vf f)(hl:f.params.length<=3)(hz:∀z∈f.params,0<=z/\z<=32) :
  Calls prog 45 #[vf] w fun e w'=>∃n,e=.returned (.int .i64 n)/\Rf.Dbl n (Rf.bitsOf f.params)/\Gr w w':=by
 obtain⟨vp,vs,vb,rfl,hp,C,hb⟩:=hf;obtain⟨H,M,rfl,p1,p2,S⟩:=hp;obtain⟨U,cs,rfl,-⟩:=C;obtain⟨T,cb,rfl,-⟩:=hb;have L:=dJ hz;have Z:=dJ S;obtain⟨W,Q⟩:=xJ (w.alloc (.cells #[.slice H f.params.length M,.int .i64 f.ret,.slice U f.slots.length cs,.slice T f.blocks.length cb] 36));have N:Gr w W:=by rw[<-Q];exact(tX w).alloc _
 have J:=dJ N;have I:Hid (∀u,Gr W u->u.cell? ⟨w.heap.size,0,none⟩=some (.slice H f.params.length M)):=fun u g=>by rw[<-Q]at g;exact da _ _ 0 g rfl
 clear hz N S
 go_enter func45, ntmps45
 go_wp2
 go_loopw [3,4,5] (fun E F _ wr=>∃(i:Nat)(n:Int),i<=f.params.length/\F=.int .i64 (i:Int)/\E=.int .i64 n/\Hid (Rf.Dbl n (Rf.bitsOf (f.params.take i)))/\Hid (Gr W wr)) (fun _ F _ _=>f.params.length-(intOf F).toNat)
 case atStart=>exact⟨0,1,tR _,rfl,rfl,Rf.Dbl.zero,tX _⟩
 case round =>
  obtain⟨i,n,hi,rfl,rfl,d,j⟩:=hrel;have c0:=I.out wr j.out;by_cases l:i<f.params.length
  ·obtain⟨z,hz⟩:∃z,f.params[i]?=some z:=⟨_,sQ l⟩;obtain⟨b,off,rfl,B,R⟩:=Z.out (by omega);have A:Hid (∀u,Gr W u->u.cell? ⟨b,off+i,none⟩=some (.int .i64 z)):=fun u g=>((J.out.trans g).cell _ _ B).trans (R i z hz);obtain⟨D,ac⟩:=L.out z (sS hz);have K:Hid (Rf.bitsOf (f.params.take (i+1))=Rf.bitsOf (f.params.take i)+z):=by show _=_;rw[List.take_add_one,hz];exact Rf.bitsOf_snoc _ _
   have q:Hid (0<=Rf.bitsOf (f.params.take i)):=(Rf.bitsOf_le fun y hy=>L.out y (List.mem_of_mem_take hy)).1;have X:=j;have t:Hid (i<f.params.length):=l;have aa:(i:Int)<(f.params.length:Int):=by omega
   obtain⟨m,rfl⟩:=tb D;clear hz R l hi j;go_wp2
   go_loopw [3,5] (fun E G w2=>∃(k:Nat)(n:Int),k<=m/\G=.int .i64 (k:Int)/\E=.int .i64 n/\Hid (Rf.Dbl n (Rf.bitsOf (f.params.take i)+k))/\Hid (Gr W w2)) (fun _ G _=>m-(intOf G).toNat)
   case atStart=>exact⟨0,n,tR _,rfl,rfl,by simpa using d,X⟩
   case round =>
    obtain⟨k,n,hk,rfl,rfl,d,j⟩:=hrel;have c0:=I.out wr j.out;have c1:=A.out wr j.out;obtain⟨-,-,n0,n1⟩:=d.out;by_cases l:k<m
    ·have ab:(k:Int)<(m:Int):=by omega
     by_cases p:n<=256
     ·have r:Hid (Rf.Dbl (2*n) (Rf.bitsOf (f.params.take i)+((k+1:Nat):Int))):=by
       have:=d.out.step (by have:=q.out;omega) p;have e:Rf.bitsOf (f.params.take i)+(k:Int)+1=Rf.bitsOf (f.params.take i)+((k+1:Nat):Int):=by omega
       rw[e]at this;exact this
      clear d;go_wp2;exact⟨⟨k+1,2*n,by omega,by go_num,by first|rfl|go_num,r.out,j⟩,by simp[intOf];omega⟩
     ·have r:Hid (Rf.Dbl n (Rf.bitsOf (f.params.take (i+1)))):=by
       rw[K.out];exact d.out.jump (by have:=q.out;omega) (by omega) (by omega)
      have O:256<n:=by omega
      clear d p;go_wp2;exact⟨⟨i+1,n,t.out,by go_num,rfl,r.out,j⟩,by have:=t.out;simp[intOf];omega⟩
    ·obtain rfl:k=m:=by omega
     have r:Hid (Rf.Dbl n (Rf.bitsOf (f.params.take (i+1)))):=by rw[K.out];exact d.out
     clear d;go_wp2;exact⟨⟨i+1,n,t.out,by go_num,rfl,r.out,j⟩,by have:=t.out;simp[intOf];omega⟩
  ·obtain rfl:i=f.params.length:=by omega
   have Y:Hid (Rf.Dbl n (Rf.bitsOf f.params)):=by have:=d.out;rwa [tE]at this
   go_wp2;go_ret;exact⟨_,rfl,Y.out,J.out.trans j.out⟩
theorem fV {w:World}{vf:Value}{f:Fn}(hf:FnAt w.heap.size w vf f)(hn:fH f):Calls prog 23 #[vf] w (RG (dw f) w):=by
 have H:Hid (∀u,Gr w u->Calls prog 44 #[vf] u (RG (.int .i64 (Ref.validate f)) u)):=fun u q=>fF vf f u (hf.gr q) hn
 have z:Hid (Ref.validate f=0->∀u,Gr w u->Calls prog 45 #[vf] u fun e w'=>∃n,e=.returned (.int .i64 n)/\Rf.Dbl n (Rf.bitsOf f.params)/\Gr u w'):=fun h u q=>by obtain⟨S,h2,-⟩:=Rf.valid_widths h;exact jK (hf.gr q) S h2
 have t:Hid (dw f=.tuple #[.int .i64 (if (if Ref.validate f≠0 then Ref.validate f else if 8<Rf.bitsOf f.params then 3 else 0)=0 then Wd.sz (Rf.bitsOf f.params) else 0),.int .i64 (if Ref.validate f≠0 then Ref.validate f else if 8<Rf.bitsOf f.params then 3 else 0)]):=by show _=_;rfl
 have d:Hid (Ref.validate f=0->0<=Rf.bitsOf f.params):=fun h=>(Rf.bitsOf_le (Rf.valid_widths h).2.1).1;obtain⟨vp,vs,vb,rfl,hp,R,hb⟩:=hf;obtain⟨F,L,rfl,-⟩:=hp;obtain⟨G,cs,rfl,-⟩:=R;obtain⟨E,K,rfl,-⟩:=hb;obtain⟨W,X⟩:=xJ (w.alloc (.cells #[.slice F f.params.length L,.int .i64 f.ret,.slice G f.slots.length cs,.slice E f.blocks.length K] 36));have m:Hid (Gr w W):=by show Gr _ _;rw[<-X];exact(tX w).alloc _
 have N:Hid (∀u,Gr W u->FBox w.heap.size u f F G E L cs K):=fun u g=>by rw[<-X]at g;exact FBox.new g rfl
 obtain⟨Y,Z,k2,k3⟩:=N.out W (tX W);obtain⟨V,U⟩:=xJ (Ref.validate f);obtain⟨B,T⟩:=xJ (Rf.bitsOf f.params);rw[U]at H z t d;rw[T]at z t d;clear U T hn;by_cases A:V=0
 ·subst A;have I:=dJ (z.out rfl);have j:Hid (dw f=.tuple #[.int .i64 (if (if 8<B then (3:Int) else 0)=0 then Wd.sz B else 0),.int .i64 (if 8<B then 3 else 0)]):=by show _=_;rw[t.out];simp
  have M:=dJ (d.out rfl);clear z t d;by_cases C:8<B
  ·have l:Hid (dw f=.tuple #[.int .i64 0,.int .i64 3]):=by show _=_;rw[j.out];simp[C]
   have J:Hid (∀u,Gr w u->Calls prog 45 #[.agg #[.slice F f.params.length L,.int .i64 f.ret,.slice G f.slots.length cs,.slice E f.blocks.length K]] u fun e w'=>∃n,e=.returned (.int .i64 n)/\256<n/\Gr u w'):=fun u q=>(I.out u q).mono fun e w' ⟨n,he,hd,g⟩=>⟨n,he,hd.2.1 C,g⟩;clear I C
   go_enter func23, ntmps23
   go_wp2_with (first|(go_at_call 44;refine(H.out _ m.out).mono ?_;rintro e y ⟨rfl,r⟩;have p:Hid (Gr W y):=r;clear r;obtain⟨Y,Z,k2,k3⟩:=N.out y p.out)|(go_at_call 45;refine(J.out _ (m.out.trans p.out)).mono ?_;rintro e w2 ⟨n,rfl,hn,O⟩))
   go_ret2;exact⟨dk l.out.symm,m.out.trans (p.out.trans O)⟩
  ·have l:Hid (dw f=.tuple #[.int .i64 (Wd.sz B),.int .i64 0]):=by show _=_;rw[j.out];simp[C]
   have hs:=Rf.sz_small M.out (by omega:B<=8);have J:Hid (∀u,Gr w u->Calls prog 45 #[.agg #[.slice F f.params.length L,.int .i64 f.ret,.slice G f.slots.length cs,.slice E f.blocks.length K]] u (RG (.int .i64 (Wd.sz B)) u)):=fun u q=>(I.out u q).mono fun e w' ⟨n,he,hd,g⟩=>⟨by rw[he,hd.1 (by omega)],g⟩;have Q:¬256<Wd.sz B:=by omega
   obtain⟨s,D⟩:=xJ (Wd.sz B);rw[D]at J l Q;clear I C hs D
   go_enter func23, ntmps23
   go_wp2_with (first|(go_at_call 44;refine(H.out _ m.out).mono ?_;rintro e y ⟨rfl,r⟩;have p:Hid (Gr W y):=r;clear r;obtain⟨Y,Z,k2,k3⟩:=N.out y p.out)|(go_at_call 45;refine(J.out _ (m.out.trans p.out)).mono ?_;rintro e w2 ⟨rfl,O⟩))
   go_ret2;exact⟨dk l.out.symm,m.out.trans (p.out.trans O)⟩
 ·have S:(V != 0)=true:=by simpa using A
  have j:Hid (dw f=.tuple #[.int .i64 0,.int .i64 V]):=by show _=_;rw[t.out,tB A,tC A]
  clear z t d A
  go_enter func23, ntmps23
  go_wp2_with (go_at_call 44;refine(H.out _ m.out).mono ?_;rintro e y ⟨rfl,r⟩);go_ret2;exact⟨dk j.out.symm,m.out.trans r⟩
end
