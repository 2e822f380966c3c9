/- Parts. -/
import Derived.Test.YtjkajidbdmbbaaaGreatM47
set_option linter.unusedSimpArgs false
set_option linter.unusedVariables false
set_option maxRecDepth 100000
set_option maxHeartbeats 16000000
open Go.Proofs.Tryz
namespace Go.Proofs.YtjkajidbdmbbaaaGreat
section
open Go.RowKit
namespace Rf
theorem and_mask {x n:Int}(hx:0<=x)(hx2:x<4294967296)(h0:0<=n)(h1:n<=32):bits .and .i64 x (Wd.sz n-1)=x%Wd.sz n:=by
 obtain⟨y,rfl⟩:=sD hx;obtain⟨m,rfl⟩:=sD h0;have g:Wd.sz (m:Int)=((2 ^ m:Nat):Int):=by unfold Wd.sz;simp
 have l:2 ^ m<=4294967296:=by have:2 ^ m<=2 ^ 32:=Nat.pow_le_pow_right (by decide) (by omega);simpa using this
 have j:=Nat.two_pow_pos m;rw[g,show ((2 ^ m:Nat):Int)-1=((2 ^ m-1:Nat):Int) by omega]
 have d:∀z:Nat,z<4294967296->(BitVec.ofInt 64 (z:Int)).toNat=z:=fun z hz=>by rw[BitVec.toNat_ofInt];have:((z:Int)%((2 ^ 64:Nat):Int))=z:=Int.emod_eq_of_lt (by omega) (by simp;omega);rw[this];simp
 show IntKind.i64.wrap (((BitVec.ofInt 64 (y:Int) &&& BitVec.ofInt 64 ((2 ^ m-1:Nat):Int)).toNat:Nat):Int)=_;rw[BitVec.toNat_and,d _ (by omega),d _ (by omega),Nat.and_two_pow_sub_one_eq_mod,kS (by omega) (by have:=Nat.mod_le y (2 ^ m);omega)];simp
theorem argsP_snoc (k:Int)(l:List Int)(i:Nat)(w:Int)(h:l[i]?=some w):((argsP k l).take (i+1))=(argsP k l).take i++[k / Wd.sz (bitsOf (l.drop (i+1)))%Wd.sz w]:=by
 induction l generalizing i with
 | nil=>simp at h
 | cons a r ih =>
  cases i with
  | zero=>simp at h;subst h;simp[argsP]
  | succ i=>rw[argsP,te,ih i (by simpa using h)];simp
theorem argsP_len (k:Int):∀l:List Int,(argsP k l).length=l.length
 | []=>rfl
 | w::r=>by rw[argsP,List.length_cons,argsP_len k r,List.length_cons]
theorem bits_tail:∀(l:List Int)(i:Nat),(∀z∈l,0<=z)->0<=bitsOf (l.drop i)/\bitsOf (l.drop i)<=bitsOf l
 | [],i,_=>by simp[bitsOf]
 | a::r,0,h=>⟨(prod_bits _ h).1,Int.le_refl _⟩
 | a::r,i+1,h=>by
  have:=bits_tail r i fun z hz=>h z (by simp[hz])
  have:=h a (by simp);rw[tm,bitsOf];omega
theorem bits_drop {l:List Int}{i:Nat}{w:Int}(h:l[i]?=some w):bitsOf (l.drop i)=w+bitsOf (l.drop (i+1)):=by obtain⟨d,g⟩:=su.1 h;rw[sJ d,g,bitsOf]
end Rf
theorem lT (n:Nat):madeCells #[Value.int .i64 0] n=Array.replicate n (Value.int .i64 0):=by
 apply Array.ext_getElem?;intro i;rcases sZ i n with h|h
 ·unfold madeCells;rw[Array.getElem?_map,Array.getElem?_range,sU h];simp[h,Nat.mod_one]
 ·rw[Array.getElem?_eq_none (by rw[size_madeCells];omega),Array.getElem?_eq_none (by simp;omega)]
theorem lU (w:World)(n:Nat)(hn:n<=1000):(Instr.makeSlice 33 (.int .i64 n) (.int .i64 n)).run prog w=.ok (.slice (some ⟨w.heap.size,0,none⟩) n n) (w.alloc (.cells (Array.replicate n (Value.int .i64 0)) 3)):=by obtain⟨m,g,j,d,l⟩:=info_parts dH;have:=run_makeSlice (P:=prog) (w:=w) 33 3 m _ underlying33 g j .i64 .i64 n n (by omega) (by omega) (by rw[d];omega) (by rw[l];omega) (by omega);rw[this,d];simp only[sE,Nat.mul_one];rw[show (Value.int IntKind.i64 0).cells=#[Value.int .i64 0] from rfl,lT]
structure AS (Bo:Nat)(W w:World)(zs:List Int)(A:Option Addr)(c:Nat):Prop where
 fr:FrS (·=Bo) W w
 st:w.heap[Bo]?=some (.cells #[.slice A zs.length c,.slice none 0 0] 41 (0,0))
 own:Own1 (Bo+1) 22 w (.slice A zs.length c) (zs.map (Value.int .u32))
section
variable {Bo c c2:Nat}{W w w1 w2:World}{zs:List Int}{A A2:Option Addr}{tmp:Obj}{z:Int}
theorem AS.grow (h:AS Bo W w zs A c)(g:Gr w w1):AS Bo W w1 zs A c where
 fr:=h.fr.trans (FrS.of_gr g)
 st:=(g.heap _ (cX h.st)).trans h.st
 own:=h.own.gr g
theorem AS.push (hW:W.heap.size=Bo+1)(h:AS Bo W w zs A c)(g1:Gr w w1)(hg:(w1.alloc tmp).grownBy w2 (Value.slice A zs.length c).ownBlock)(ho2:Own1 (Bo+1) 22 w2 (.slice A2 (zs.length+1) c2) (zs.map (Value.int .u32)++[.int .u32 z])) :
  (w2.cell? ⟨Bo,0,none⟩=some (.slice A zs.length c)/\w2.frozen? ⟨Bo,0,none⟩=false)/\AS Bo W (w2.setCell ⟨Bo,0,none⟩ (.slice A2 (zs.length+1) c2)) (zs++[z]) A2 c2:=by
 have j:=h.own.gr g1;have g:FrS (fun q=>(Value.slice A zs.length c).ownBlock=some q) w1 w2:=((FrS.refl _ w1).alloc tmp).grown hg (fun q d=>.inl d);have u:w.heap.size<=w1.heap.size:=g1.size;have t:W.heap.size<=w.heap.size:=h.fr.size;have l:=(g1.heap _ (cX h.st)).trans h.st;have m:w2.heap[Bo]?=some (.cells #[.slice A zs.length c,.slice none 0 0] 41 (0,0)):=(g.block _ (cX l) (fun q=>by have:=(de j q).1;omega)).trans l;refine⟨⟨sQ _ _ 0 _ _ _ m,sR _ _ 0 _ _ m⟩,?_,?_,?_⟩
 ·have r:FrS (fun q=>(Value.slice A zs.length c).ownBlock=some q\/q=Bo) w1 (w2.setCell ⟨Bo,0,none⟩ (.slice A2 (zs.length+1) c2)):=(g.mono fun q d=>.inl d).setCell (p:=⟨Bo,0,none⟩) (.inr rfl) _;refine FrS.weaken (S:=fun q=>q=Bo\/W.heap.size<=q) ((h.fr.mono fun q d=>.inl d).trans ((FrS.of_gr g1).trans (r.mono fun q d=>?_))) fun q d e=>e.elim (fun e=>e) (fun e=>by omega);rcases d with e|e
  ·right;have:=(de j e).1;omega
  ·exact .inl e
 ·have:=cY (i:=0) (.slice A2 (zs.length+1) c2) m;rw[tA];exact this
 ·rw[tA,List.map_append];exact dh ho2 fun q d=>tc _ _ _ _ (by have:=(de ho2 d).1;show q≠Bo;omega)
end
theorem kB (w:World)(n:Nat)(hn:n<=1000):RowOf w.heap.size 3 ((w.alloc (.cells (Array.replicate n (Value.int .i64 0)) 3)).drew) (.slice (some ⟨w.heap.size,0,none⟩) n n) ((List.replicate n (0:Int)).map (Value.int .i64)):=by
 have d:((List.replicate n (0:Int)).map (Value.int .i64)).length=n:=by simp
 refine⟨some ⟨w.heap.size,0,none⟩,n,by rw[d],by rw[d];exact tx _,fun _=>?_⟩;have:=World.ownsRow_lit (base:=w.heap.size) (e:=3) (size:=1) w (Array.replicate n (Value.int .i64 0)) n (tx _) (by simp only[maxLen];omega) (by simp);have g:=fO this ((tE _).drew);unfold Own1;rw[d,List.map_replicate];simpa using g
theorem oA (w:World)(o:Obj):Value.slice (some ⟨w.heap.size+1,0,none⟩) 1 1=.slice (some ⟨((w.alloc o).drew).heap.size,0,none⟩) 1 1:=by have:((w.alloc o).drew).heap.size=w.heap.size+1:=World.size_alloc w o;rw[this]
structure MS (Bo:Nat)(V w:World)(zs:List Int)(A:Option Addr)(c:Nat)(mem:List (List Int))(q:Nat)(us:List Value)(A8:Option Addr)(c8:Nat):Prop where
 cs:CS Bo V w (.slice A zs.length c) mem q us A8 c8
 arg:Own1 (Bo+1) 22 w (.slice A zs.length c) (zs.map (Value.int .u32))
section
variable {Bo c q c8 c2:Nat}{W w w1 w2:World}{zs:List Int}{A A8 A2:Option Addr}{mem:List (List Int)}{us:List Value}{u:Value}{l:List Int}{tmp:Obj}
theorem MS.push (hW:W.heap.size=Bo+1)(h:MS Bo W w zs A c mem q us A8 c8)(hl:mem[q]?=some l)(g1:Gr w w1)(hu:RowOf w.heap.size 3 w1 u (l.map (Value.int .i64)))(hg:(w1.alloc tmp).grownBy w2 (Value.slice A8 q c8).ownBlock)(ho2:Own1 (Bo+1) 33 w2 (.slice A2 (q+1) c2) (us++[u])) :
  (w2.cell? ⟨Bo,1,none⟩=some (.slice A8 q c8)/\w2.frozen? ⟨Bo,1,none⟩=false)/\MS Bo W (w2.setCell ⟨Bo,1,none⟩ (.slice A2 (q+1) c2)) zs A c mem (q+1) (us++[u]) A2 c2:=by
 obtain⟨B,C⟩:=h.cs.push hW hl g1 hu hg ho2;refine⟨B,C,?_⟩;have m:=h.arg.gr g1;have g:=h.cs.own.gr g1;have d:FrS (fun p=>(Value.slice A8 q c8).ownBlock=some p) w1 w2:=((FrS.refl _ w1).alloc tmp).grown hg (fun p hp=>.inl hp);refine dh m fun k D=>?_;obtain⟨E,r,z,t⟩:=de m D;refine(tc _ _ _ _ (by show k≠Bo;omega)).trans (d.block _ r fun e=>?_);obtain⟨-,-,j,y⟩:=de g e;exact dc t y (by decide) rfl
end
theorem nM {B:Nat}{w:World}{v:Value}{p:List Int}(h:Own1 B 22 w v (p.map (Value.int .u32)))(hl:p.length<=1000):U32At w.heap.size w v p:=by obtain⟨A,c,rfl,d,-,-⟩:=dD h;have g:RowOf B 22 w (.slice A (p.map (Value.int .u32)).length c) (p.map (Value.int .u32)):=⟨A,c,rfl,d,fun _=>h⟩;have:=g.u32 (by omega);exact this
theorem fJ (k:Int):∀(l:List Int)(a:Int),a∈Rf.argsP k l->0<=a
 | [],a,h=>by cases h
 | w::r,a,h=>by
  rw[Rf.argsP]at h
  rcases List.mem_cons.1 h with rfl|h
  ·exact Int.emod_nonneg _ (Int.ne_of_gt (Wd.sz_pos w))
  ·exact fJ k r a h
theorem nj (f:Fn)(k:Int)(hp:∀w∈f.params,0<=w):(Rf.input f k).args=Rf.argsP k f.params:=by unfold Rf.input;exact(Rf.argsP_eq k f.params hp).symm
theorem iP (z L:Int):z+L-z=L:=by omega
theorem oS {k z L l x s y:Int}(hl:l=L)(hx:k / 2 ^ L.toNat=x)(hs:wrap64 (2 ^ z.toNat)=s)(hm:bits .and .i64 x (s-1)=y)(hs0:0<s)(hs1:s<=4294967296)(hy0:0<=y)(hy1:y<4294967296) :
  IntKind.u32.wrap (bits .and .i64 (k / 2 ^ l.toNat) (IntKind.i64.wrap (IntKind.i64.wrap (2 ^ z.toNat)-1)))=y:=by
 have d:IntKind.i64.wrap (s-1)=s-1:=by clear hx hs hm hl;exact kS (by omega) (by omega)
 have g:IntKind.u32.wrap y=y:=by clear hx hs hm hl hs0 hs1;exact IntWalk.u32_in y ⟨hy0,by omega⟩
 rw[hl,hx,IntWalk.i64_left (2 ^ z.toNat),hs,d,hm,g]
theorem oD {n:Int}(h0:0<=n)(h1:n<=32):Wd.sz n<=4294967296:=by
 unfold Wd.sz
 have d:(2:Int) ^ n.toNat<=2 ^ 32:=by
  have:=Nat.pow_le_pow_right (n:=2) (by decide) (show n.toNat<=32 by omega)
  exact_mod_cast this
 have g:(2:Int) ^ 32=4294967296:=by decide
 omega
theorem ni {w:World}{vf:Value}{f:Fn}(hf:FnAt w.heap.size w vf f)(hv:Ref.validate f=0)(hbt:Rf.bitsOf f.params<=32){k:Nat}(hk:k<4294967296) :
  Calls prog 46 #[vf,.int .i64 k] w fun e w'=>(∃A c A2 c2,e=.returned (.agg #[.slice A (Rf.input f k).args.length c,.slice A2 (Rf.input f k).mem.length c2])/\InpAt w'.heap.size w' (.slice A (Rf.input f k).args.length c) (.slice A2 (Rf.input f k).mem.length c2) (Rf.input f k))/\Gr w w':=by
 obtain⟨i0,be,bi,bj,bk⟩:=info_parts dH;obtain⟨i1,a1,a7,a8,ar⟩:=info_parts lH;obtain⟨i2,a2,a4,a5,a6⟩:=info_parts kT;obtain⟨a3,ac,bh,aI⟩:=Rf.valid_widths hv;have C1:Hid (∀u,Gr w u->Calls prog 43 #[vf] u (RG (.int .i64 (Rf.bitsOf f.params)) u)):=fun u q=>gQ (hf.gr q) a3 ac;obtain⟨vp,vs,vb,rfl,hp,hs,hb⟩:=hf;have HP:=dJ hp;have HS:=dJ hs;obtain⟨Ap,cp,rfl,-⟩:=hp;obtain⟨As,cs,rfl,-⟩:=hs;obtain⟨Ab,cb,rfl,-⟩:=hb;obtain⟨I,al⟩:=xJ (w.alloc (.cells #[.slice Ap f.params.length cp,.int .i64 f.ret,.slice As f.slots.length cs,.slice Ab f.blocks.length cb] 36));obtain⟨W,hW⟩:=xJ (I.alloc (.cells #[.slice none 0 0,.slice none 0 0] 41));have s0:I.heap.size=w.heap.size+1:=by rw[<-al];simp
 have s1:W.heap.size=w.heap.size+2:=by rw[<-hW];simp[s0]
 have g0:Gr w I:=by rw[<-al];exact(tE _).alloc _
 have Y:Gr I W:=by rw[<-hW];exact(tE _).alloc _
 have q0:I.heap[w.heap.size]?=some (.cells #[.slice Ap f.params.length cp,.int .i64 f.ret,.slice As f.slots.length cs,.slice Ab f.blocks.length cb] 36 (0,0)):=by rw[<-al];exact heap_alloc_new _ _
 have q1:W.heap[I.heap.size]?=some (.cells #[.slice none 0 0,.slice none 0 0] 41 (0,0)):=by rw[<-hW];exact heap_alloc_new _ _
 have HG:=dJ (g0.trans Y)
 have HC:Hid (∀wr,Gr W wr->wr.cell? ⟨w.heap.size,0,none⟩=some (.slice Ap f.params.length cp)/\wr.cell? ⟨w.heap.size,1,none⟩=some (.int .i64 f.ret)/\wr.cell? ⟨w.heap.size,2,none⟩=some (.slice As f.slots.length cs)/\wr.cell? ⟨w.heap.size,3,none⟩=some (.slice Ab f.blocks.length cb)):=fun wr g=>by have:=(g.heap _ (by omega)).trans ((Y.heap _ (cX q0)).trans q0);exact⟨sQ _ _ 0 _ _ _ this,sQ _ _ 1 _ _ _ this,sQ _ _ 2 _ _ _ this,sQ _ _ 3 _ _ _ this⟩
 have HR:Hid (∀wr,Gr W wr->wr.heap[I.heap.size]?=some (.cells #[.slice none 0 0,.slice none 0 0] 41 (0,0))):=fun wr g=>(g.heap _ (by omega)).trans q1;have af:Hid ((Rf.input f k).args=Rf.argsP k f.params):=nj f k fun z D=>(ac z D).1;have ai:Hid ((Rf.input f k).mem=f.slots.map fun n=>List.replicate n.toNat 0):=by show _=_;rfl
 obtain⟨k0,k1,k2,k3⟩:=HC.out W (tE W);have aj:=dJ s1;have aA:=dJ s0;have az:=dJ ac;have aB:=dJ aI;have aQ:=dJ hbt
 have aW:Hid (∀(i:Nat)(z:Int),f.params[i]?=some z->∃b off,Ap=some ⟨b,off,none⟩/\∀wr,Gr w wr->wr.cell? ⟨b,off+i,none⟩=some (.int .i64 z)):=fun i z D=>by obtain⟨A',c',e,-,-,h3⟩:=HP.out;injection e with e1 e2 e3;obtain⟨b,off,e4,hb,h4⟩:=h3 (by have:=(su.1 D).1;omega);exact⟨b,off,e1.trans e4,fun wr g=>(g.cell _ _ hb).trans (h4 i z D)⟩
 have aY:Hid (∀(i:Nat)(z:Int),f.slots[i]?=some z->∃b off,As=some ⟨b,off,none⟩/\∀wr,Gr w wr->wr.cell? ⟨b,off+i,none⟩=some (.int .i64 z)):=fun i z D=>by obtain⟨A',c',e,-,-,h3⟩:=HS.out;injection e with e1 e2 e3;obtain⟨b,off,e4,hb,h4⟩:=h3 (by have:=(su.1 D).1;omega);exact⟨b,off,e1.trans e4,fun wr g=>(g.cell _ _ hb).trans (h4 i z D)⟩
 clear q0 q1 g0 Y ac aI hbt s0 s1
 go_enter func46, ntmps46
 go_wp2_with (go_at_call 43;refine(C1.out _ HG.out).mono ?_;rintro e K ⟨rfl,Y⟩;have ah:Hid (Gr W K):=Y;clear Y;have x0:=fun o=>(HC.out (K.alloc o) (ah.out.alloc o)).1);obtain⟨V,hV⟩:=xJ (K.alloc (.cells #[.slice none 0 0,.slice none 0 0] 41));rw[hV];obtain⟨C,O⟩:=xJ K.heap.size;rw[O];have GV:Gr K V:=by rw[<-hV];exact(tE _).alloc _
 have HV:Hid (V.heap.size=C+1):=by show _=_;rw[<-hV,<-O];simp
 have aP:Hid (AS C V V [] none 0):=⟨FrS.refl _ _,by rw[<-hV,<-O];exact heap_alloc_new _ _,Own1.nil _ _ _⟩;have ag:Hid (w.heap.size+2<=C):=by show _<=_;rw[<-O,<-aj.out];exact ah.out.size
 have ay:=dJ (ah.out.trans GV);have aR:Hid (∀(wr:World) zs A c,AS C V wr zs A c->Gr W wr):=fun wr zs A c h=>gr_frs' ay.out h.fr (fun q hq=>by have:=ag.out;have:=aj.out;omega);have aS:Hid (∀(wr:World) va (q:Nat) (us:List Value) (H:Option Addr) (J:Nat),CS C V wr va (Rf.input f k).mem q us H J->Gr W wr):=fun wr va q us H J h=>gr_frs' ay.out h.fr (fun q hq=>by have:=ag.out;have:=aj.out;omega);clear GV hV O k0 k1 k2 k3 x0
 go_loopw [5,8,16] (fun s5 _ aw wr=>∃(i:Nat)(zs:List Int)(A:Option Addr)(c:Nat),i<=f.params.length/\aw=.int .i64 (i:Int)/\s5=.int .i64 (Rf.bitsOf (f.params.drop i))/\Hid (zs=(Rf.argsP k f.params).take i)/\Hid (AS C V wr zs A c)) (fun _ _ aw _=>f.params.length-(intOf aw).toNat)
 case atStart=>exact⟨0,[],none,0,tv _,rfl,rfl,rfl,aP⟩
 case round =>
  obtain⟨i,zs,A,c,hi,rfl,rfl,ae,has⟩:=hrel;have Z:=aR.out _ _ _ _ has.out;by_cases an:i<f.params.length
  ·obtain⟨z,D⟩:∃z,f.params[i]?=some z:=⟨_,sq an⟩;obtain⟨bp,op,rfl,S⟩:=aW.out i z D;have av:=az.out z (sw D);have am:=Rf.bits_drop D;have R:=Rf.bits_tail f.params (i+1) fun y hy=>(az.out y hy).1;have aE:=aQ.out;have ak:Hid (zs++[(k:Int) / Wd.sz (Rf.bitsOf (f.params.drop (i+1)))%Wd.sz z]=(Rf.argsP k f.params).take (i+1)):=by show _=_;rw[Rf.argsP_snoc k f.params i z D,ae.out]
   have aU:Hid (zs.length=i):=by show _=_;rw[ae.out,List.length_take,Rf.argsP_len];omega
   obtain⟨L,hL⟩:=xJ (Rf.bitsOf (f.params.drop (i+1)));rw[hL]at am R ak;have HL:=dJ hL;have bc:=R.1;have bd:L<=32:=by omega
   have M:=av.1;have U:=av.2;rw[am];have hx:(k:Int) / 2 ^ L.toNat=k / Wd.sz L:=rfl;have hs:=jB M U;have ad:=Wd.sz_pos z;have ap:=oD M U;have aL:0<=(k:Int) / Wd.sz L:=tu (by omega) (Int.le_of_lt (Wd.sz_pos L));have aM:(k:Int) / Wd.sz L<4294967296:=Int.lt_of_le_of_lt (Int.ediv_le_self _ (by omega)) (by omega);have hm:=Rf.and_mask aL aM M U;have aO:=Int.emod_nonneg ((k:Int) / Wd.sz L) (Int.ne_of_gt ad);have au:=Int.emod_lt_of_pos ((k:Int) / Wd.sz L) ad;obtain⟨y,hy⟩:=xJ ((k:Int) / Wd.sz L%Wd.sz z);rw[hy]at hm aO au ak;obtain⟨x,aN⟩:=xJ ((k:Int) / Wd.sz L);rw[aN]at hx hm aL aM;obtain⟨s,aH⟩:=xJ (Wd.sz z);rw[aH]at hs hm ad ap au;have ar:y<4294967296:=Int.lt_of_lt_of_le au ap;have HY:Hid (IntKind.u32.wrap (bits .and .i64 ((k:Int) / 2 ^ (z+L-z).toNat) (IntKind.i64.wrap (IntKind.i64.wrap (2 ^ z.toNat)-1)))=y):=oS (iP z L) hx hs hm ad ap aO ar;have aT:Hid (z+L-z=L):=iP z L
   have t:Hid (∀r,Gr wr r->r.cell? ⟨C,0,none⟩=some (.slice A zs.length c)/\r.frozen? ⟨C,0,none⟩=false/\Own1 (C+1) 22 r (.slice A zs.length c) (zs.map (Value.int .u32))/\C+1<=r.heap.size):=fun r g2=>by have E:=has.out.grow g2;exact⟨sQ _ _ 0 _ _ _ E.st,sR _ _ 0 _ _ E.st,E.own,by have:=E.fr.size;have:=HV.out;omega⟩
   have F:Hid (∀(K r:World)(X:Obj)(A2:Option Addr)(c2:Nat),Gr wr K->(K.alloc X).grownBy r (Value.slice A zs.length c).ownBlock->Own1 (C+1) 22 r (.slice A2 (zs.length+1) c2) (zs.map (Value.int .u32)++[.int .u32 y])->_):=fun K r X A2 c2 Y hg B=>AS.push HV.out has.out Y hg B;have mixed:(prog).follows .mixedOrders=true:=by kernel_rfl
   have a0:=S wr (HG.out.trans Z);obtain⟨x4,z4,-,-⟩:=t.out wr (tE _);have Q4:=fun o=>(t.out (wr.alloc o) ((tE wr).alloc o)).1;have zl:zs.length<1000:=by have:=aU.out;omega
   clear am R aE D av hL hy aN aH S has Z;go_wp2
   go_region_law_o (refine eM (n:=zs.length) (v:=.slice A zs.length c) underlying39 a2 a4 a5 a6 rfl (by omega) rfl (.tmp 24) (.tmp 33) rfl (sO _) rfl (t.out _ ((tE wr).drew)).2.2.1 rfl rfl (by omega) (t.out _ ((tE wr).drew)).2.2.2 ?_;intro A2 c2 r B T Q;rw[HY.out]at B;have G:=dJ (F.out wr.drew r _ A2 c2 ((tE wr).drew) T B);have a9:=G.out.1.1;have ba:=G.out.1.2;clear B T Q)
   all_goals go_wp2
   all_goals
    refine⟨⟨i+1,zs++[y],A2,c2,by omega,by go_num,by rw[HL.out,aT.out],ak.out,?_⟩,by simp[intOf];omega⟩;exact G.out.2
  ·obtain rfl:i=f.params.length:=by omega
   have HZ:Hid (zs=(Rf.input f k).args):=by show _=_;rw[ae.out,af.out,sK (by rw[Rf.argsP_len];exact tx _)]
   have aV:Hid (MS C V wr zs A c (Rf.input f k).mem 0 [] none 0):=⟨⟨has.out.fr,has.out.st,rfl,Own1.nil _ _ _,fun j u l h=>by simp at h⟩,has.out.own⟩;obtain⟨-,-,r2,-⟩:=HC.out wr Z;have N:Hid ((Rf.input f k).mem.length=f.slots.length):=by show _=_;rw[ai.out,sO]
   obtain⟨b5,aD⟩:=xJ (Rf.bitsOf (f.params.drop f.params.length));rw[aD];clear has Z ae aD;go_wp2
   go_loopw [10,40] (fun _ ax w3=>∃(q:Nat)(us:List Value)(H:Option Addr)(J:Nat),q<=f.slots.length/\ax=.int .i64 (q:Int)/\Hid (MS C V w3 zs A c (Rf.input f k).mem q us H J)) (fun _ ax _=>f.slots.length-(intOf ax).toNat)
   case atStart=>exact⟨0,[],none,0,tv _,rfl,aV⟩
   case round =>
    obtain⟨q,us,H,J,hq,rfl,d⟩:=hrel;have Z:=aS.out _ _ _ _ _ _ d.out.cs;by_cases an:q<f.slots.length
    ·obtain⟨z,D⟩:∃z,f.slots[q]?=some z:=⟨_,sq an⟩;obtain⟨bp,op,rfl,S⟩:=aY.out q z D;obtain⟨M,U⟩:=aB.out z (sw D);obtain⟨m,rfl⟩:=sD M;have hl:(Rf.input f k).mem[q]?=some (List.replicate m 0):=by rw[ai.out,ur,D];rfl
     have aG:m<=1000:=by omega
     have bf:=fun u:World=>lU u m aG;have aX:=dJ (kB wr m aG)
     have t:Hid (∀r,Gr wr r->r.cell? ⟨C,1,none⟩=some (.slice H q J)/\r.frozen? ⟨C,1,none⟩=false/\Own1 (C+1) 33 r (.slice H q J) us/\C+1<=r.heap.size):=fun r g2=>by have E:=d.out.cs.grow HV.out g2;exact⟨sQ _ _ 1 _ _ _ E.st,sR _ _ 1 _ _ E.st,E.own,by have:=E.fr.size;have:=HV.out;omega⟩
     have F:Hid (∀(K r:World)(X:Obj)(u:Value)(A2:Option Addr)(c2:Nat),Gr wr K->RowOf wr.heap.size 3 K u ((List.replicate m (0:Int)).map (Value.int .i64))->(K.alloc X).grownBy r (Value.slice H q J).ownBlock->Own1 (C+1) 33 r (.slice A2 (q+1) c2) (us++[u])->_):=fun K r X u A2 c2 Y hu hg B=>MS.push HV.out d.out hl Y hu hg B;have mixed:(prog).follows .mixedOrders=true:=by kernel_rfl
     have aZ:Hid (us.length=q):=d.out.cs.len;have a0:=S wr (HG.out.trans Z);obtain⟨x4,z4,-,-⟩:=t.out wr (tE _);have Q4:=fun o=>(t.out (wr.alloc o) ((tE wr).alloc o)).1;have bb:=fun o o'=>(t.out ((wr.alloc o).alloc o') (((tE wr).alloc o).alloc o')).1;clear D hl S d Z M U;go_wp2
     go_region_law_o (refine eM (n:=q) (v:=.slice H q J) underlying25 a1 a7 a8 ar rfl (by omega) rfl (.tmp 45) (.tmp 48) rfl aZ.out rfl (t.out _ (((tE wr).alloc (.cells (Array.replicate m (Value.int .i64 0)) 3)).drew)).2.2.1 rfl (oA wr _) (by omega) (t.out _ (((tE wr).alloc (.cells (Array.replicate m (Value.int .i64 0)) 3)).drew)).2.2.2 ?_;intro A2 c2 r B T Q;have G:=dJ (F.out ((wr.alloc (.cells (Array.replicate m (Value.int .i64 0)) 3)).drew) r (.cells #[.slice (some ⟨wr.heap.size,0,none⟩) m m] 33) (.slice (some ⟨wr.heap.size,0,none⟩) m m) A2 c2 (((tE wr).alloc _).drew) aX.out T B);have a9:=G.out.1.1;have ba:=G.out.1.2;clear B T Q)
     all_goals go_wp2
     all_goals
      refine⟨?_,?_⟩
      ·exact⟨q+1,_,A2,c2,by omega,by go_num,G.out.2⟩
      ·simp[intOf];omega
    ·obtain rfl:q=f.slots.length:=by omega
     obtain⟨b0,b1⟩:=crw2 d.out.cs.st 0 1;have ao:=HR.out _ Z;obtain⟨r0,r1⟩:=crw2 ao 0 1;obtain⟨f0,f1⟩:=frw2 ao 0 1;obtain⟨w9,aK⟩:=xJ ((wr.setCell ⟨I.heap.size,0,none⟩ (.slice A zs.length c)).setCell ⟨I.heap.size,1,none⟩ (.slice H f.slots.length J));have hF:FrS (·=I.heap.size) wr w9:=by rw[<-aK];exact((FrS.refl (·=I.heap.size) wr).setCell (p:=⟨I.heap.size,0,none⟩) rfl _).setCell (p:=⟨I.heap.size,1,none⟩) rfl _
     have h9:=cY (i:=1) (.slice H f.slots.length J) (cY (i:=0) (.slice A zs.length c) ao);rw[aK]at h9;have aF:Gr w w9:=gr_frs' (HG.out.trans Z) hF (fun p hp=>by have:=aA.out;omega);have bg:I.heap.size<C+1:=by have:=aA.out;have:=ag.out;omega
     have aq:=qZ (w:=w9) (d.out.cs.len.trans N.out.symm) (by rw[N.out];exact dh d.out.cs.own fun p hp=>hF.block _ (de d.out.cs.own hp).2.1 (by have:=(de d.out.cs.own hp).1;show p≠_;omega)) (fun j u l h1 h2=>(d.out.cs.rows j u l h1 h2).same fun p cur hp hc=>hF.block _ (cX hc) (by show p≠_;omega)) (by rw[N.out];omega) (fun l hl=>by
       rw[ai.out]at hl
       obtain⟨z,D,rfl⟩:=List.mem_map.1 hl
       have:=aB.out z D
       simp;omega)
     have aC:=(dh d.out.arg fun p hp=>hF.block _ (de d.out.arg hp).2.1 (by have:=(de d.out.arg hp).1;show p≠_;omega):Own1 (C+1) 22 w9 _ _);have aJ:=nM aC (by have:=HZ.out;rw[this,af.out,Rf.argsP_len];omega);obtain⟨z0,z1⟩:=crw2 h9 0 1
     have F:Hid ((∃A' c' aa ab,(Value.agg #[.slice A zs.length c,.slice H f.slots.length J])=(.agg #[.slice A' (Rf.input f k).args.length c',.slice aa (Rf.input f k).mem.length ab])/\InpAt w9.heap.size w9 (.slice A' (Rf.input f k).args.length c') (.slice aa (Rf.input f k).mem.length ab) (Rf.input f k))/\Gr w w9):=by
      refine⟨⟨A,c,H,J,by rw[<-HZ.out,N.out],?_,?_,?_⟩,aF⟩
      ·rw[<-HZ.out];exact aJ
      ·rw[N.out]at aq ⊢;exact aq
      ·intro a ha;rw[af.out]at ha;exact fJ _ _ _ ha
     clear d hF h9 aq aC aJ aF Z;go_wp2;refine sS (v:=.agg #[.slice A zs.length c,.slice H f.slots.length J]) (by simp[results,results46,go_sem,z0,z1]) rfl ?_;obtain⟨⟨A',c',aa,ab,he,hi⟩,hg⟩:=F.out;exact⟨⟨A',c',aa,ab,by rw[he],hi⟩,hg⟩
end
section
open Go.RowKit Go.Shelf
theorem kt {n:Nat}{g:Operand}{ps:Array Tmp}{assign body:Code}{Q:Exit->Act->World->Prop}{a:Act}{w:World}{gf N:Nat}{lb:Array Value}{M:Nat->Array Value->World->Prop}
  (h1:1<=n) (hg:a.eval g=.func (.func gf) #[] lb) (eg:∀args w,(callFunc gf args).run prog w=.ok (.enter gf args) w)
  (hseq:∀(l:Nat)(J Jx:Nat->World->Prop)(W:World),(∀k A,J k A->Below w.heap.size w A)->(∀k A B,J k A->Gr A B->J k B) ->
    (∀k vs A,k<N->J k A->M k vs A->YieldAt Fence.wide (n-1-1) prog l vs A fun e B=>(e=.returned (.bool true)/\J (k+1) B)\/(e=.returned (.bool false)/\Jx k B))->J 0 W ->
    CallsIn Fence.wide (n-1) prog gf (#[.func (.yield l) #[] #[]]++lb) W fun e B=>(∃v,e=.returned v)/\(J N B\/∃k,k<N/\Jx k B))
  (hM:∀k vs A,M k vs A->vs.size=ps.size)
  (I Ix:Nat->World->Prop) (hIb:∀k A,I k A->Below w.heap.size w A) (hIg:∀k A B,I k A->Gr A B->I k B)
  (hIp:∀k A l o o',I k A->w.heap.size<=l->A.heap[l]?=some o->o.isCells=false->I k (A.putObj l o'))
  (hXp:∀k A l o o',Ix k A->w.heap.size<=l->A.heap[l]?=some o->o.isCells=false->Ix k (A.putObj l o'))
  (h0:I 0 w) (Ax:Nat->Act->World->Prop) (hAp:∀k a A l o o',Ax k a A->w.heap.size<=l->A.heap[l]?=some o->o.isCells=false->Ax k a (A.putObj l o'))
  (hassign:∀(l k:Nat)(vs:Array Value)(W:World)(K:Act->World->Prop),I k W->M k vs W->(∀a' W',Gr W W'->Ax k a' W'->K a' W') ->
    assign.wpIn (Fence.wide.inRound l) (n-1-1) prog (Exit.then K (fun _ _ _=>False)) {tmps:=(ps.zip vs).foldl (fun t (p,v)=>t.setIfInBounds p v) a.tmps,defers:=[]} W)
  (hbody:∀(l k:Nat)(a':Act)(W:World),k<N->I k W->Ax k a' W->body.wpIn (Fence.wide.inRound l) (n-1-1) prog (fun e _ W'=>KeepsFrom w.heap.size W W'/\((e=.normal/\I (k+1) W')\/(e=.ret/\Ix k W'))) a' W)
  (hdone:∀(D:Nat)(W:World),w.heap.size<=D->I N W->W.heap[D]?=some (.deferred (some []))->Q .normal {a with defers:={target:=.collected D,args:=#[]}::a.defers} W)
  (hstop:∀(D k:Nat)(W:World),w.heap.size<=D->k<N->Ix k W->W.heap[D]?=some (.deferred (some []))->Code.ret.wpIn Fence.wide n prog Q {a with defers:={target:=.collected D,args:=#[]}::a.defers} W) :
  (Code.rangeFunc g ps assign body).wpIn Fence.wide n prog Q a w:=by
 refine wpIn_rangeFunc fun fn T=>?_;obtain⟨B,F⟩:=xJ w.heap.size;rw[F]at hseq hIp hXp hAp hbody hdone hstop
 let rec_:LoopState->Option Code->Loop:=fun st pe=>{state:=st,pending:=pe,fn,tmps:=a.tmps,params:=ps,assign,body,defers:=B}
 have d:rec_=fun st pe=>{state:=st,pending:=pe,fn,tmps:=a.tmps,params:=ps,assign,body,defers:=B}:=rfl
 clear_value rec_
 obtain⟨V,L⟩:=xJ ((w.alloc (.deferred (some []))).alloc (.loop (rec_ .ready none)));have hG:Gr w V:=by rw[<-L];exact((tE w).alloc _).alloc _
 have hL:V.heap[B+1]?=some (.loop (rec_ .ready none)):=by rw[<-L,<-F];have:=World.alloc_heap_new (w.alloc (.deferred (some []))) (.loop (rec_ .ready none));rwa [World.size_alloc]at this
 have hK:V.heap[B]?=some (.deferred (some [])):=by rw[<-L,<-F];exact(Below.heap_alloc _ _ _ (by simp)).trans (World.alloc_heap_new w _)
 have j:∀{A:World} {k:Nat} {o:Obj},A.heap[k]?=some o->k<A.heap.size:=fun h=>(sC.1 h).1;refine⟨B+1,[{target:=.collected B,args:=#[]}],V,{target:=.fn (.func gf) lb,args:=#[.func (.yield (B+1)) #[] #[]]},V,gf,#[.func (.yield (B+1)) #[] #[]]++lb,V,?_,?_,fun _ _=>trivial,?_,fun _=>h1,?_⟩
 ·rw[<-L,d,<-F];exact run_enterLoop_outer _ _ _ _ _
 ·simp only[resolve,hg];simp[go_sem]
 ·simp[invoke,go_sem,eg]
 refine(hseq (B+1) (fun k A=>I k A/\A.heap[B+1]?=some (.loop (rec_ .ready none))/\A.heap[B]?=some (.deferred (some [])))
   (fun k A=>Ix k A/\A.heap[B+1]?=some (.loop (rec_ .done (some .ret)))/\A.heap[B]?=some (.deferred (some []))) V (fun k A h=>F ▸ hIb k A h.1)
   (fun k A C h q=>⟨hIg k A C h.1 q,(q.heap _ (j h.2.1)).trans h.2.1,(q.heap _ (j h.2.2)).trans h.2.2⟩) ?_ ⟨hIg 0 w V h0 hG,hL,hK⟩).mono ?_
 ·rintro k vs W z ⟨O,u,E⟩ hm;have hy:=run_yield (P:=prog) (args:=vs) u (by rw[d];exact hM k vs W hm);rw[d]at hy;refine⟨fn,_,assign,body,hy,roundIn_of_wpIn T (hassign _ k vs W _ O hm ?_)⟩;intro a' U R S;have y:=(R.heap _ (j u)).trans u;have Z:=(R.heap _ (j E)).trans E;have X:=hIg k W U O R;refine⟨_,run_beginRound y (by rw[d]),?_⟩;have ab:(U.putObj (B+1) (.loop {rec_ .ready none with state:=.busy})).heap[B+1]?=some (.loop {rec_ .ready none with state:=.busy}):=World.putObj_heap_same (j y);have aa:(U.putObj (B+1) (.loop {rec_ .ready none with state:=.busy})).heap[B]?=some (.deferred (some [])):=(World.putObj_heap_other (by omega)).trans Z;refine wpIn_mono (hbody _ k a' _ z (hIp k U _ _ _ X (by omega) y rfl) (hAp k a' U _ _ _ S (by omega) y rfl)) ?_;rintro e a3 W3 ⟨H,he⟩;have m:=H.same _ _ (by omega) ab rfl;have G:=H.same _ _ (by omega) aa rfl;rcases he with ⟨rfl,Y⟩|⟨rfl,ac⟩
  ·have r:=run_endRound (P:=prog) none m;rw[d]at r m;refine⟨_,_,r,.inl ⟨rfl,hIp _ _ _ _ _ Y (by omega) m rfl,?_,(World.putObj_heap_other (by omega)).trans G⟩⟩;rw[d];exact World.putObj_heap_same (j m)
  ·have r:=run_endRound (P:=prog) (some .ret) m;rw[d]at r m;refine⟨_,_,r,.inr ⟨rfl,hXp _ _ _ _ _ ac (by omega) m rfl,?_,(World.putObj_heap_other (by omega)).trans G⟩⟩;rw[d];exact World.putObj_heap_same (j m)
 ·rintro e W2 ⟨⟨v,rfl⟩,(⟨O,u,E⟩|⟨k,z,hx,u,E⟩)⟩
  ·have r:=run_endLoop (P:=prog) u (by rw[d];simp);rw[d]at r;exact⟨none,_,r,hdone B _ (tx _) (hIp _ _ _ _ _ O (by omega) u rfl) ((World.putObj_heap_other (by omega)).trans E)⟩
  ·have r:=run_endLoop (P:=prog) u (by rw[d];simp);rw[d]at r;exact⟨some .ret,_,r,hstop B k _ (tx _) z (hXp _ _ _ _ _ hx (by omega) u rfl) ((World.putObj_heap_other (by omega)).trans E)⟩
attribute [local go_sem] Oper.semAt_some
section
variable {W:World}{l:Nat}{o:Obj}
theorem tR (o':Obj)(hl:W.heap[l]?=some o)(ho:o.isCells=false){p:Addr}{v:Value}(h:W.cell? p=some v):(W.putObj l o').cell? p=some v :=
 cell_kept h (grownBy_putObj' W l o') fun r e=>by cases e;exact⟨o,hl,ho⟩
theorem le (W:World)(l:Nat)(o':Obj):W.heap.size<=(W.putObj l o').heap.size:=(grownBy_putObj' W l o').size
theorem IntsAt.put {B:Nat}(o':Obj)(hl:W.heap[l]?=some o)(ho:o.isCells=false){v:Value}{zs:List Int}(h:IntsAt B W v zs):IntsAt B (W.putObj l o') v zs :=
 SlAt.imp h fun b off _ d j z g=>tR o' hl ho (d j z g)
theorem InpAt.put (o':Obj)(hl:W.heap[l]?=some o)(ho:o.isCells=false){va vm:Value}{i:Rn.Inp}(h:InpAt W.heap.size W va vm i):InpAt (W.putObj l o').heap.size (W.putObj l o') va vm i:=by refine⟨SlAt.mono (SlAt.imp h.1 fun b off _ d j z p=>tR o' hl ho (d j z p)) (le W l o'),TabAt.mono (SlAt.imp h.2.1 fun b off _ d j r hr=>?_) (le W l o'),h.2.2⟩;obtain⟨u,g,m⟩:=d j r hr;exact⟨u,tR o' hl ho g,m.put o' hl ho⟩
theorem ga {n:Nat}{w:World}(o':Obj)(h:Below n w W)(hn:n<=l)(hl:W.heap[l]?=some o)(ho:o.isCells=false):Below n w (W.putObj l o') :=
 h.grown (grownBy_putObj' W l o') (by have:=(sC.1 hl).1;omega) (fun k e=>by cases e;omega)
end
theorem oI (Ap As Ab:Option Addr)(np ns nb cp cs cb:Nat)(r:Int)(n:Int)(w:World) :
  Calls prog 50 #[.agg #[.slice Ap np cp,.int .i64 r,.slice As ns cs,.slice Ab nb cb],.int .i64 n] w fun e w' =>
   e=.returned (.func (.func 76) #[] #[.pointer (some ⟨w.heap.size+1,0,none⟩),.pointer (some ⟨w.heap.size,0,none⟩)])/\w'=(w.alloc (.cells #[.slice Ap np cp,.int .i64 r,.slice As ns cs,.slice Ab nb cb] 36)).alloc (.cells #[.int .i64 n] 3):=by
 go_enter func50, ntmps50
 go_wp2;go_ret;exact⟨rfl,rfl⟩
def MI (f:Fn)(k:Nat)(vs:Array Value)(W:World):Prop :=
 ∃Aa c A2 c2,vs=#[.int .i64 k,.agg #[.slice Aa (Rf.input f k).args.length c,.slice A2 (Rf.input f k).mem.length c2]]/\InpAt W.heap.size W (.slice Aa (Rf.input f k).args.length c) (.slice A2 (Rf.input f k).mem.length c2) (Rf.input f k)
theorem oH (n:Nat)(hn:1<=n)(l Bn Bf N:Nat)(hN:N<=256){f:Fn}{w0:World}{Ap As Ab:Option Addr}{cp cs cb:Nat}(hf:FnAt w0.heap.size w0 (.agg #[.slice Ap f.params.length cp,.int .i64 f.ret,.slice As f.slots.length cs,.slice Ab f.blocks.length cb]) f)
  (hv:Ref.validate f=0) (hb:Rf.bitsOf f.params<=32) (hBn:Bn<w0.heap.size) (hBf:Bf<w0.heap.size) (cn:w0.cell? ⟨Bn,0,none⟩=some (.int .i64 N)) (cf:FBox Bf w0 f Ap As Ab cp cs cb)
  (J Jx:Nat->World->Prop) (W:World) (hJb:∀k A,J k A->Below w0.heap.size w0 A) (hJg:∀k A B,J k A->Gr A B->J k B)
  (hY:∀k vs A,k<N->J k A->MI f k vs A->YieldAt Fence.wide (n-1) prog l vs A fun e B=>(e=.returned (.bool true)/\J (k+1) B)\/(e=.returned (.bool false)/\Jx k B)) (h0:J 0 W) :
  CallsIn Fence.wide n prog 76 (#[.func (.yield l) #[] #[]]++#[.pointer (some ⟨Bn,0,none⟩),.pointer (some ⟨Bf,0,none⟩)]) W fun e B=>(∃v,e=.returned v)/\(J N B\/∃k,k<N/\Jx k B):=by
 have O:=dJ hY;have M:=dJ hJb;have z:=dJ hJg
 have D:Hid (∀k A,J k A->A.cell? ⟨Bn,0,none⟩=some (.int .i64 N)/\FBox Bf A f Ap As Ab cp cs cb):=fun k A h=>by have F:=hJb k A h;exact⟨(F.cell (p:=⟨Bn,0,none⟩) hBn).trans cn,cf.gr hBf F⟩
 have L:Hid (∀k A,k<N->J k A->Calls prog 46 #[.agg #[.slice Ap f.params.length cp,.int .i64 f.ret,.slice As f.slots.length cs,.slice Ab f.blocks.length cb],.int .i64 k] A fun e w'=>(∃A c r u,e=.returned (.agg #[.slice A (Rf.input f k).args.length c,.slice r (Rf.input f k).mem.length u])/\InpAt w'.heap.size w' (.slice A (Rf.input f k).args.length c) (.slice r (Rf.input f k).mem.length u) (Rf.input f k))/\Gr A w'):=fun k A T h =>
  ni (hf.gr (hJb k A h)) hv hb (by omega)
 have K:=dJ h0;have R:(N:Int)<=256:=by omega
 obtain⟨X,-⟩:=D.out 0 W h0;clear hY hJb hJg hf hv hb cn cf h0;refine callsIn_of_wp func76 rfl trivial ?_ rfl;simp only[ntmps76,List.size_toArray,List.length_cons,List.length_nil,Nat.reduceAdd,Nat.reduceSub,Array.replicate_succ,Array.replicate_zero,List.push_toArray,List.append_toArray,List.nil_append,List.cons_append];gi_wp2
 gi_loopw [4,6] (fun _ i wr=>∃k:Nat,k<=N/\i=.int .i64 k/\Hid (J k wr)) (fun _ i _=>N-(intOf i).toNat)
 case atStart=>exact⟨0,tv _,rfl,K⟩
 case round =>
  obtain⟨k,T,rfl,g⟩:=hrel;obtain⟨q,rfl⟩:∃q:World,q=wr:=⟨_,rfl⟩;by_cases j:k<N
  ·obtain⟨-,Z,k1,k2,k3⟩:=D.out k q g.out;have y:=dJ (L.out k q j g.out);have d:Hid (k<N):=j;clear j;gi_wp2_with (refine⟨trivial,?_⟩;gi_at_call 46;refine(callsIn_wide.2 y.out).mono ?_;rintro e H ⟨⟨I,c,r,u,rfl,G⟩,Q⟩;obtain⟨fn,tmps,t,E,Y,S⟩:=O.out k _ H d.out (z.out k q H g.out Q) ⟨I,c,r,u,rfl,G⟩;clear G);refine S.mono ?_;rintro e U (⟨rfl,C⟩|⟨rfl,m⟩)
   ·gi_wp2;go_roundw;case rel=>exact⟨k+1,d.out,by go_num,C⟩
    case measure=>have:=d.out;simp[intOf];omega
   ·gi_wp2;refine sS (results_none rfl _ _ _) rfl ?_;exact⟨⟨_,rfl⟩,.inr ⟨k,d.out,m⟩⟩
  ·obtain rfl:k=N:=by omega
   gi_wp2
   go_end0
   exact⟨⟨_,rfl⟩,.inl g.out⟩
def inV (Aa A2:Option Addr)(n c n2 c2:Nat):Value:=.agg #[.slice Aa n c,.slice A2 n2 c2]
def rnd (t:Array Value)(k:Nat)(v:Value)(Bx:Nat):Array Value:=(((t.setIfInBounds 31 (.int .i64 k)).setIfInBounds 32 v).setIfInBounds 10 (.int .i64 k)).setIfInBounds 11 (.pointer (some ⟨Bx,0,none⟩))
theorem ku {assign body:Code}{Q:Exit->Act->World->Prop}{a:Act}{V:World}{Bn Bf N:Nat}{f:Fn}{Ap As Ab:Option Addr}{cp cs cb:Nat}
  (hg:a.eval (.tmp 30)=.func (.func 76) #[] #[.pointer (some ⟨Bn,0,none⟩),.pointer (some ⟨Bf,0,none⟩)]) (hN:N<=256)
  (hf:FnAt V.heap.size V (.agg #[.slice Ap f.params.length cp,.int .i64 f.ret,.slice As f.slots.length cs,.slice Ab f.blocks.length cb]) f) (hv:Ref.validate f=0) (hb:Rf.bitsOf f.params<=32) (hBn:Bn<V.heap.size) (hBf:Bf<V.heap.size) (cn:V.cell? ⟨Bn,0,none⟩=some (.int .i64 N)) (cf:FBox Bf V f Ap As Ab cp cs cb)
  (I Ix:Nat->World->Prop) (hIb:∀k A,I k A->Below V.heap.size V A) (hIg:∀k A B,I k A->Gr A B->I k B)
  (hIp:∀k A l o o',I k A->V.heap.size<=l->A.heap[l]?=some o->o.isCells=false->I k (A.putObj l o'))
  (hXp:∀k A l o o',Ix k A->V.heap.size<=l->A.heap[l]?=some o->o.isCells=false->Ix k (A.putObj l o')) (h0:I 0 V)
  (hassign:∀(l k:Nat)(Aa A2:Option Addr)(n c n2 c2:Nat)(W:World)(K:Act->World->Prop),K {tmps:=rnd a.tmps k (inV Aa A2 n c n2 c2) W.heap.size,defers:=[]} (W.alloc (.cells #[.slice Aa n c,.slice A2 n2 c2] 41)) ->
    assign.wpIn (Fence.wide.inRound l) 3 prog (Exit.then K (fun _ _ _=>False)) {tmps:=(a.tmps.setIfInBounds 31 (.int .i64 k)).setIfInBounds 32 (inV Aa A2 n c n2 c2),defers:=[]} W)
  (hbody:∀(l k:Nat)(Aa A2:Option Addr)(n c n2 c2 Bx:Nat)(W:World),k<N->I k W->InpAt W.heap.size W (.slice Aa n c) (.slice A2 n2 c2) (Rf.input f k)->W.heap[Bx]?=some (.cells #[.slice Aa n c,.slice A2 n2 c2] 41 (0,0)) ->
    body.wpIn (Fence.wide.inRound l) 3 prog (fun e _ W'=>KeepsFrom V.heap.size W W'/\((e=.normal/\I (k+1) W')\/(e=.ret/\Ix k W'))) {tmps:=rnd a.tmps k (inV Aa A2 n c n2 c2) Bx,defers:=[]} W)
  (hdone:∀(D:Nat)(W:World),V.heap.size<=D->I N W->W.heap[D]?=some (.deferred (some []))->Q .normal {a with defers:={target:=.collected D,args:=#[]}::a.defers} W)
  (hstop:∀(D k:Nat)(W:World),V.heap.size<=D->k<N->Ix k W->W.heap[D]?=some (.deferred (some []))->Code.ret.wp prog Q {a with defers:={target:=.collected D,args:=#[]}::a.defers} W) :
  (Code.rangeFunc (.tmp 30) #[31,32] assign body).wp prog Q a V:=by
 refine(wpIn_wide (n:=5)).1 ?_
 refine kt (n:=5) (N:=N) (M:=MI f) (by omega) hg (enters_of func76 (by kernel_rfl) rfl)
  (fun l J y W p q H m=>oH 4 (by omega) l Bn Bf N hN hf hv hb hBn hBf cn cf J y W p q H m)
  (fun k vs A h=>by obtain⟨_,_,_,_,rfl,-⟩:=h;rfl) I Ix hIb hIg hIp hXp h0
  (fun k j A=>∃Aa A2 n c n2 c2 Bx,j={tmps:=rnd a.tmps k (inV Aa A2 n c n2 c2) Bx,defers:=[]}/\InpAt A.heap.size A (.slice Aa n c) (.slice A2 n2 c2) (Rf.input f k)/\A.heap[Bx]?=some (.cells #[.slice Aa n c,.slice A2 n2 c2] 41 (0,0)))
  ?hAp ?hassign ?hbody hdone (fun D k W z C E F=>wpIn_wide.2 (hstop D k W z C E F))
 case hAp =>
  rintro k j A l o o' ⟨Aa,A2,n,c,n2,c2,Bx,e,g,d⟩ O u r;refine⟨Aa,A2,n,c,n2,c2,Bx,e,g.put o' u r,(World.putObj_heap_other ?_).trans d⟩;rintro rfl;rw[u]at d;injection d with d;rw[d]at r;cases r
 case hassign =>
  rintro l k vs W K g ⟨Aa,c,A2,c2,rfl,t⟩ G;have:=hassign l k Aa A2 _ c _ c2 W K (G _ _ ((tE W).alloc _) ⟨Aa,A2,_,c,_,c2,W.heap.size,rfl,t.gr ((tE W).alloc _),heap_alloc_new W _⟩);simpa[inV] using this
 case hbody =>
  rintro l k j W L g ⟨Aa,A2,n,c,n2,c2,Bx,rfl,t,d⟩;exact hbody l k Aa A2 n c n2 c2 Bx W L g t d
attribute [local go_sem] Oper.semAt_some
theorem fA (fn:Func)(tmps:Array Value)(w:World)(B4 B5 B6:Nat)(r1:Int)(r2:Bool)(r3:Int)(h:fn.results=#[.cell 4 3,.cell 5 4,.cell 6 44])(t4:tmps[4]?.getD undef=.pointer (some ⟨B4,0,none⟩))(t5:tmps[5]?.getD undef=.pointer (some ⟨B5,0,none⟩))(t6:tmps[6]?.getD undef=.pointer (some ⟨B6,0,none⟩))
  (h4:w.cell? ⟨B4,0,none⟩=some (.int .i64 r1)) (h5:w.cell? ⟨B5,0,none⟩=some (.bool r2)) (h6:w.cell? ⟨B6,0,none⟩=some (.int .i64 r3)) :
  (results fn tmps).run prog w=.ok (.tuple #[.int .i64 r1,.bool r2,.int .i64 r3]) w:=by simp[results,h,t4,t5,t6,go_sem,h4,h5,h6]
def Res3 (w:World)(B:Nat)(r:Int × Bool × Int):Prop :=
 w.heap[B]?=some (.cells #[.int .i64 r.1] 3 (0,0))/\w.heap[B+1]?=some (.cells #[.bool r.2.1] 4 (0,0))/\w.heap[B+1+1]?=some (.cells #[.int .i64 r.2.2] 44 (0,0))
theorem Res3.gr {w w':World}{B:Nat}{r:Int × Bool × Int}(h:Res3 w B r)(g:Gr w w'):Res3 w' B r :=
 ⟨(g.heap _ (cX h.1)).trans h.1,(g.heap _ (cX h.2.1)).trans h.2.1,(g.heap _ (cX h.2.2)).trans h.2.2⟩
theorem Res3.put {w:World}{B l:Nat}{o':Obj}{r:Int × Bool × Int}(h:Res3 w B r)(hl:B+1+1<l):Res3 (w.putObj l o') B r :=
 ⟨(World.putObj_heap_other (by omega)).trans h.1,(World.putObj_heap_other (by omega)).trans h.2.1,(World.putObj_heap_other (by omega)).trans h.2.2⟩
theorem Res3.set {w:World}{B:Nat}{r:Int × Bool × Int}(h:Res3 w B r)(r1:Int)(r2:Bool)(r3:Int):Res3 (((w.setCell ⟨B,0,none⟩ (.int .i64 r1)).setCell ⟨B+1,0,none⟩ (.bool r2)).setCell ⟨B+1+1,0,none⟩ (.int .i64 r3)) B (r1,r2,r3):=by
 have d:∀(u:World)(k j:Nat)(v:Value),j≠k->(u.setCell ⟨k,0,none⟩ v).heap[j]?=u.heap[j]?:=fun u k j v hj=>tc u ⟨k,0,none⟩ v j hj;refine⟨?_,?_,?_⟩
 ·rw[d _ _ _ _ (by omega),d _ _ _ _ (by omega)];exact cY (i:=0) _ h.1
 ·rw[d _ _ _ _ (by omega)];exact cY (i:=0) _ ((d w B (B+1) _ (by omega)).trans h.2.1)
 ·exact cY (i:=0) _ ((d _ _ _ _ (by omega)).trans ((d w B (B+1+1) _ (by omega)).trans h.2.2))
theorem rk {R:Ending->World->Prop}{a:Act}{w:World}{B:Nat}{r:Int × Bool × Int}(hd:a.defers=[])(t4:a.tmps[4]?.getD undef=.pointer (some ⟨B,0,none⟩))(t5:a.tmps[5]?.getD undef=.pointer (some ⟨B+1,0,none⟩))(t6:a.tmps[6]?.getD undef=.pointer (some ⟨B+1+1,0,none⟩))
  (h:Res3 w B r) (hR:R (.returned (.tuple #[.int .i64 r.1,.bool r.2.1,.int .i64 r.2.2])) w):bodyPostM Fence.wide 5 prog Tryz.f28 R .ret a w :=
 mH hd (fA _ _ _ _ _ _ _ _ _ rfl t4 t5 t6 (cell_of_one h.1) (cell_of_one h.2.1) (cell_of_one h.2.2)) hR
theorem rl {R:Ending->World->Prop}{a:Act}{w w0:World}{B D:Nat}{r:Int × Bool × Int}(hd:a.defers=[{target:=.collected D,args:=#[]}])(hK:w.heap[D]?=some (.deferred (some [])))(hDB:B+1+1<D)(t4:a.tmps[4]?.getD undef=.pointer (some ⟨B,0,none⟩))(t5:a.tmps[5]?.getD undef=.pointer (some ⟨B+1,0,none⟩))(t6:a.tmps[6]?.getD undef=.pointer (some ⟨B+1+1,0,none⟩))
  (h:Res3 w B r) (hw:Below w0.heap.size w0 w) (hD:w0.heap.size<=D) (hR:∀w',Gr w0 w'->R (.returned (.tuple #[.int .i64 r.1,.bool r.2.1,.int .i64 r.2.2])) w'):bodyPostM Fence.wide 5 prog Tryz.f28 R .ret a w:=by
 have d:Res3 (w.putObj D (.deferred none)) B r:=h.put hDB;exact rA hd hK (fA _ _ _ _ _ _ _ _ _ rfl t4 t5 t6 (cell_of_one d.1) (cell_of_one d.2.1) (cell_of_one d.2.2)) (hR _ (ga _ hw hD hK rfl))
namespace Rf
theorem firstFrom_step (f g:Fn)(N k:Nat)(h:k<N):firstFrom f g (N-k) k=if bothE f g (input f k)≠0 then (0,false,bothE f g (input f k)) else if atB f g (input f k)=true then firstFrom f g (N-(k+1)) (k+1) else (k,true,0):=by obtain⟨m,d⟩:∃m,N-k=m+1:=⟨N-k-1,by omega⟩;rw[d,firstFrom,show N-(k+1)=m by omega]
theorem firstFrom_end (f g:Fn)(N:Nat):firstFrom f g (N-N) N=(0,false,0):=by rw[Nat.sub_self];rfl
theorem inputs_small {f:Fn}(h:inputsE f=0):Ref.validate f=0/\0<=bitsOf f.params/\bitsOf f.params<=8/\inputsN f=Wd.sz (bitsOf f.params)/\0<=inputsN f/\inputsN f<=256:=by
 have g:inputsN f=Wd.sz (bitsOf f.params):=by unfold inputsN;rw[sU h]
 unfold inputsE at h;by_cases d:Ref.validate f=0
 ·rw[sV (by simp[d])]at h;have r:¬8<bitsOf f.params:=fun q=>by rw[sU q]at h;cases h
  obtain⟨-,l,-⟩:=valid_widths d;have j:=(bitsOf_le l).1;refine⟨d,j,by omega,g,by rw[g];exact Int.le_of_lt (Wd.sz_pos _),?_⟩;rw[g];unfold Wd.sz;have:=Nat.pow_le_pow_right (n:=2) (by decide) (show (bitsOf f.params).toNat<=8 by omega);have m:(2:Int) ^ (bitsOf f.params).toNat<=2 ^ 8:=by exact_mod_cast this
  have p:(2:Int) ^ 8=256:=by decide
  omega
 ·rw[sU d]at h;exact absurd h d
end Rf
def fk (f g:Fn):Value:=.tuple #[.int .i64 (Rf.firstR f g).1,.bool (Rf.firstR f g).2.1,.int .i64 (Rf.firstR f g).2.2]
theorem mX {w:World}{vf vg:Value}{f g:Fn}(hf:FnAt w.heap.size w vf f)(hg:FnAt w.heap.size w vg g)(hnf:gI f)(hng:gI g)(hif:Rn.Im f)(hig:Rn.Im g) :
  Calls prog 28 #[vf,vg] w (RG (fk f g) w):=by
 have C1:Hid (∀u,Gr w u->Calls prog 49 #[vf,vg] u (RG (.int .i64 (Rf.alikeX f g)) u)):=fun u q=>iQ (hf.gr q) (hg.gr q) hnf hng;have C2:Hid (∀u,Gr w u->Calls prog 22 #[vf] u (RG (dQ f) u)):=fun u q=>gY (hf.gr q) hnf;have ai:Hid (∀(u:World) va vm i,Gr w u->InpAt u.heap.size u va vm i->Calls prog 18 #[vf,vg,.agg #[va,vm]] u (RG (atV f g i) u)):=fun u va vm i q hi=>qY ⟨hf.gr q,hg.gr q,hi⟩ hnf hng hif hig;have HF:=dJ hf;obtain⟨vp,vs,vb,rfl,hp,az,hb⟩:=hf;obtain⟨up,us,ub,rfl,gp,ar,gb⟩:=hg;obtain⟨Ap,cp,rfl,-⟩:=hp;obtain⟨As,cs,rfl,-⟩:=az;obtain⟨Ab,cb,rfl,-⟩:=hb;obtain⟨Dp,dp,rfl,-⟩:=gp;obtain⟨Ds,ds,rfl,-⟩:=ar;obtain⟨Db,db,rfl,-⟩:=gb;obtain⟨d,ad⟩:=xJ ((w.alloc (.cells #[.slice Ap f.params.length cp,.int .i64 f.ret,.slice As f.slots.length cs,.slice Ab f.blocks.length cb] 36)).alloc (.cells #[.slice Dp g.params.length dp,.int .i64 g.ret,.slice Ds g.slots.length ds,.slice Db g.blocks.length db] 36));obtain⟨W,hW⟩:=xJ (((d.alloc (.cells #[.int .i64 0] 3)).alloc (.cells #[.bool false] 4)).alloc (.cells #[.int .i64 0] 44));have s2:d.heap.size=w.heap.size+1+1:=by rw[<-ad];simp
 have sW:W.heap.size=d.heap.size+1+1+1:=by rw[<-hW];simp
 have Y:Gr w d:=by rw[<-ad];exact((tE w).alloc _).alloc _
 obtain⟨gW,ax⟩:=rD hW
 have HK:Hid (∀u,Gr W u->(FBox w.heap.size u f Ap As Ab cp cs cb/\FBox (w.heap.size+1) u g Dp Ds Db dp ds db)):=fun u q=>by have q2:=gW.trans q;rw[<-ad]at q2;exact⟨FBox.new (V:=w) (((tE _).alloc _).trans q2) rfl,FBox.new (V:=w.alloc _) q2 (by simp)⟩
 have ap:Hid (Res3 W d.heap.size (0,false,0)):=by
  refine⟨?_,?_,?_⟩
  ·rw[<-hW];exact(((tE _).alloc _).alloc _:Gr (d.alloc _) _).heap _ (by simp) |>.trans (heap_alloc_new _ _)
  ·rw[<-hW];exact((tE _).alloc _:Gr ((d.alloc _).alloc _) _).heap _ (by simp) |>.trans (by have:=heap_alloc_new (d.alloc (.cells #[.int .i64 0] 3)) (.cells #[.bool false] 4);rwa [World.size_alloc]at this)
  ·rw[<-hW];have:=heap_alloc_new ((d.alloc (.cells #[.int .i64 0] 3)).alloc (.cells #[.bool false] 4)) (.cells #[.int .i64 0] 44);rwa [World.size_alloc,World.size_alloc]at this
 have S:=dJ (Y.trans gW);have aB:=dJ s2;have aq:=dJ sW
 have M:Hid (∀u,Gr W u->Res3 u d.heap.size (0,false,0)/\u.cell? ⟨d.heap.size,0,none⟩=some (.int .i64 0)/\u.cell? ⟨d.heap.size+1,0,none⟩=some (.bool false)/\u.cell? ⟨d.heap.size+1+1,0,none⟩=some (.int .i64 0)/\u.frozen? ⟨d.heap.size,0,none⟩=false/\u.frozen? ⟨d.heap.size+1,0,none⟩=false/\u.frozen? ⟨d.heap.size+1+1,0,none⟩=false):=fun u q=>by have h:=ap.out.gr q;exact⟨h,cell_of_one h.1,cell_of_one h.2.1,cell_of_one h.2.2,free_of_one h.1,free_of_one h.2.1,free_of_one h.2.2⟩
 have j:Hid (∀(u:World)(r1:Int)(r2:Bool)(r3:Int),Gr W u->Gr w (((u.setCell ⟨d.heap.size,0,none⟩ (.int .i64 r1)).setCell ⟨d.heap.size+1,0,none⟩ (.bool r2)).setCell ⟨d.heap.size+1+1,0,none⟩ (.int .i64 r3))):=fun u r1 r2 r3 q=>by
  refine Gr.setCell (Gr.setCell (Gr.setCell (S.out.trans q) ?_ _) ?_ _) ?_ _
  ·show w.heap.size<=d.heap.size;omega
  ·show w.heap.size<=d.heap.size+1;omega
  ·show w.heap.size<=d.heap.size+1+1;omega
 obtain⟨⟨k0,k1,k2,k3⟩,⟨l0,l1,l2,l3⟩⟩:=HK.out W (tE W);have p:Hid (Rf.firstR f g=if Rf.alikeX f g≠0 then (0,false,Rf.alikeX f g) else if Rf.inputsE f≠0 then (0,false,Rf.inputsE f) else Rf.firstFrom f g (Rf.inputsN f).toNat 0):=by show _=_;rfl
 obtain⟨X,hX⟩:=xJ (Rf.alikeX f g);rw[hX]at C1 p;have z:Hid (fk f g=.tuple #[.int .i64 (Rf.firstR f g).1,.bool (Rf.firstR f g).2.1,.int .i64 (Rf.firstR f g).2.2]):=by show _=_;rfl
 clear hX s2 sW Y gW ax;refine(callsIn_wide (n:=5)).1 ?_;refine callsIn_of_wp_marks func28 rfl trivial ?_ rfl;simp only[ntmps28,List.size_toArray,List.length_cons,List.length_nil,Nat.reduceAdd,Nat.reduceSub,Array.replicate_succ,Array.replicate_zero,List.push_toArray,List.append_toArray,List.nil_append,List.cons_append];refine wpIn_wide.2 ?_;by_cases Z:X=0
 ·have q0:(X != 0)=false:=by simp[Z]
  by_cases h1:Rf.inputsE f=0
  ·obtain⟨hv,av,af,aw,ah,ay⟩:=Rf.inputs_small h1;obtain⟨N,hN⟩:=sD ah;have Q:Hid (dQ f=.tuple #[.int .i64 N,.int .i64 0]):=by show _=_;unfold dQ;rw[h1,hN]
   rw[Q.out]at C2;have H:Hid (Rf.firstR f g=Rf.firstFrom f g N 0):=by show _=_;rw[p.out,sV (by simp[Z]),sV (by simp[h1]),hN];rfl
   have ac:N<=256:=by omega
   have al:=dJ (oI Ap As Ab f.params.length f.slots.length f.blocks.length cp cs cb f.ret N);have HV:=dJ hv;have aj:=dJ af;clear Z p aw ah ay av af hN h1 hv Q
   go_wp2_with (first|(go_at_call 49;refine(C1.out _ S.out).mono ?_;rintro e w1 ⟨rfl,U⟩;have G:Hid (Gr W w1):=U;clear U;obtain⟨⟨k0,k1,k2,k3⟩,⟨l0,l1,l2,l3⟩⟩:=HK.out w1 G.out)|(go_at_call 22;refine(C2.out _ (S.out.trans G.out)).mono ?_;rintro e y ⟨rfl,Y⟩;have G2:Hid (Gr W y):=G.out.trans Y;clear Y;obtain⟨⟨i0,i1,i2,i3⟩,⟨j0,j1,j2,j3⟩⟩:=HK.out y G2.out)|(go_at_call 50;refine(al.out _).mono ?_;rintro e w3 ⟨rfl,rfl⟩))
   obtain⟨V,hV⟩:=xJ ((y.alloc (.cells #[.slice Ap f.params.length cp,.int .i64 f.ret,.slice As f.slots.length cs,.slice Ab f.blocks.length cb] 36)).alloc (.cells #[.int .i64 N] 3));rw[hV];have gV:Gr y V:=by rw[<-hV];exact((tE _).alloc _).alloc _
   have au:V.heap.size=y.heap.size+2:=by rw[<-hV];simp
   have GV:Hid (Gr W V):=G2.out.trans gV;have ag:Gr w V:=S.out.trans GV.out;have cn:V.cell? ⟨y.heap.size+1,0,none⟩=some (.int .i64 N):=by rw[<-hV];have:=sQ _ _ 0 _ _ _ (heap_alloc_new (y.alloc (.cells #[.slice Ap f.params.length cp,.int .i64 f.ret,.slice As f.slots.length cs,.slice Ab f.blocks.length cb] 36)) (.cells #[.int .i64 N] 3));rwa [World.size_alloc]at this
   have cf:FBox y.heap.size V f Ap As Ab cp cs cb:=FBox.new (V:=y) (by rw[<-hV];exact(tE _).alloc _) rfl;have aC:=dJ au;have aa:Hid (d.heap.size+1+1<V.heap.size):=by show _<_;have:=aq.out;have:=GV.out.size;omega
   have ab:Hid (w.heap.size<=V.heap.size):=ag.size;clear i0 i1 i2 i3 j0 j1 j2 j3 k0 k1 k2 k3 l0 l1 l2 l3
   refine ku (f:=f) (N:=N) (Bn:=y.heap.size+1) (Bf:=y.heap.size) rfl ac (HF.out.gr ag) HV.out (by have:=aj.out;omega) (by omega) (by omega) cn cf
    (fun k A=>Gr V A/\Rf.firstR f g=Rf.firstFrom f g (N-k) k) (fun _ A=>Res3 A d.heap.size (Rf.firstR f g)/\Below w.heap.size w A)
    (fun k A h=>h.1) (fun k A B h q=>⟨h.1.trans q,h.2⟩) (fun k A l o o' h hl ho hc=>⟨ga o' h.1 hl ho hc,h.2⟩)
    (fun k A l o o' h hl ho hc=>⟨h.1.put (by have:=aa.out;omega),ga o' h.2 (by have:=ab.out;omega) ho hc⟩) ⟨tE _,H.out⟩ ?hassign ?hbody ?hdone ?hstop
   case hassign =>
    intro l k Aa A2 n c n2 c2 O K hK;simp only[rnd,inV,tr,List.set_cons_succ,List.set_cons_zero]at hK ⊢;gi_wp2;exact hK
   case hbody =>
    rintro l k Aa A2 n c n2 c2 Bx O hk ⟨C,I⟩ hi J;simp only[rnd,inV,tr,List.set_cons_succ,List.set_cons_zero];have x0:O.cell? ⟨Bx,0,none⟩=some (.slice Aa n c):=sQ _ _ 0 _ _ _ J;have x1:O.cell? ⟨Bx,1,none⟩=some (.slice A2 n2 c2):=sQ _ _ 1 _ _ _ J;have R:=GV.out.trans C;obtain⟨⟨k0,k1,k2,k3⟩,⟨l0,l1,l2,l3⟩⟩:=HK.out O R;have HA:=dJ (ai.out O _ _ _ (S.out.trans R) hi);have m:=I.trans (Rf.firstFrom_step f g N k hk);have G0:=dJ C;have L:=dJ R;have aA:Hid (k<N):=hk;unfold atV at HA;obtain⟨E,hE⟩:=xJ (Rf.bothE f g (Rf.input f k));obtain⟨T,hT⟩:=xJ (Rf.atB f g (Rf.input f k));rw[hE,hT]at HA m;clear hE hT hi J I hk C R;by_cases hz:E=0
    ·have q1:(E != 0)=false:=by simp[hz]
     subst hz;rw[sU rfl]at HA;rw[sV (by simp)]at m
     cases T with
     | true =>
      have t:Hid (Rf.firstR f g=Rf.firstFrom f g (N-(k+1)) (k+1)):=by show _=_;rw[m,sU rfl]
      clear m;gi_wp2_with (refine⟨trivial,?_⟩;gi_at_call 18;refine(CallsIn.inRound l (callsIn_wide.2 HA.out)).mono ?_;rintro e w5 ⟨rfl,F⟩);exact⟨F.keeps.from _,G0.out.trans F,t.out⟩
     | false =>
      have t:Hid (Rf.firstR f g=((k:Int),true,0)):=by show _=_;rw[m,sV (by decide)]
      clear m;gi_wp2_with (refine⟨trivial,?_⟩;gi_at_call 18;refine(CallsIn.inRound l (callsIn_wide.2 HA.out)).mono ?_;rintro e w5 ⟨rfl,F⟩;obtain⟨-,x4,x5,x6,y4,y5,y6⟩:=M.out w5 (L.out.trans F));refine⟨(F.keeps.trans (((KeepsOthers.setCell _ _ _).trans (KeepsOthers.setCell _ _ _)).trans (KeepsOthers.setCell _ _ _))).from _,?_,j.out _ _ _ _ (L.out.trans F)⟩;rw[t.out];exact Res3.set (M.out w5 (L.out.trans F)).1 _ _ _
    ·have q1:(E != 0)=true:=by simp[hz]
     have t:Hid (Rf.firstR f g=(0,false,E)):=by show _=_;rw[m,sU hz]
     rw[sV hz]at HA;clear m hz;gi_wp2_with (refine⟨trivial,?_⟩;gi_at_call 18;refine(CallsIn.inRound l (callsIn_wide.2 HA.out)).mono ?_;rintro e w5 ⟨rfl,F⟩;obtain⟨-,x4,x5,x6,y4,y5,y6⟩:=M.out w5 (L.out.trans F));refine⟨(F.keeps.trans (((KeepsOthers.setCell _ _ _).trans (KeepsOthers.setCell _ _ _)).trans (KeepsOthers.setCell _ _ _))).from _,?_,j.out _ _ _ _ (L.out.trans F)⟩;rw[t.out];exact Res3.set (M.out w5 (L.out.trans F)).1 _ _ _
   case hdone =>
    rintro D O hD ⟨C,I⟩ hK;have t:Hid (Rf.firstR f g=(0,false,0)):=I.trans (Rf.firstFrom_end f g N);have L:=dJ (GV.out.trans C);have am:Hid (d.heap.size+1+1<D):=by show _<_;have:=aa.out;omega
    have ao:Hid (((((O.setCell ⟨d.heap.size,0,none⟩ (.int .i64 0)).setCell ⟨d.heap.size+1,0,none⟩ (.bool false)).setCell ⟨d.heap.size+1+1,0,none⟩ (.int .i64 0))).heap[D]?=some (.deferred (some []))) :=
     (((KeepsOthers.setCell _ _ _).trans (KeepsOthers.setCell _ _ _)).trans (KeepsOthers.setCell _ _ _)).same D _ hK rfl
    have HD:Hid (w.heap.size<=D):=by show _<=_;have:=ab.out;omega
    obtain⟨-,x4,x5,x6,y4,y5,y6⟩:=M.out O L.out;clear hK I C;go_wp2;refine rl (w0:=w) (r:=(0,false,0)) rfl ao.out am.out rfl rfl rfl (Res3.set (M.out O L.out).1 _ _ _) (j.out _ _ _ _ L.out) HD.out ?_;exact fun w' q=>⟨dm (by rw[z.out,t.out]),q⟩
   case hstop =>
    rintro D k O hD hk ⟨hr,hB⟩ hK;have an:=dJ hK;have ak:=dJ hB;have ae:=dJ hr;clear hK hB hr;go_wp2;refine rl (w0:=w) rfl an.out (by have:=aa.out;omega) rfl rfl rfl ae.out ak.out (by have:=ab.out;omega) ?_;exact fun w' q=>⟨dm (by rw[z.out]),q⟩
  ·have q1:(Rf.inputsE f != 0)=true:=by simpa using h1
   have Q:Hid (dQ f=.tuple #[.int .i64 (Rf.inputsN f),.int .i64 (Rf.inputsE f)]):=by show _=_;rfl
   rw[Q.out]at C2;have H:Hid (fk f g=.tuple #[.int .i64 0,.bool false,.int .i64 (Rf.inputsE f)]):=by show _=_;rw[z.out,p.out,sV (by simp[Z]),sU h1]
   clear Z p z h1
   go_wp2_with (first|(go_at_call 49;refine(C1.out _ S.out).mono ?_;rintro e w1 ⟨rfl,U⟩;have G:Hid (Gr W w1):=U;clear U;obtain⟨⟨k0,k1,k2,k3⟩,⟨l0,l1,l2,l3⟩⟩:=HK.out w1 G.out)|(go_at_call 22;refine(C2.out _ (S.out.trans G.out)).mono ?_;rintro e y ⟨rfl,Y⟩;have G2:Hid (Gr W y):=G.out.trans Y;clear Y;obtain⟨-,x4,x5,x6,y4,y5,y6⟩:=M.out y G2.out))
   refine rk rfl rfl rfl rfl (Res3.set (M.out y G2.out).1 _ _ _) ⟨dm (by rw[H.out]),j.out _ _ _ _ G2.out⟩
 ·have q0:(X != 0)=true:=by simpa using Z
  have H:Hid (fk f g=.tuple #[.int .i64 0,.bool false,.int .i64 X]):=by show _=_;rw[z.out,p.out,sU Z]
  clear Z p z;go_wp2_with (go_at_call 49;refine(C1.out _ S.out).mono ?_;rintro e w1 ⟨rfl,U⟩;have G:=dJ U;clear U;obtain⟨-,x4,x5,x6,y4,y5,y6⟩:=M.out w1 G.out);refine rk rfl rfl rfl rfl (Res3.set (M.out w1 G.out).1 _ _ _) ⟨dm (by rw[H.out]),j.out _ _ _ _ G.out⟩
theorem nY {fl:Int}(h:fl=0\/fl=2):gI (Rf.sumF fl):=by
 rcases h with rfl|rfl
 all_goals
  refine⟨by decide,?_,?_,?_⟩
  ·intro l d;simp[Rf.sumF]at d;subst d;decide
  ·intro l d x g;simp[Rf.sumF]at d;subst d;simp at g;rcases g with rfl|rfl<;>(unfold WfI;refine⟨by decide,?_,by decide,by decide⟩;intro z j;simp at j;omega)
  ·intro l d x g;simp[Rf.sumF]at d;subst d;simp at g;rcases g with rfl|rfl<;>decide
theorem rF (fl:Int):Rn.Im (Rf.sumF fl):=by
 intro l d x g;simp[Rf.sumF]at d;subst d;simp at g;rcases g with rfl|rfl
 ·exact⟨Int.le_refl 0,(by decide:(0:Int)<4294967296)⟩
 ·exact⟨Int.le_refl 0,(by decide:(0:Int)<4294967296)⟩
theorem iz {w:World}{b:Nat}{t:TypeId}{zs:List Int}(h:w.heap[b]?=some (.cells (zs.map (Value.int .i64)).toArray t (0,0)))(hn:zs.length<=1000):IntsAt w.heap.size w (.slice (some ⟨b,0,none⟩) zs.length zs.length) zs :=
 ⟨_,_,rfl,tx _,by omega,fun _=>⟨_,_,rfl,cX h,fun j z hz=>by rw[sQ _ _ _ _ _ _ h,Nat.zero_add];simp[hz]⟩⟩
def lg (b1 b5:Nat):Value:=.agg #[.slice (some ⟨b1,0,none⟩) 2 2,.int .i64 4,.slice none 0 0,.slice (some ⟨b5,0,none⟩) 1 1]
theorem rn {W:World}{b1 b2 b3 b4 b5:Nat}{fl:Int}(r1:W.heap[b1]?=some (.cells #[.int .i64 4,.int .i64 4] 3 (0,0)))(r2:W.heap[b2]?=some (.cells #[.int .i64 0,.int .i64 1] 3 (0,0)))(r3:W.heap[b3]?=some (.cells #[.int .i64 2] 3 (0,0)))
  (r4:W.heap[b4]?=some (.cells #[.int .i64 1,.int .i64 4,.int .i64 fl,.slice (some ⟨b2,0,none⟩) 2 2,.int .u32 0,.slice none 0 0,.int .i64 31,.int .i64 0,.int .i64 0,.slice (some ⟨b3,0,none⟩) 1 1,.int .u32 0,.slice none 0 0] 68 (0,0)))
  (r5:W.heap[b5]?=some (.cells #[.slice (some ⟨b4,0,none⟩) 2 2] 66 (0,0))):FnAt W.heap.size W (lg b1 b5) (Rf.sumF fl):=by
 have d:∀o,W.cell? ⟨b4,o,none⟩=_:=fun o=>sQ _ _ o _ _ _ r4;have l:∀o,W.cell? ⟨b5,o,none⟩=_:=fun o=>sQ _ _ o _ _ _ r5;have g:IntsAt W.heap.size W (.slice none 0 0) []:=⟨none,0,rfl,tx _,by simp,fun h=>by simp at h⟩;have m:=iz (zs:=[4,4]) r1 (by decide);have p:=iz (zs:=[0,1]) r2 (by decide);have q:=iz (zs:=[2]) r3 (by decide)
 have r:BlkAt W.heap.size W (.slice (some ⟨b4,0,none⟩) 2 2) [⟨1,4,fl,[0,1],0,[]⟩,⟨31,0,0,[2],0,[]⟩]:=by
  refine⟨_,_,rfl,tx _,by simp,fun _=>⟨_,_,rfl,cX r4,fun j y hy=>?_⟩⟩
  match j,hy with
  | 0,hy=>simp at hy;subst hy;exact⟨_,_,d 0,d 1,d 2,d 3,d 4,d 5,p,g⟩
  | 1,hy=>simp at hy;subst hy;exact⟨_,_,d 6,d 7,d 8,d 9,d 10,d 11,q,g⟩
 have t:BlksAt W.heap.size W (.slice (some ⟨b5,0,none⟩) 1 1) [[⟨1,4,fl,[0,1],0,[]⟩,⟨31,0,0,[2],0,[]⟩]]:=by
  refine⟨_,_,rfl,tx _,by simp,fun _=>⟨_,_,rfl,cX r5,fun j y hy=>?_⟩⟩
  match j,hy with
  | 0,hy=>simp at hy;subst hy;exact⟨_,l 0,r⟩
 exact⟨_,_,_,rfl,m,g,t⟩
theorem ic {w V:World}{o:Obj}(h:w.alloc o=V):V.heap[w.heap.size]?=some o:=by rw[<-h];exact heap_alloc_new w o
theorem qR (fl:Int)(w:World):Calls prog 32 #[.int .i64 fl] w fun e w'=>∃b1 b5,e=.returned (lg b1 b5)/\FnAt w'.heap.size w' (lg b1 b5) (Rf.sumF fl)/\Gr w w':=by
 obtain⟨d,C⟩:=xJ (w.alloc (.cells #[.slice none 0 0,.int .i64 0,.slice none 0 0,.slice none 0 0] 36));obtain⟨t,L⟩:=xJ (d.alloc (.cells #[.int .i64 4,.int .i64 4] 3));obtain⟨u,M⟩:=xJ (t.alloc (.cells #[.int .i64 0,.int .i64 1] 3));obtain⟨y,N⟩:=xJ (u.alloc (.cells #[.int .i64 2] 3));obtain⟨l,O⟩:=xJ (y.alloc (.cells #[.int .i64 1,.int .i64 4,.int .i64 fl,.slice (some ⟨t.heap.size,0,none⟩) 2 2,.int .u32 0,.slice none 0 0,.int .i64 31,.int .i64 0,.int .i64 0,.slice (some ⟨u.heap.size,0,none⟩) 1 1,.int .u32 0,.slice none 0 0] 68));obtain⟨q,Q⟩:=xJ (l.alloc (.cells #[.slice (some ⟨y.heap.size,0,none⟩) 2 2] 66));obtain⟨W,R⟩:=xJ ((((q.setCell ⟨w.heap.size,0,none⟩ (.slice (some ⟨d.heap.size,0,none⟩) 2 2)).setCell ⟨w.heap.size,1,none⟩ (.int .i64 4)).setCell ⟨w.heap.size,2,none⟩ (.slice none 0 0)).setCell ⟨w.heap.size,3,none⟩ (.slice (some ⟨l.heap.size,0,none⟩) 1 1));have K:Gr w d:=by rw[<-C];exact(tE _).alloc _
 have z:Gr d t:=by rw[<-L];exact(tE _).alloc _
 have r:Gr t u:=by rw[<-M];exact(tE _).alloc _
 have m:Gr u y:=by rw[<-N];exact(tE _).alloc _
 have g:Gr y l:=by rw[<-O];exact(tE _).alloc _
 have j:Gr l q:=by rw[<-Q];exact(tE _).alloc _
 have F:=ic C;have G:=ic L;have H:=ic M;have I:=ic N;have J:=ic O;have Z:=ic Q;have s0:d.heap.size=w.heap.size+1:=by rw[<-C];simp
 have k1:=z.size;have k2:=r.size;have k3:=m.size;have k4:=g.size
 have D:FrS (·=w.heap.size) q W:=by rw[<-R];exact((((FrS.refl (·=w.heap.size) q).setCell (p:=⟨w.heap.size,0,none⟩) rfl _).setCell (p:=⟨w.heap.size,1,none⟩) rfl _).setCell (p:=⟨w.heap.size,2,none⟩) rfl _).setCell (p:=⟨w.heap.size,3,none⟩) rfl _
 have st:∀(k:Nat)(o:Obj),q.heap[k]?=some o->k≠w.heap.size->W.heap[k]?=some o:=fun k o h hk=>(D.block k (cX h) hk).trans h;have S:=st _ _ ((r.trans (m.trans (g.trans j))).heap _ (cX G) |>.trans G) (by omega);have T:=st _ _ ((m.trans (g.trans j)).heap _ (cX H) |>.trans H) (by omega);have U:=st _ _ ((g.trans j).heap _ (cX I) |>.trans I) (by omega);have X:=st _ _ (j.heap _ (cX J) |>.trans J) (by omega);have Y:=st _ _ Z (by omega);have B:=dJ (rn (fl:=fl) S T U X Y);have A:=(z.trans (r.trans (m.trans (g.trans j)))).heap _ (cX F) |>.trans F;have E:=cY (i:=3) (.slice (some ⟨l.heap.size,0,none⟩) 1 1) (cY (i:=2) (.slice none 0 0) (cY (i:=1) (.int .i64 4) (cY (i:=0) (.slice (some ⟨d.heap.size,0,none⟩) 2 2) A)));rw[R]at E;have HG:Hid (Gr w W):=gr_frs' (K.trans (z.trans (r.trans (m.trans (g.trans j))))) D (fun k hk=>by omega);obtain⟨c0,c1,c2,c3⟩:=crw4 A 0 1 2 3;obtain⟨f0,f1,f2,f3⟩:=frw4 A 0 1 2 3;obtain⟨z0,z1,z2,z3⟩:=crw4 E 0 1 2 3;clear K z r m g j F G H I J Z s0 k1 k2 k3 k4 D st S T U X Y A E
 go_enter func32, ntmps32
 go_wp2;refine sS (v:=lg d.heap.size l.heap.size) (by simp[results,results32,go_sem,z0,z1,z2,z3,lg]) rfl ?_;exact⟨_,_,rfl,B.out,HG.out⟩
theorem lQ (w:World):Calls prog 11 #[] w (RG (.bool true) w):=by
 have q:Hid (∀(fl:Int)(u:World),Calls prog 32 #[.int .i64 fl] u fun e w'=>∃j m,e=.returned (lg j m)/\FnAt w'.heap.size w' (lg j m) (Rf.sumF fl)/\Gr u w'):=qR;have H:Hid (∀(u:World)(a b c d:Nat)(k l:Int),k=0\/k=2->l=0\/l=2->FnAt u.heap.size u (lg a b) (Rf.sumF k)->FnAt u.heap.size u (lg c d) (Rf.sumF l)->Calls prog 28 #[lg a b,lg c d] u (RG (fk (Rf.sumF k) (Rf.sumF l)) u)):=fun u a b c d k l hk hl h1 h2=>mX h1 h2 (nY hk) (nY hl) (rF k) (rF l)
 have HI:Hid (∀(u:World)(a b:Nat),FnAt u.heap.size u (lg a b) (Rf.sumF 0)->Calls prog 22 #[lg a b] u (RG (.tuple #[.int .i64 256,.int .i64 0]) u)):=fun u a b h=>by
  have:=gY h (nY (.inl rfl));unfold dQ at this
  rwa [Rf.k_inputs.1,Rf.k_inputs.2]at this
 have A:Hid (fk (Rf.sumF 2) (Rf.sumF 0)=.tuple #[.int .i64 0,.bool false,.int .i64 0]):=by show _=_;unfold fk;rw[Rf.k_yes]
 have B:Hid (fk (Rf.sumF 0) (Rf.sumF 2)=.tuple #[.int .i64 23,.bool true,.int .i64 0]):=by show _=_;unfold fk;rw[Rf.k_no]
 have g:Hid (∀j m,lg j m=.agg #[.slice (some ⟨j,0,none⟩) 2 2,.int .i64 4,.slice none 0 0,.slice (some ⟨m,0,none⟩) 1 1]):=fun _ _=>rfl
 go_enter func11, ntmps11
 go_wp2_with (first|(go_at_call 32;(with_reducible refine(q.out 2 w).mono ?_);rintro e w1 ⟨a1,j,rfl,r,I⟩;have U:=dJ r;have X:=dJ I;clear r I;rw[g.out])|(go_at_call 32;(with_reducible refine(q.out 0 w1).mono ?_);rintro e N ⟨a2,b2,rfl,p,C⟩;have F2:=dJ p;have Y:Hid (Gr w N):=X.out.trans C;have E:=dJ (H.out N a1 j a2 b2 2 0 (.inr rfl) (.inl rfl) (U.out.gr C) p);rw[A.out,g.out,g.out]at E;clear p C;rw[g.out])|(go_at_call 28;(with_reducible refine E.out.mono ?_);rintro e O ⟨rfl,J⟩;have Z:Hid (Gr w O):=Y.out.trans J;clear J)|(go_at_call 32;(with_reducible refine(q.out 0 O).mono ?_);rintro e Q ⟨a4,b4,rfl,t,K⟩;have W:=dJ t;have G4:Hid (Gr w Q):=Z.out.trans K;clear t K;rw[g.out])|(go_at_call 32;(with_reducible refine(q.out 2 Q).mono ?_);rintro e R ⟨a5,m,rfl,y,D⟩;have G5:Hid (Gr w R):=G4.out.trans D;have F:=dJ (H.out R a4 b4 a5 m 0 2 (.inl rfl) (.inr rfl) (W.out.gr D) y);rw[B.out,g.out,g.out]at F;clear y D;rw[g.out])|(go_at_call 28;(with_reducible refine F.out.mono ?_);rintro e S ⟨rfl,L⟩;have G6:Hid (Gr w S):=G5.out.trans L;clear L)|(go_at_call 32;(with_reducible refine(q.out 0 S).mono ?_);rintro e T ⟨a7,b7,rfl,z,M⟩;have G:=dJ (HI.out T a7 b7 z);rw[g.out]at G;have G7:Hid (Gr w T):=G6.out.trans M;clear z M;rw[g.out])|(go_at_call 22;refine G.out.mono ?_;rintro e w8 ⟨rfl,g8⟩))
 go_ret;exact⟨rfl,G7.out.trans g8⟩
end
section
open Go.RowKit
theorem lY (a b:Rn.V)(w:World):Calls prog 35 #[.agg #[.bool a.p,.int .i64 a.s,.int .u32 a.n],.agg #[.bool b.p,.int .i64 b.s,.int .u32 b.n]] w (RG (.bool (decide (a=b))) w):=by
 have y:Hid (Gr w ((w.alloc (.cells #[.bool a.p,.int .i64 a.s,.int .u32 a.n] 24)).alloc (.cells #[.bool b.p,.int .i64 b.s,.int .u32 b.n] 24))):=((tE w).alloc _).alloc _;obtain⟨g,j,t⟩:=a;obtain⟨l,m,u⟩:=b;dsimp only at *;by_cases d:g=l
 ·have A:(g == l)=true:=by simp[d]
  by_cases q:j=m
  ·have B:(j == m)=true:=by simp[q]
   have r:Hid (decide ((⟨g,j,t⟩:Rn.V)=⟨l,m,u⟩)=(t == u)):=by show _=_;subst d;subst q;by_cases z:t=u<;>simp[z]
   clear d q
   go_enter func35, ntmps35
   go_wp2;go_ret;exact⟨cZ r.out.symm,y.out⟩
  ·have B:(j == m)=false:=by simp[q]
   have r:Hid (decide ((⟨g,j,t⟩:Rn.V)=⟨l,m,u⟩)=false):=by show _=_;simp[q]
   clear d q
   go_enter func35, ntmps35
   go_wp2;go_ret;exact⟨cZ r.out.symm,y.out⟩
 ·have A:(g == l)=false:=by simp[d]
  have r:Hid (decide ((⟨g,j,t⟩:Rn.V)=⟨l,m,u⟩)=false):=by show _=_;simp[d]
  clear d
  go_enter func35, ntmps35
  go_wp2;go_ret;exact⟨cZ r.out.symm,y.out⟩
theorem gG {w:World}{A:Option Addr}{n c:Nat}{t:List (List Int)}(h:TabAt w.heap.size w (.slice A n c) t):∀(i:Nat)(x:List Int),t[i]?=some x->∃b off Ax cx,A=some ⟨b,off,none⟩/\x.length<=17592186044416 /\
  (∀u,Gr w u->u.cell? ⟨b,off+i,none⟩=some (.slice Ax x.length cx))/\∀(k:Nat)(y:Int),x[k]?=some y->∃bx ox,Ax=some ⟨bx,ox,none⟩/\∀u,Gr w u->u.cell? ⟨bx,ox+k,none⟩=some (.int .i64 y):=by
 obtain⟨D,E,e,H,I,p⟩:=h;injection e with m F G;subst m;intro i x l;obtain⟨b,off,rfl,q,r⟩:=p (by have:=(su.1 l).1;omega);obtain⟨u,z,Ax,cx,rfl,J,B,C⟩:=r i x l;refine⟨b,off,Ax,cx,rfl,B,fun v g=>(g.cell _ _ q).trans z,fun k y hy=>?_⟩;obtain⟨bx,ox,rfl,d,j⟩:=C (by have:=(su.1 hy).1;omega);exact⟨bx,ox,rfl,fun v g=>(g.cell _ _ d).trans (j k y hy)⟩
theorem tL {w:World}{s t:Rn.Out}{vs vt:Value}(hs:TabAt w.heap.size w vs s.mem)(ht:TabAt w.heap.size w vt t.mem) :
  Calls prog 13 #[en s vs,en t vt] w (RG (.bool (Rf.permits s t)) w):=by
 obtain⟨Wa,Q⟩:=xJ (fR w s vs);obtain⟨W,hW⟩:=xJ (fR Wa t vt);have J:Gr w Wa:=by rw[<-Q];exact(tE w).alloc _
 have g2:Gr Wa W:=by rw[<-hW];exact(tE Wa).alloc _
 have gW:=J.trans g2;obtain⟨a0,a1,a2,a3,a4⟩:=du (w:=w) (o:=s) (vm:=vs) (w':=W) (by rw[Q];exact g2);obtain⟨b0,b1,b2,b3,b4⟩:=du (w:=Wa) (o:=t) (vm:=vt) (w':=W) (by rw[hW];exact tE _)
 have D:Hid (∀wr,Gr W wr->wr.cell? ⟨w.heap.size,4,none⟩=some vs/\wr.cell? ⟨Wa.heap.size,4,none⟩=some vt):=fun wr g =>
  ⟨(du (w:=w) (o:=s) (vm:=vs) (w':=wr) (by rw[Q];exact g2.trans g)).2.2.2.2,(du (w:=Wa) (o:=t) (vm:=vt) (w':=wr) (by rw[hW];exact g)).2.2.2.2⟩
 have r:Hid (∀u,Calls prog 35 #[.agg #[.bool s.ret.p,.int .i64 s.ret.s,.int .u32 s.ret.n],.agg #[.bool t.ret.p,.int .i64 t.ret.s,.int .u32 t.ret.n]] u (RG (.bool (decide (s.ret=t.ret))) u)):=lY s.ret t.ret;have N:=dJ gW;have H:Hid (Rf.permits s t=if s.kind=1 then true else if s.kind=2 then decide (t.kind=2) else if s.kind≠0\/t.kind≠0 then false else if s.ret.p=false/\s.ret≠t.ret then false else Rf.likeM s.mem t.mem):=by show _=_;rfl
 have HS:=dJ (hs.gr gW);have HT:=dJ (ht.gr gW);obtain⟨E,⟨T,ss,sn⟩,l⟩:=s;obtain⟨tk,⟨tp,ts,tn⟩,B⟩:=t;obtain⟨A,ca,rfl,-⟩:=id hs;obtain⟨A',cb,rfl,-⟩:=id ht;dsimp only at *;obtain⟨R,O⟩:=xJ (Rf.permits ⟨E,⟨T,ss,sn⟩,l⟩ ⟨tk,⟨tp,ts,tn⟩,B⟩);rw[O]at H ⊢;clear hs ht J g2 gW O;unfold fR at Q hW;unfold en;dsimp only at *;by_cases G:E=1
 ·have q1:(E == 1)=true:=by simp[G]
  have j:Hid (R=true):=by show _=_;rw[H.out,sU G]
  clear H G
  go_enter func13, ntmps13
  go_wp2;go_ret;exact⟨cZ j.out.symm,N.out⟩
 have q1:(E == 1)=false:=by simp[G]
 by_cases k2:E=tk
 ·have q2:(E != tk)=false:=by simp[k2]
  by_cases F:E=2
  ·have q3:(E == 2)=true:=by simp[F]
   have q4:(E != 0)=true:=by simp[F]
   have q5:(E != 2)=false:=by simp[F]
   have j:Hid (R=true):=by show _=_;rw[H.out,sV G,sU F];simp;omega
   clear H G k2 F
   go_enter func13, ntmps13
   go_wp2;go_ret;exact⟨cZ j.out.symm,N.out⟩
  ·have q3:(E == 2)=false:=by simp[F]
   have q5:(E != 2)=true:=by simp[F]
   by_cases k4:E=0
   ·have q4:(E != 0)=false:=by simp[k4]
    have j:Hid (R=if T=false/\(⟨T,ss,sn⟩:Rn.V)≠⟨tp,ts,tn⟩ then false else Rf.likeM l B):=by show _=_;rw[H.out,sV G,sV F,sV (by omega)]
    clear H G k2 F k4;by_cases hD:T=false/\(⟨T,ss,sn⟩:Rn.V)≠⟨tp,ts,tn⟩
    ·have I:Hid (R=false):=by show _=_;rw[j.out,sU hD]
     rw[decide_eq_false hD.2]at r;have ax:=hD.1;clear hD j;subst ax
     go_enter func13, ntmps13
     go_wp2_with (go_at_call 35;refine(r.out _).mono ?_;rintro e w1 ⟨rfl,J⟩);go_ret;exact⟨cZ I.out.symm,N.out.trans J⟩
    ·have I:Hid (R=Rf.likeM l B):=by show _=_;rw[j.out,sV hD]
     have C:Hid (T=false->∀u,Calls prog 35 #[.agg #[.bool T,.int .i64 ss,.int .u32 sn],.agg #[.bool tp,.int .i64 ts,.int .u32 tn]] u (RG (.bool true) u)):=fun e u=>by
      have:=r.out u
      rwa [decide_eq_true (Classical.byContradiction fun q=>hD ⟨e,q⟩)]at this
     clear hD j r;by_cases hlen:l.length=B.length
     ·have q6:((l.length:Int) != (B.length:Int))=false:=by simp[hlen]
      have Y:Hid (l.length=B.length):=hlen;have aD:(l.length:Int)<=17592186044416:=by obtain⟨_,_,e,_,h2,_⟩:=HS.out;omega
      have al:=gG HS.out;have am:=gG HT.out;have ar:=dJ al;have au:=dJ am;clear hlen al am;cases T
      case' false =>
       have r:=dJ (C.out rfl);clear C
       go_enter func13, ntmps13
       go_wp2_with (go_at_call 35;refine(r.out _).mono ?_;rintro e w1 ⟨rfl,J⟩;obtain⟨U,X⟩:=D.out w1 J);have ad:Hid (Gr W w1):=J;clear J U X a0 a1 a2 a3 a4 b0 b1 b2 b3 b4 r
      case' true =>
       go_enter func13, ntmps13
       go_wp2;have ad:Hid (Gr W W):=tE W;clear a0 a1 a2 a3 a4 b0 b1 b2 b3 b4 C
      all_goals
       go_loopw [5,6] (fun s5 _ wr=>∃i:Nat,i<=l.length/\s5=.int .i64 (i:Int)/\Hid (R=Rf.likeM (l.drop i) (B.drop i))/\Hid (Gr W wr)) (fun s5 _ _=>l.length-(intOf s5).toNat)
       case atStart=>exact⟨0,tv _,rfl,I.out,ad⟩
       case round =>
        obtain⟨i,hi,rfl,O,hg⟩:=hrel;have d:=hg.out;obtain⟨U,X⟩:=D.out wr d;by_cases S:i<l.length
        ·have K:i<B.length:=by have:=Y.out;omega
         obtain⟨x,hx⟩:∃x,l[i]?=some x:=⟨_,sq S⟩;obtain⟨y,hy⟩:∃y,B[i]?=some y:=⟨_,sq K⟩;obtain⟨bs,os,Ax,cx,rfl,aE,an,ao⟩:=ar.out i x hx;obtain⟨bt,ot,Ay,cy,rfl,aF,ap,aq⟩:=au.out i y hy;have ag:Hid (R=(Rf.likeL x y && Rf.likeM (l.drop (i+1)) (B.drop (i+1)))):=O.out.trans (Rf.likeM_step hx hy);have av:=dJ ao;have aw:=dJ aq;have ab:=dJ an;have ai:=dJ ap;have U1:=fun u:GrW wr=>(D.out u.val (d.trans u.gr)).1;have U2:=fun u:GrW wr=>(D.out u.val (d.trans u.gr)).2;have U3:=fun u:GrW wr=>ab.out u.val (d.trans u.gr);have U4:=fun u:GrW wr=>ai.out u.val (d.trans u.gr);have G0:=dJ d;have az:(i:Int)<(l.length:Int):=by omega
         have ae:Hid (i<l.length):=S;have aA:(i:Int)<(B.length:Int):=by omega
         clear hx hy ao aq an ap O hg d;by_cases M:x.length=y.length
         ·have hq:((x.length:Int) != (y.length:Int))=false:=by simp[M]
          have ah:Hid (x.length=y.length):=M;clear M;go_wp2;refine dg (by kernel_rfl) (by kernel_rfl) ?_;repeat (go_big_quiet_step (fail))
          refine wpQuiet_nil ?_;intro w8 ac;obtain⟨u8,rfl⟩:=ac;have G8:=dJ (G0.out.trans u8.gr);clear U1 U2 U3 U4 U X;go_wp2
          go_loopw [6] (fun s6 w2=>∃k:Nat,k<=x.length/\s6=.int .i64 (k:Int)/\Hid (R=(Rf.likeL (x.drop k) (y.drop k) && Rf.likeM (l.drop (i+1)) (B.drop (i+1))))/\Hid (Gr W w2)) (fun s6 _=>x.length-(intOf s6).toNat)
          case atStart=>exact⟨0,tv _,rfl,ag.out,G8.out⟩
          case round=>as_aux_lemma =>
           obtain⟨k,hk,rfl,O,hg⟩:=hrel;have d:=hg.out;obtain⟨U,X⟩:=D.out wr d;have x5:=ab.out wr d;by_cases S:k<x.length
           ·have K:k<y.length:=by have:=ah.out;omega
            obtain⟨Z,hx⟩:∃z,x[k]?=some z:=⟨_,sq S⟩;obtain⟨yv,hy⟩:∃z,y[k]?=some z:=⟨_,sq K⟩;obtain⟨bx,ox,rfl,aj⟩:=av.out k Z hx;obtain⟨ay,oy,rfl,ak⟩:=aw.out k yv hy;have m:Hid (R=((Rf.like1 Z yv && Rf.likeL (x.drop (k+1)) (y.drop (k+1))) && Rf.likeM (l.drop (i+1)) (B.drop (i+1)))):=by show _=_;rw[O.out,Rf.likeL_step hx hy]
            have U1:=fun u:GrW wr=>(D.out u.val (d.trans u.gr)).1;have U2:=fun u:GrW wr=>(D.out u.val (d.trans u.gr)).2;have U3:=fun u:GrW wr=>ab.out u.val (d.trans u.gr);have U4:=fun u:GrW wr=>ai.out u.val (d.trans u.gr);have U5:=fun u:GrW wr=>aj u.val (d.trans u.gr);have U6:=fun u:GrW wr=>ak u.val (d.trans u.gr);have G0:=dJ d;have aB:(k:Int)<(x.length:Int):=by omega
            have aC:(k:Int)<(y.length:Int):=by omega
            clear hx hy aj ak O hg d;by_cases e1:Z=-1
            ·have q7:(Z != -1)=false:=by simp[e1]
             have HN:Hid (R=(Rf.likeL (x.drop (k+1)) (y.drop (k+1)) && Rf.likeM (l.drop (i+1)) (B.drop (i+1)))):=by show _=_;rw[m.out];simp[Rf.like1,e1]
             clear e1 m;go_wp2;refine dg (by kernel_rfl) (by kernel_rfl) ?_;repeat (go_big_quiet_step (fail))
             refine wpQuiet_nil ?_;intro w7 L;obtain⟨u7,rfl⟩:=L;have G7:=dJ (G0.out.trans u7.gr);clear U1 U2 U3 U4 U5 U6 U X x5;go_wp2;exact⟨⟨k+1,by omega,by go_num,HN.out,G7.out⟩,by simp[intOf];omega⟩
            ·have q7:(Z != -1)=true:=by simp[e1]
             by_cases e2:Z=yv
             ·have q8:(Z != yv)=false:=by simp[e2]
              have HN:Hid (R=(Rf.likeL (x.drop (k+1)) (y.drop (k+1)) && Rf.likeM (l.drop (i+1)) (B.drop (i+1)))):=by show _=_;rw[m.out];simp[Rf.like1,e2]
              clear e1 e2 m;go_wp2;refine dg (by kernel_rfl) (by kernel_rfl) ?_;repeat (go_big_quiet_step (fail))
              refine wpQuiet_nil ?_;intro w7 L;obtain⟨u7,rfl⟩:=L;have G7:=dJ (G0.out.trans u7.gr);clear U1 U2 U3 U4 U5 U6 U X x5;go_wp2;exact⟨⟨k+1,by omega,by go_num,HN.out,G7.out⟩,by simp[intOf];omega⟩
             ·have q8:(Z != yv)=true:=by simp[e2]
              have HN:Hid (R=false):=by show _=_;rw[m.out];simp[Rf.like1,e1,e2]
              clear e1 e2 m;go_wp2;refine dg (by kernel_rfl) (by kernel_rfl) ?_;repeat (go_big_quiet_step (fail))
              refine wpQuiet_nil ?_;intro w7 L;obtain⟨u7,rfl⟩:=L;have G7:=dJ (N.out.trans (G0.out.trans u7.gr));clear U1 U2 U3 U4 U5 U6 U X x5;go_wp2;go_ret;exact⟨cZ HN.out.symm,G7.out⟩
           ·obtain rfl:k=x.length:=by omega
            have HN:Hid (R=Rf.likeM (l.drop (i+1)) (B.drop (i+1))):=by show _=_;rw[O.out,Rf.likeL_end ah.out];rfl
            go_wp2;exact⟨⟨i+1,ae.out,by go_num,HN.out,hg⟩,by have:=ae.out;simp[intOf];omega⟩
         ·have hq:((x.length:Int) != (y.length:Int))=true:=by simp;omega
          have aa:Hid (R=false):=by
           show _=_;rw[ag.out]
           cases h:Rf.likeL x y with
           | false=>rfl
           | true=>exact absurd (Rf.likeL_len h) M
          clear M;go_wp2;refine dg (by kernel_rfl) (by kernel_rfl) ?_;repeat (go_big_quiet_step (fail))
          refine wpQuiet_nil ?_;intro w8 ac;obtain⟨u8,rfl⟩:=ac;have G8:=dJ (N.out.trans (G0.out.trans u8.gr));clear U1 U2 U3 U4 U X;go_wp2;go_ret;exact⟨cZ aa.out.symm,G8.out⟩
        ·obtain rfl:i=l.length:=by omega
         have aa:Hid (R=true):=O.out.trans (Rf.likeM_end Y.out);go_wp2;go_ret;exact⟨cZ aa.out.symm,N.out.trans hg.out⟩
     ·have af:Hid (R=false):=by
       show _=_;rw[I.out]
       cases h:Rf.likeM l B with
       | false=>rfl
       | true=>exact absurd (Rf.likeM_len h) hlen
      have q6:((l.length:Int) != (B.length:Int))=true:=by simp;omega
      clear hlen I
      cases T with
      | false =>
       have r:=dJ (C.out rfl);clear C
       go_enter func13, ntmps13
       go_wp2_with (go_at_call 35;refine(r.out _).mono ?_;rintro e w1 ⟨rfl,J⟩;obtain⟨U,X⟩:=D.out w1 J);go_ret;exact⟨cZ af.out.symm,N.out.trans J⟩
      | true =>
       go_enter func13, ntmps13
       go_wp2;go_ret;exact⟨cZ af.out.symm,N.out⟩
   ·have q4:(E != 0)=true:=by simp[k4]
    have j:Hid (R=false):=by show _=_;rw[H.out,sV G,sV F,sU (.inl k4)]
    clear H G k2 F k4
    go_enter func13, ntmps13
    go_wp2;go_ret;exact⟨cZ j.out.symm,N.out⟩
 ·have q2:(E != tk)=true:=by simp[k2]
  have j:Hid (R=false):=by
   show _=_;rw[H.out,sV G];by_cases F:E=2
   ·rw[sU F];simp;omega
   ·rw[sV F,sU (by omega)]
  clear H G k2
  go_enter func13, ntmps13
  go_wp2;go_ret;exact⟨cZ j.out.symm,N.out⟩
def uo (v:Value)(n:Nat):Prop:=∃A c,v=.slice A n c/\n<=c/\n<=9223372036854775807
structure tV (w:World)(v:Value)(zs:List Int):Prop where
 len:uo v zs.length
 at_:zs.length<=1000->U32At w.heap.size w v zs
 words:∀z∈zs,0<=z/\z<4294967296
def tN (i:Rn.Inp):Bool:=decide (20<i.args.length) || decide (20<i.mem.length) || i.mem.any fun l=>decide (50<l.length)
theorem um {w:World}{i:Rn.Inp}{va vm:Value}(ha:uo va i.args.length)(hm:TabAt w.heap.size w vm i.mem) :
  Calls prog 17 #[.agg #[va,vm]] w (RG (.bool (tN i)) w):=by
 obtain⟨C,ca,rfl,Y,Z⟩:=ha;obtain⟨Am,cm,rfl,m1,m2,N⟩:=hm;obtain⟨W,M⟩:=xJ (w.alloc (.cells #[.slice C i.args.length ca,.slice Am i.mem.length cm] 41));have G:Gr w W:=by rw[<-M];exact(tE w).alloc _
 have r:W.heap[w.heap.size]?=some (.cells #[.slice C i.args.length ca,.slice Am i.mem.length cm] 41 (0,0)):=by rw[<-M];exact heap_alloc_new _ _
 have k0:W.cell? ⟨w.heap.size,0,none⟩=some (.slice C i.args.length ca):=sQ _ _ 0 _ _ _ r;have k1:W.cell? ⟨w.heap.size,1,none⟩=some (.slice Am i.mem.length cm):=sQ _ _ 1 _ _ _ r
 have D:Hid (∀j l,i.mem[j]?=some l->∃b o z B,Am=some ⟨b,o,none⟩/\W.cell? ⟨b,o+j,none⟩=some (.slice z l.length B)):=fun j l d=>by obtain⟨b,o,e,U,T⟩:=N (by have:=(su.1 d).1;omega);obtain⟨u,X,z,B,rfl,-⟩:=T j l d;exact⟨b,o,z,B,e,(G.cell _ _ U).trans X⟩
 have A:=dJ G;obtain⟨R,I⟩:=xJ (tN i);have E:=dJ I;rw[I];clear G r N I;by_cases g:20<i.args.length
 ·have p:Hid (R=true):=by show _=_;rw[<-E.out];simp[tN,g]
  have O:(20:Int)<(i.args.length:Int):=by omega
  go_enter func17, ntmps17
  go_wp2;go_ret;exact⟨cZ p.out.symm,A.out⟩
 ·have O:¬(20:Int)<(i.args.length:Int):=by omega
  by_cases m:20<i.mem.length
  ·have p:Hid (R=true):=by show _=_;rw[<-E.out];simp[tN,m]
   have Q:(20:Int)<(i.mem.length:Int):=by omega
   go_enter func17, ntmps17
   go_wp2;go_ret;exact⟨cZ p.out.symm,A.out⟩
  ·have Q:¬(20:Int)<(i.mem.length:Int):=by omega
   have t:Hid ((i.mem.any fun l=>decide (50<l.length))=R):=by show _=_;rw[<-E.out];simp[tN,g,m]
   go_enter func17, ntmps17
   go_wp2
   go_loop [3] (fun L=>∃k:Nat,k<=i.mem.length/\L=.int .i64 (k:Int)/\Hid (∀j l,j<k->i.mem[j]?=some l->l.length<=50)) (fun L=>i.mem.length-(intOf L).toNat)
   case atStart=>exact⟨0,tv _,rfl,(fun j l h=>absurd h (Nat.not_lt_zero _))⟩
   case round =>
    obtain⟨k,hk,rfl,y⟩:=hrel;by_cases K:k<i.mem.length
    ·obtain⟨l,d⟩:∃l,i.mem[k]?=some l:=⟨_,sq K⟩;obtain⟨b,o,z,B,rfl,cx⟩:=D.out k l d;by_cases H:50<l.length
     ·have p:Hid (R=true):=by show _=_;rw[<-t.out,tt];exact⟨l,sw d,by simpa using H⟩
      have S:(50:Int)<(l.length:Int):=by omega
      clear d;go_wp2;go_ret;exact⟨cZ p.out.symm,A.out⟩
     ·have S:¬(50:Int)<(l.length:Int):=by omega
      have F:Hid (∀j l,j<k+1->i.mem[j]?=some l->l.length<=50):=fun j l' J h=>by
       rcases sZ j k with q|q
       ·exact y.out j l' q h
       ·obtain rfl:j=k:=by omega
        rw[d]at h;injection h with h;subst h;omega
      clear d;go_wp2;go_round;case rel=>exact⟨k+1,by omega,by go_num,F⟩
      case measure=>simp[intOf];omega
    ·have p:Hid (R=false):=by
      show _=_;rw[<-t.out,List.any_eq_false];intro l d;obtain⟨j,J⟩:=List.getElem?_of_mem d;have:=(su.1 J).1;have:=y.out j l (by omega) J;simpa using this
     go_wp2;go_ret;exact⟨cZ p.out.symm,A.out⟩
end
section
open Go.RowKit Go.Deep Go.ChangeShapes Go.WideShapes
section
variable {H:Type}{enc:TypeId × Value->H}{w:World}
theorem ug {fuel:Nat}{v:Value}{x:DataW H × List MemPlace}(h:DataW.trod enc prog w 0 (fun _=>true) true fuel 39 [v]=some x):∃zs,tV w v zs:=by
 rcases open_ints underlying39 underlying22 (by kernel_rfl) h with ⟨g,-⟩|⟨a,l,c,zs,g,-,A,u,D,rfl,d,y⟩
 ·obtain rfl:v=.slice none 0 0:=by simpa using g
  exact⟨[],⟨none,0,rfl,by simp,by simp⟩,fun _=>⟨none,0,rfl,by simp,by simp,by simp⟩,by simp⟩
 ·obtain rfl:v=.slice (some a) l c:=by simpa using g
  simp only[if_true]at D;have hlen:(zs.take l).length=l:=by simp;omega
  have E:c<=9223372036854775807:=u;refine⟨zs.take l,⟨some a,c,by rw[hlen],by rw[hlen];exact A,by rw[hlen];omega⟩,fun C=>⟨some a,c,by rw[hlen],by rw[hlen];exact A,by omega,fun B=>?_⟩,fun z hz'=>by have:=bounds_u32 (y z (List.mem_of_mem_take hz'));omega⟩;rw[hlen]at B;have p:=d 0 (by omega);obtain⟨b,off,q⟩:=a;have m:q=none:=by simpa[Addr.add] using World.cell?_spot p
  subst m;refine⟨b,off,rfl,by simpa[Addr.add] using mT p,fun j z r=>?_⟩
  have t:j<l:=by have:=(su.1 r).1;rw[hlen]at this;exact this
  rw[sI,sU t]at r;have:=d j (by omega);rw[add_plain]at this;simpa[List.getD,r] using this
theorem pL {fuel:Nat}{v:Value}{x:DataW H × List MemPlace}(h:DataW.trod enc prog w 0 (fun _=>true) true fuel 25 [v]=some x)
  (hw:∀m∈x.1.weights prog 25,m<=reachBytes):∃t,TabAt w.heap.size w v t:=by
 have C:Program.cellsOf prog 33=1:=by kernel_rfl
 have L:Program.bytesOf prog 33=24:=by kernel_rfl
 have N:reachBytes=0x7ffffffff000:=rfl;rcases open_slice1 underlying25 C h with ⟨g,-⟩|⟨a,l,c,m,n,V,D,O,g,-,M,-,I,rfl,E⟩
 ·obtain rfl:v=.slice none 0 0:=by simpa using g
  exact⟨[],⟨none,0,rfl,by simp,by simp,by simp⟩⟩
 ·obtain rfl:v=.slice (some a) l c:=by simpa using g
  simp only[if_true]at I;subst I;have A:=hw _ (by simp only[DataW.weights,underlying25];exact List.mem_cons_self);simp only[sO,List.length_range]at A;rw[L,N]at A
  obtain⟨X,K⟩:=choose_lt (α:=List Int) (n:=l) (p:=fun i X=>IntsAt w.heap.size w (V i) X) (fun i hi=>by
    obtain⟨zs,F,-⟩:=nn (E i (by omega)).2 (fun k hk=>hw k (by
      simp only[DataW.weights,underlying25]
      refine List.mem_cons_of_mem _ (td.2 (Or.inl (eU (d:=D i) (List.mem_map.2 ⟨i,List.mem_range.2 hi,rfl⟩) hk)))))
    exact⟨zs,F⟩)
  have hlen:((List.range l).map X).length=l:=by simp
  refine⟨(List.range l).map X,⟨some a,m,by rw[hlen],by rw[hlen];exact M,by rw[hlen];omega,fun J=>?_⟩⟩;rw[hlen]at J;have u:=(E 0 (by omega)).1;obtain⟨b,off,B⟩:=a;have r:B=none:=by simpa[Addr.add] using World.cell?_spot u
  subst r;refine⟨b,off,rfl,by simpa[Addr.add] using mT u,fun j z G=>?_⟩
  have y:j<l:=by have:=(su.1 G).1;rw[hlen]at this;exact this
  obtain rfl:X j=z:=by simpa[y] using G
  have q:=(E j (by omega)).1;rw[add_plain]at q;exact⟨V j,q,K j y⟩
theorem uj {v:Value}{d:DataW H}{p:List MemPlace}(hv:Value.okWide prog w .any 0 41 v)(h:DataW.Trod enc prog w 0 (fun _=>true) true 41 v d p)
  (hw:∀m∈d.weights prog 41,m<=reachBytes):∃(i:Rn.Inp)(va vm:Value),v=.agg #[va,vm]/\tV w va i.args/\TabAt w.heap.size w vm i.mem:=by
 obtain⟨v0,r,u,y,n,rfl,rfl,-,g,j⟩:=Go.Joins.open_agg2 underlying41 (by kernel_rfl) (by kernel_rfl) hv h;obtain⟨zs,l⟩:=ug g;obtain⟨t,q⟩:=pL j (fun m hm=>hw m (by simp[DataW.weights,underlying41,DataW.weightsEach,hm]));exact⟨⟨zs,t⟩,v0,r,rfl,l,q⟩
theorem un {f:Fn}(hs:∀l∈f.blocks,∀z∈l,tY z):Rn.Im f:=fun l d x g=>(hs l d x g).1
end
end
section
open Go.RowKit Go.Shelf Go.Deep Go.ChangeShapes Go.WideShapes
section
variable {H:Type}{enc:TypeId × Value->H}{w:World}
theorem lc {v:Value}{d:DataW H}{p:List MemPlace}(hv:Value.okWide prog w .any 0 27 v)(h:DataW.Trod enc prog w 0 (fun _=>true) true 27 v d p)
  (hw:∀m∈d.weights prog 27,m<=reachBytes):∃(o:Rn.Out)(vm:Value),v=en o vm/\TabAt w.heap.size w vm o.mem/\0<=o.ret.n/\o.ret.n<4294967296:=by
 have B:Program.cellsOf prog 3=1:=by kernel_rfl
 have M:Program.cellsOf prog 4=1:=by kernel_rfl
 have r:Program.cellsOf prog 22=1:=by kernel_rfl
 have u:Program.cellsOf prog 24=3:=by kernel_rfl
 have q:Program.cellsOf prog 25=1:=by kernel_rfl
 have y:Program.cellsOf prog 27=5:=by kernel_rfl
 obtain⟨cs,rfl,l⟩:=okWide_struct underlying27 hv;obtain⟨C,Q⟩:=h;obtain⟨xs,n,-,G,Y,hlen,z⟩:=DataW.trod_struct underlying27 Q;rw[y]at l;obtain⟨L⟩:=cs
 match L,l with
 | [c0,c1,c2,c3,c4],_ =>
  match xs,hlen with
  | [y0,y1,y2],_ =>
   have D:=z 0 _ rfl;have E:=z 1 _ rfl;have F:=z 2 _ rfl;simp only[Prod.mk.injEq]at G;obtain⟨rfl,-⟩:=G;simp[B,u,q,Value.cells]at D E F;obtain⟨k,N,-,-⟩:=DataW.trod_int underlying3 D;obtain rfl:c0=.int .i64 k:=by simpa using N
   obtain⟨A,Z,-,O,R,g,j⟩:=DataW.trod_struct underlying24 E
   match A,g with
   | [z0,z1,z2],_ =>
    have I:=j 0 _ rfl;have J:=j 1 _ rfl;have K:=j 2 _ rfl;simp[B,M,r]at I J K;obtain⟨b,T,-⟩:=DataW.trod_bool underlying4 I;obtain⟨s,U,-,-⟩:=DataW.trod_int underlying3 J;obtain⟨m,W,-,X⟩:=DataW.trod_int underlying22 K;obtain rfl:c1=.bool b:=by simpa using T
    obtain rfl:c2=.int .i64 s:=by simpa using U
    obtain rfl:c3=.int .u32 m:=by simpa using W
    obtain⟨t,S⟩:=pL F (fun k hk=>hw k (by simp[DataW.weights,underlying27,DataW.weightsEach,hk]));have:=bounds_u32 X;exact⟨⟨k,⟨b,s,m⟩,t⟩,c4,rfl,S,by dsimp only;omega,by dsimp only;omega⟩
end
end
section
open Go.RowKit Go.Shelf
namespace Rf
def longM:List (List Int)->Bool
 | []=>false
 | r::t=>decide (50<r.length) || longM t
def longO (o:Rn.Out):Bool:=longM o.mem || decide (20<o.mem.length)
theorem longM_step {t:List (List Int)}{k:Nat}{r:List Int}(h:t[k]?=some r):longM (t.drop k)=(decide (50<r.length) || longM (t.drop (k+1))):=by obtain⟨d,g⟩:=su.1 h;rw[sJ d,g,longM]
end Rf
theorem jn {w:World}{o:Rn.Out}{vm:Value}(hm:TabAt w.heap.size w vm o.mem):Calls prog 10 #[en o vm] w (RG (.bool (Rf.longO o)) w):=by
 obtain⟨W,z⟩:=xJ (fR w o vm);have y:Gr w W:=by rw[<-z];exact(tE w).alloc _
 have J:Hid (∀wr,Gr W wr->wr.cell? ⟨w.heap.size,4,none⟩=some vm):=fun wr g=>(du (w:=w) (o:=o) (vm:=vm) (w':=wr) (by rw[z];exact g)).2.2.2.2;have H:=dJ (hm.gr y);have u:=dJ y;have L:o.mem.length<=17592186044416:=by obtain⟨_,_,e,_,p,_⟩:=hm;exact p
 have E:Hid (Rf.longO o=(Rf.longM o.mem || decide (20<o.mem.length))):=by show _=_;rfl
 obtain⟨A,c,rfl,-⟩:=id hm;have I:=dJ (gG H.out);have G:(o.mem.length:Int)<=17592186044416:=by omega
 obtain⟨R,l⟩:=xJ (Rf.longO o);rw[l]at E ⊢;clear hm y l;unfold fR at z;unfold en
 go_enter func10, ntmps10
 go_wp2
 go_loopw [3] (fun D wr=>∃k:Nat,k<=o.mem.length/\D=.int .i64 (k:Int)/\Hid (R=(Rf.longM (o.mem.drop k) || decide (20<o.mem.length)))/\Hid (Gr W wr)) (fun D _=>o.mem.length-(intOf D).toNat)
 case atStart=>exact⟨0,tv _,rfl,E.out,tE _⟩
 case round =>
  obtain⟨k,Q,rfl,l,j⟩:=hrel;have S:=J.out wr j.out;by_cases B:k<o.mem.length
  ·obtain⟨r,C⟩:∃r,o.mem[k]?=some r:=⟨_,sq B⟩;obtain⟨b,off,N,O,rfl,M,m,-⟩:=I.out k r C;have T:=m wr j.out;have F:Hid (R=((decide (50<r.length) || Rf.longM (o.mem.drop (k+1))) || decide (20<o.mem.length))):=by show _=_;rw[l.out,Rf.longM_step C]
   have K:(k:Int)<(o.mem.length:Int):=by omega
   clear C m;by_cases t:50<r.length
   ·have q:(50:Int)<(r.length:Int):=by omega
    have d:Hid (R=true):=by show _=_;rw[F.out,decide_eq_true t];rfl
    clear t;go_wp2;go_ret;exact⟨cZ d.out.symm,u.out.trans j.out⟩
   ·have q:¬(50:Int)<(r.length:Int):=by omega
    have d:Hid (R=(Rf.longM (o.mem.drop (k+1)) || decide (20<o.mem.length))):=by show _=_;rw[F.out,decide_eq_false t];rfl
    clear t;go_wp2;exact⟨⟨k+1,by omega,by go_num,d.out,j⟩,by simp[intOf];omega⟩
  ·obtain rfl:k=o.mem.length:=by omega
   have d:Hid (R=decide (20<o.mem.length)):=by show _=_;rw[l.out,List.drop_length];rfl
   by_cases p:20<o.mem.length
   ·have q:(20:Int)<(o.mem.length:Int):=by omega
    go_wp2;go_ret;exact⟨cZ (by rw[d.out,decide_eq_true p];try simp[q]),u.out.trans j.out⟩
   ·have q:¬(20:Int)<(o.mem.length:Int):=by omega
    go_wp2;go_ret;exact⟨cZ (by rw[d.out,decide_eq_false p];try simp[q]),u.out.trans j.out⟩
theorem lawRefinePermits_any {w:World}{s t:Rn.Out}{vs vt:Value}(hs:TabAt w.heap.size w vs s.mem)(ht:TabAt w.heap.size w vt t.mem) :
  Calls prog 3 #[en s vs,en t vt] w (RG (.bool true) w):=by
 have l:Hid (∀H,Calls prog 11 #[] H (RG (.bool true) H)):=lQ;obtain⟨K,G⟩:=xJ (fR w s vs);obtain⟨W,hW⟩:=xJ (fR K t vt);have y:Gr w K:=by rw[<-G];exact(tE w).alloc _
 have z:Gr K W:=by rw[<-hW];exact(tE K).alloc _
 have A:=y.trans z;have XA:=fun(u:World)(q:Gr W u)=>du (w:=w) (o:=s) (vm:=vs) (w':=u) (by rw[G];exact z.trans q);have XB:=fun(u:World)(q:Gr W u)=>du (w:=K) (o:=t) (vm:=vt) (w':=u) (by rw[hW];exact q);have m:=dJ XA;have j:=dJ XB;have B:Hid (∀u,Gr W u->Calls prog 10 #[en s vs] u (RG (.bool (Rf.longO s)) u)):=fun u q=>jn (hs.gr (A.trans q));have C:Hid (∀u,Gr W u->Calls prog 10 #[en t vt] u (RG (.bool (Rf.longO t)) u)):=fun u q=>jn (ht.gr (A.trans q));have CP:Hid (∀u,Gr W u->Calls prog 12 #[en s vs,en t vt] u (RG (.bool (Rf.permits s t)) u)):=fun u q=>fd (hs.gr (A.trans q)) (ht.gr (A.trans q));have CR:Hid (∀u,Gr W u->Calls prog 13 #[en s vs,en t vt] u (RG (.bool (Rf.permits s t)) u)):=fun u q=>tL (hs.gr (A.trans q)) (ht.gr (A.trans q))
 have CS:Hid (0<=s.kind/\s.kind<=2->∀u,Gr W u->Calls prog 12 #[en s vs,en s vs] u (RG (.bool true) u)):=fun h u q=>by
  have:=fd (hs.gr (A.trans q)) (hs.gr (A.trans q))
  rwa [Rf.permits_refl h]at this
 have J:=dJ A;obtain⟨a0,a1,a2,a3,a4⟩:=XA W (tE W);obtain⟨b0,b1,b2,b3,b4⟩:=XB W (tE W);obtain⟨Aa,ca,rfl,l1,l2,-⟩:=id hs;obtain⟨Ab,cb,rfl,l3,l4,-⟩:=id ht;obtain⟨p,hp⟩:=xJ (Rf.permits s t);obtain⟨n1,L⟩:=xJ (Rf.longO s);obtain⟨n2,M⟩:=xJ (Rf.longO t);rw[hp]at CP CR;rw[L]at B;rw[M]at C;have s1:(p == p)=true:=by simp
 clear XA XB y z A hs ht hp L M;unfold fR at G hW;unfold en at *
 cases n1 with
 | true =>
  go_enter func3, ntmps3
  go_wp2_with (first|(go_at_call 10;refine(B.out _ (tE W)).mono ?_;rintro e H ⟨rfl,y⟩)|(go_at_call 11;refine(l.out _).mono ?_;rintro e g ⟨rfl,z⟩))
  go_ret;exact⟨rfl,J.out.trans (y.trans z)⟩
 | false =>
  cases n2 with
  | true =>
   go_enter func3, ntmps3
   go_wp2_with (first|(go_at_call 10;(with_reducible refine(B.out _ (tE W)).mono ?_);rintro e H ⟨rfl,y⟩;have F:=dJ y;clear y;obtain⟨y0,y1,y2,y3,y4⟩:=j.out H F.out)|(go_at_call 10;(with_reducible refine(C.out _ F.out).mono ?_);rintro e g ⟨rfl,z⟩)|(go_at_call 11;refine(l.out _).mono ?_;rintro e w3 ⟨rfl,g3⟩))
   go_ret;exact⟨rfl,J.out.trans (F.out.trans (z.trans g3))⟩
  | false =>
   go_enter func3, ntmps3
   go_wp2_with (first|(go_at_call 10;(with_reducible refine(B.out _ (tE W)).mono ?_);rintro e H ⟨rfl,y⟩;have F:=dJ y;clear y;obtain⟨y0,y1,y2,y3,y4⟩:=j.out H F.out)|(go_at_call 10;(with_reducible refine(C.out _ F.out).mono ?_);rintro e g ⟨rfl,z⟩;have d:Hid (Gr W g):=F.out.trans z;clear z))
   have O:=fun u:GrW g=>(m.out u.val (d.out.trans u.gr)).1;have Q:=fun u:GrW g=>(m.out u.val (d.out.trans u.gr)).2.1;have R:=fun u:GrW g=>(m.out u.val (d.out.trans u.gr)).2.2.1;have S:=fun u:GrW g=>(m.out u.val (d.out.trans u.gr)).2.2.2.1;have T:=fun u:GrW g=>(m.out u.val (d.out.trans u.gr)).2.2.2.2;have B0:=fun u:GrW g=>(j.out u.val (d.out.trans u.gr)).1;have U:=fun u:GrW g=>(j.out u.val (d.out.trans u.gr)).2.1;have X:=fun u:GrW g=>(j.out u.val (d.out.trans u.gr)).2.2.1;have Y:=fun u:GrW g=>(j.out u.val (d.out.trans u.gr)).2.2.2.1;have Z:=fun u:GrW g=>(j.out u.val (d.out.trans u.gr)).2.2.2.2;have D:=dJ fun u:GrW g=>CP.out u.val (d.out.trans u.gr);have E:=dJ fun u:GrW g=>CR.out u.val (d.out.trans u.gr);clear a0 a1 a2 a3 a4 b0 b1 b2 b3 b4 y0 y1 y2 y3 y4;by_cases k1:s.kind<0
   ·clear CS;refine dg (by kernel_rfl) (by kernel_rfl) ?_
    repeat (go_big_quiet_step (first|(rename_i u;go_at_call 12;exact dk u (D.out u))|(rename_i u;go_at_call 13;exact dk u (E.out u))|(rename_i u;go_at_call 11;exact dk u (l.out u.val))))
    refine wpQuiet_nil ?_;intro w9 r;obtain⟨N,rfl⟩:=r;have I:=dJ (J.out.trans (d.out.trans N.gr));clear O Q R S T B0 U X Y Z;go_wp2;go_ret;exact⟨rfl,I.out⟩
   ·by_cases k2:2<s.kind
    ·clear CS;refine dg (by kernel_rfl) (by kernel_rfl) ?_
     repeat (go_big_quiet_step (first|(rename_i u;go_at_call 12;exact dk u (D.out u))|(rename_i u;go_at_call 13;exact dk u (E.out u))|(rename_i u;go_at_call 11;exact dk u (l.out u.val))))
     refine wpQuiet_nil ?_;intro w9 r;obtain⟨N,rfl⟩:=r;have I:=dJ (J.out.trans (d.out.trans N.gr));clear O Q R S T B0 U X Y Z;go_wp2;go_ret;exact⟨rfl,I.out⟩
    ·have aa:=dJ fun u:GrW g=>CS.out ⟨by omega,by omega⟩ u.val (d.out.trans u.gr);clear CS;refine dg (by kernel_rfl) (by kernel_rfl) ?_
     repeat (go_big_quiet_step (first|(rename_i u;go_at_call 12;with_reducible exact dk u (D.out u))|(rename_i u;go_at_call 12;with_reducible exact dk u (aa.out u))|(rename_i u;go_at_call 13;exact dk u (E.out u))|(rename_i u;go_at_call 11;exact dk u (l.out u.val))))
     refine wpQuiet_nil ?_;intro w9 r;obtain⟨N,rfl⟩:=r;have I:=dJ (J.out.trans (d.out.trans N.gr));clear O Q R S T B0 U X Y Z;go_wp2;go_ret;exact⟨rfl,I.out⟩
end
