import Derived.Test.YtjkajidbdmbbaaaGreatN26
set_option linter.unusedSimpArgs false
set_option linter.unusedVariables false
set_option maxRecDepth 100000
set_option maxHeartbeats 16000000
open Go.Proofs.Tryz
namespace Go.Proofs.YtjkajidbdmbbaaaGreat
open Ref Rn Wd Ir Rf
variable {p:Addr}{ops:Array Oper}{cur:Array Value}{Q:Exit->Act->World->Prop}{a b fl frm n o z:Int}{l:List Ins}{bs ws:List Int}{rest:List Oper}{xs:List Value}{B Bg bytes i j k m r u:Nat}{O' S:Nat->Prop}{P:Program}{e e' t:TypeId}{v vp vw x y:Value}{w w':World}
section
open Go.RowKit Go.Maps
open Ops
theorem ig (W G:Nat)(n a b:Int)(ho:1<=o/\o<=3)(hn:zi n)(ha:yX n a)(hb:yX n b)(hv:∀B,opV o B=.agg #[boxV 246 B,fnV W,.nilFunc])(hg:boxOf o=G)(w1:World) :
  Calls prog 207 #[.int .i64 o,.int .i64 n,.int .u32 a,.int .u32 b] w1 fun e w'=>∃B,e=.returned (.tuple #[.agg #[boxV 246 B,fnV W,.nilFunc],.bool true])/\(B<w'.heap.size/\w'.cell? ⟨B,0,none⟩=some (fnV G))/\Gr w1 w':=by
 refine(asked_any o n a b w1 (by omega) hn ha hb).mono ?_;rintro e w' ⟨v,rfl,⟨B,rfl,d⟩,g⟩;refine⟨B,by rw[hv],?_,g⟩;have:=d (.inl ho.2)
 rwa [hg]at this
theorem gl (G:Nat)(n a b:Int)(ho:8<=o/\o<=10)(hn:zi n)(ha:yX n a)(hb:yX n b)(hv:∀B,opV o B=.agg #[boxV 247 B,.nilFunc,.nilFunc])(hg:boxOf o=G)(w1:World) :
  Calls prog 207 #[.int .i64 o,.int .i64 n,.int .u32 a,.int .u32 b] w1 fun e w'=>∃B,e=.returned (.tuple #[.agg #[boxV 247 B,.nilFunc,.nilFunc],.bool true])/\(B<w'.heap.size/\w'.cell? ⟨B,0,none⟩=some (fnV G))/\Gr w1 w':=by
 refine(asked_any o n a b w1 (by omega) hn ha hb).mono ?_;rintro e w' ⟨v,rfl,⟨B,rfl,d⟩,g⟩;refine⟨B,by rw[hv],?_,g⟩;have:=d (by unfold boxed;omega)
 rwa [hg]at this
theorem fN (v:Value)(n a b:Int)(ho:1<=o/\o<=13)(hn:zi n)(ha:yX n a)(hb:yX n b)(hv:∀B,opV o B=v)(w1:World) :
  Calls prog 207 #[.int .i64 o,.int .i64 n,.int .u32 a,.int .u32 b] w1 (RG (.tuple #[v,.bool true]) w1):=by
 refine(asked_any o n a b w1 ho hn ha hb).mono ?_;rintro e w' ⟨_,rfl,⟨B,rfl,-⟩,g⟩;exact⟨by rw[hv],g⟩
theorem iz {e:Ending}(h:DoPost o n a b w e w'):(∃y,e=.returned (.tuple #[.int .u32 y,.bool (Wd.op o n a b).isSome]))/\Gr w w':=⟨h.1.imp fun z h=>h.1,h.2⟩
theorem oj (ho:o=12\/o=13)(hn:zi n)(h:(Wd.op o n a b).isSome=true):b<32:=by have:=hn.2;rcases ho with rfl|rfl<;>(simp[Wd.op]at h;omega)
theorem mr (o fl n a b:Int)(w:World)(ho:1<=o/\o<=13)(hf:0<=fl/\fl<=7)(hn:zi n)(ha:yX n a)(hb:yX n b):Calls prog 191 #[.int .i64 o,.int .i64 fl,.int .i64 n,.int .u32 a,.int .u32 b] w (RG (.tuple #[.bool (BZ o fl n a b),.int .i64 0]) w):=by
 have l:=words hn ha;have m:=words hn hb;have p:=sg_bd hn ha;have r:=sg_bd hn hb;have g:∀o,Wd.op o n a b=some (((Wd.op o n a b)).getD 0)->BZ o fl n a b=Gw o fl n a b:=fun o h=>by unfold BZ;rw[h];rfl
 rcases (by omega:o=1\/o=2\/o=3\/o=4\/o=5\/o=6\/o=7\/o=8\/o=9\/o=10\/o=11\/o=12\/o=13) with rfl|rfl|rfl|rfl|rfl|rfl|rfl|rfl|rfl|rfl|rfl|rfl|rfl
 ·exact brkW 1 220 221 (enters_of func220 (by kernel_rfl) rfl) fl n a b _ _ w hf hn ha hb (by decide) (dJ fun d=>ig _ _ n a b (by decide) hn ha hb (fun B=>rfl) rfl d)
   (dJ fun B d j=>(dofn1 n a b B d hn ha hb j).mono fun e w' h=>iz h) (dJ fun d=>rE a b d ⟨by omega,by omega⟩ ⟨by omega,by omega⟩) (dJ fun d=>rE _ _ d ⟨by omega,by omega⟩ ⟨by omega,by omega⟩) (dJ ((g 1 rfl).trans (brk1_eq fl hn ha hb)))
 ·exact brkW 2 222 223 (enters_of func222 (by kernel_rfl) rfl) fl n a b _ _ w hf hn ha hb (by decide) (dJ fun d=>ig _ _ n a b (by decide) hn ha hb (fun B=>rfl) rfl d)
   (dJ fun B d j=>(dofn2 n a b B d hn ha hb j).mono fun e w' h=>iz h) (dJ fun d=>rF a b d ⟨by omega,by omega⟩ ⟨by omega,by omega⟩) (dJ fun d=>rF _ _ d ⟨by omega,by omega⟩ ⟨by omega,by omega⟩) (dJ ((g 2 rfl).trans (brk2_eq fl hn ha hb)))
 ·exact brkW 3 224 226 (enters_of func224 (by kernel_rfl) rfl) fl n a b _ _ w hf hn ha hb (by decide) (dJ fun d=>ig _ _ n a b (by decide) hn ha hb (fun B=>rfl) rfl d)
   (dJ fun B d j=>(dofn3 n a b B d hn ha hb j).mono fun e w' h=>iz h) (dJ fun d=>rG a b d ⟨by omega,by omega⟩ ⟨by omega,by omega⟩) (dJ fun d=>rG _ _ d ⟨by omega,by omega⟩ ⟨by omega,by omega⟩) (dJ ((g 3 rfl).trans (brk3_eq fl hn ha hb)))
 ·exact brkF 4 227 228 (enters_of func227 (by kernel_rfl) rfl) (enters_of func228 (by kernel_rfl) rfl) true (Wd.op 4 n a b).isSome (decide (a%b≠0)) fl n a b w hf (dJ fun d=>fN _ n a b ho hn ha hb (fun B=>rfl) d)
   (dJ fun d=>(dofn4 n a b 0 d hn ha hb).mono fun e w' h=>iz h) (dJ fun _ hs d=>(vP n a b d l ⟨by simp[Wd.op]at hs;have:=hb.1;omega,m.2⟩).mono fun _ _ h=>⟨h.1,h.2 ▸ yO _⟩) (dJ rfl)
 ·exact brkF 5 229 229 (enters_of func229 (by kernel_rfl) rfl) (enters_of func229 (by kernel_rfl) rfl) false (Wd.op 5 n a b).isSome false fl n a b w hf (dJ fun d=>fN _ n a b ho hn ha hb (fun B=>rfl) d)
   (dJ fun d=>(dofn5 n a b 0 d hn ha hb).mono fun e w' h=>iz h) (dJ fun q=>by cases q) (dJ rfl)
 ·exact brkF 6 230 232 (enters_of func230 (by kernel_rfl) rfl) (enters_of func232 (by kernel_rfl) rfl) true (Wd.op 6 n a b).isSome (decide ((zU n a).tmod (zU n b)≠0)) fl n a b w hf (dJ fun d=>fN _ n a b ho hn ha hb (fun B=>rfl) d)
   (dJ fun d=>(dofn6 n a b 0 d hn ha hb).mono fun e w' h=>iz h) (dJ fun _ hs d=>tR n a b d hn ha hb (fun q=>by rw[show Wd.op 6 n a b=if b=0\/(zU n a=-m9 (n-1)/\zU n b=-1) then none else some ((zU n a).tdiv (zU n b)%m9 n) from rfl,yr (show b=0\/_ from q)]at hs;cases hs)) (dJ rfl)
 ·exact brkF 7 233 233 (enters_of func233 (by kernel_rfl) rfl) (enters_of func233 (by kernel_rfl) rfl) false (Wd.op 7 n a b).isSome false fl n a b w hf (dJ fun d=>fN _ n a b ho hn ha hb (fun B=>rfl) d)
   (dJ fun d=>(dofn7 n a b 0 d hn ha hb).mono fun e w' h=>iz h) (dJ fun q=>by cases q) (dJ rfl)
 ·exact brkP 8 235 fl n a b w hf (dJ fun d=>gl _ n a b (by decide) hn ha hb (fun B=>rfl) rfl d) (dJ fun B d j=>(dofn8 n a b B d hn ha hb j).mono fun e w' h=>iz h) (dJ (g 8 rfl))
 ·exact brkP 9 236 fl n a b w hf (dJ fun d=>gl _ n a b (by decide) hn ha hb (fun B=>rfl) rfl d) (dJ fun B d j=>(dofn9 n a b B d hn ha hb j).mono fun e w' h=>iz h) (dJ (g 9 rfl))
 ·exact brkP 10 237 fl n a b w hf (dJ fun d=>gl _ n a b (by decide) hn ha hb (fun B=>rfl) rfl d) (dJ fun B d j=>(dofn10 n a b B d hn ha hb j).mono fun e w' h=>iz h) (dJ (g 10 rfl))
 ·exact brk11 fl n a b w hf hn ha hb
 ·exact brkF 12 240 241 (enters_of func240 (by kernel_rfl) rfl) (enters_of func241 (by kernel_rfl) rfl) true (Wd.op 12 n a b).isSome (decide (a%2 ^ b.toNat≠0)) fl n a b w hf (dJ fun d=>fN _ n a b ho hn ha hb (fun B=>rfl) d)
   (dJ fun d=>(dofn12 n a b 0 d hn ha hb).mono fun e w' h=>iz h) (dJ fun _ hs d=>(tY n a b d l ⟨hb.1,oj (.inl rfl) hn hs⟩).mono fun _ _ h=>⟨h.1,h.2 ▸ yO _⟩) (dJ rfl)
 ·exact brkF 13 242 244 (enters_of func242 (by kernel_rfl) rfl) (enters_of func244 (by kernel_rfl) rfl) true (Wd.op 13 n a b).isSome (decide (a%2 ^ b.toNat≠0)) fl n a b w hf (dJ fun d=>fN _ n a b ho hn ha hb (fun B=>rfl) d)
   (dJ fun d=>(dofn13 n a b 0 d hn ha hb).mono fun e w' h=>iz h) (dJ fun _ hs d=>(ua n a b d l ⟨hb.1,oj (.inr rfl) hn hs⟩).mono fun _ _ h=>⟨h.1,h.2 ▸ yO _⟩) (dJ rfl)
end
section
open Go.RowKit
abbrev AF (k:Nat)(x:Ins)(ap bp:Bool)(an bn:Int)(w:World):Prop :=
 w.cell? ⟨k,0,none⟩=some (.int .i64 x.op)/\w.cell? ⟨k,1,none⟩=some (.int .i64 x.w)/\w.cell? ⟨k,2,none⟩=some (.int .i64 x.g)/\w.cell? ⟨k+1,0,none⟩=some (.bool ap)/\w.cell? ⟨k+1,2,none⟩=some (.int .u32 an)/\w.cell? ⟨k+2,0,none⟩=some (.bool bp)/\w.cell? ⟨k+2,2,none⟩=some (.int .u32 bn)
theorem AF.gr {x:Ins}{ap bp:Bool}{an bn:Int}(h:AF k x ap bp an bn w)(hk:k+2<w.heap.size)(g:Gr w w'):AF k x ap bp an bn w':=by obtain⟨d,j,l,m,p,q,r⟩:=h;exact⟨(g.cell _ _ (by omega)).trans d,(g.cell _ _ (by omega)).trans j,(g.cell _ _ (by omega)).trans l,(g.cell _ _ (by omega)).trans m,(g.cell _ _ (by omega)).trans p,(g.cell _ _ (by omega)).trans q,(g.cell _ _ (by omega)).trans r⟩
theorem kj (w:World)(c d e:Obj):(((w.alloc c).alloc d).alloc e).heap.size=w.heap.size+3:=by show (((w.heap.push c).push d).push e).size=_;simp
theorem AF.boxes (w:World)(x:Ins)(va vt:Value)(a b:Rn.V)(t u:TypeId):AF w.heap.size x a.p b.p a.n b.n (((w.alloc (.cells #[.int .i64 x.op,.int .i64 x.w,.int .i64 x.g,va,.int .u32 x.i,vt] t)).alloc (.cells #[.bool a.p,.int .i64 a.s,.int .u32 a.n] u)).alloc (.cells #[.bool b.p,.int .i64 b.s,.int .u32 b.n] u)):=by have d:=((yO (w.alloc (.cells #[.int .i64 x.op,.int .i64 x.w,.int .i64 x.g,va,.int .u32 x.i,vt] t))).alloc (.cells #[.bool a.p,.int .i64 a.s,.int .u32 a.n] u)).alloc (.cells #[.bool b.p,.int .i64 b.s,.int .u32 b.n] u);have g:=(yO ((w.alloc (.cells #[.int .i64 x.op,.int .i64 x.w,.int .i64 x.g,va,.int .u32 x.i,vt] t)).alloc (.cells #[.bool a.p,.int .i64 a.s,.int .u32 a.n] u))).alloc (.cells #[.bool b.p,.int .i64 b.s,.int .u32 b.n] u);exact⟨df _ _ 0 d rfl,df _ _ 1 d rfl,df _ _ 2 d rfl,df _ _ 0 g (by simp),df _ _ 2 g (by simp),df _ _ 0 (yO _) (by simp),df _ _ 2 (yO _) (by simp)⟩
theorem uk (hn:zi n):zU n (m9 (n-1))=-m9 (n-1):=by unfold zU;rw[yr (Int.le_refl _),Ft hn];omega
theorem pm (hn:zi n):yX n (m9 (n-1)):=⟨Int.le_of_lt (BC _),by rw[Ft hn];have:=BC (n-1);omega⟩
theorem lS (ho:4<=o/\o<=7):Wd.op o n a b=none↔(b=0\/(o=6\/o=7)/\zU n b=-1/\zU n a=-m9 (n-1)):=by
 rcases (by omega:o=4\/o=5\/o=6\/o=7) with rfl|rfl|rfl|rfl
 ·show (if b=0 then none else some (a / b))=none↔_;split<;>simp_all
 ·show (if b=0 then none else some (a%b))=none↔_;split<;>simp_all
 ·show (if b=0\/(zU n a=-m9 (n-1)/\zU n b=-1) then none else some ((zU n a).tdiv (zU n b)%m9 n))=none↔_;split;next h=>simp only[true_iff];rcases h with h|h;exact .inl h;exact .inr ⟨by simp,h.2,h.1⟩
  next h=>simp only[reduceCtorEq,false_iff];intro q;apply h;rcases q with q|q;exact .inl q;exact .inr ⟨q.2.2,q.2.1⟩
 ·show (if b=0\/(zU n a=-m9 (n-1)/\zU n b=-1) then none else some ((zU n a).tmod (zU n b)%m9 n))=none↔_;split;next h=>simp only[true_iff];rcases h with h|h;exact .inl h;exact .inr ⟨by simp,h.2,h.1⟩
  next h=>simp only[reduceCtorEq,false_iff];intro q;apply h;rcases q with q|q;exact .inl q;exact .inr ⟨q.2.2,q.2.1⟩
def eR (o fl n:Int)(a b:Rn.V):Value:=match DR o fl n a b with|none=>pW|some v=>vI v
theorem gU {a b:Rn.V}(ho:4<=o/\o<=7)(h:b.p=true\/b.n=0):eR o fl n a b=pW:=by unfold eR DR;rw[yr ⟨ho,.inl h⟩]
theorem oG {a b:Rn.V}(ho:4<=o/\o<=7)(hn:zi n)(ha:a.p=true)(h:Wd.op o n (m9 (n-1)) b.n=none):eR o fl n a b=pW:=by
 rcases (lS ho).1 h with h|h
 ·exact gU ho (.inr h)
 ·unfold eR DR;rw[yr ⟨ho,.inr ⟨h.1,h.2.1,.inl ha⟩⟩]
theorem oH {a b:Rn.V}(ho:4<=o/\o<=7)(h:Wd.op o n a.n b.n=none):eR o fl n a b=pW:=by
 rcases (lS ho).1 h with h|h
 ·exact gU ho (.inr h)
 ·unfold eR DR;rw[yr ⟨ho,.inr ⟨h.1,h.2.1,.inr h.2.2⟩⟩]
theorem oI {a b:Rn.V}(h0:¬((4<=o/\o<=7)/\((b.p=true\/b.n=0)\/(o=6\/o=7)/\zU n b.n=-1/\(a.p=true\/zU n a.n=-m9 (n-1)))))(h:a.p=true\/b.p=true):eR o fl n a b=vI zX:=by unfold eR DR;rw[yt h0,yr h]
theorem qx {a b:Rn.V}(h0:(4<=o/\o<=7)->Wd.op o n a.n b.n≠none)(ha:a.p=false)(hb:b.p=false) :
  eR o fl n a b=match Wd.op o n a.n b.n with|none=>vI zX|some z=>if BZ o fl n a.n b.n=true then vI zX else vI (Ae z):=by
 have l:¬((4<=o/\o<=7)/\((b.p=true\/b.n=0)\/(o=6\/o=7)/\zU n b.n=-1/\(a.p=true\/zU n a.n=-m9 (n-1)))):=by
  rintro⟨j,q⟩;apply h0 j;refine(lS j).2 ?_;rcases q with (q|q)|⟨m,r,g|g⟩
  ·rw[hb]at q;cases q
  ·exact .inl q
  ·rw[ha]at g;cases g
  ·exact .inr ⟨m,r,g⟩
 unfold eR DR;rw[yt l,yt (by simp[ha,hb])]
 cases hz:Wd.op o n a.n b.n with
 | none=>rfl
 | some z =>
  have:BZ o fl n a.n b.n=Gw o fl n a.n b.n:=by unfold BZ;rw[hz];rfl
  rw[this];dsimp only;by_cases d:Gw o fl n a.n b.n=true
  ·rw[yr d,yr d]
  ·rw[yt d,yt d]
theorem pz (x:Ins)(va vt:Value)(a b:Rn.V)(w:World)(ho:1<=x.op/\x.op<=13)(hn:zi x.w)(hf:0<=x.g/\x.g<=7)(ha:yX x.w a.n)(hb:yX x.w b.n) :
  Calls prog 172 #[dj x va vt,vv a,vv b] w (RG (eR x.op x.g x.w a b) w):=by
 have G:=dJ fun d=>Ops.bDo_any x.op x.w a.n b.n d ho hn ha hb;have CL:=dJ fun d=>Ops.bDo_any x.op x.w (m9 (x.w-1)) b.n d ho hn (pm hn) hb;have M:=dJ fun d=>mr x.op x.g x.w a.n b.n d ho hf hn ha hb;have CM:=dJ fun d=>ry x.w d hn;have CI:=dJ fun d=>ro x.op d;have j:=dJ (AF.boxes w x va vt a b 68 24);have D1:=dJ fun(h:4<=x.op/\x.op<=7)(q:b.p=true\/b.n=0)=>gU (fl:=x.g) (n:=x.w) (a:=a) h q;have D2:=dJ fun(h:4<=x.op/\x.op<=7)(q:a.p=true) r=>oG (fl:=x.g) (b:=b) h hn q r;have D3:=dJ fun(h:4<=x.op/\x.op<=7) r=>oH (fl:=x.g) (n:=x.w) (a:=a) (b:=b) h r;have D4:=dJ fun q r=>oI (o:=x.op) (fl:=x.g) (n:=x.w) (a:=a) (b:=b) q r;have S:=dJ fun q r s=>qx (o:=x.op) (fl:=x.g) (n:=x.w) (a:=a) (b:=b) q r s;have OD:=dJ fun(h:4<=x.op/\x.op<=7) c=>lS (n:=x.w) (a:=c) (b:=b.n) h;obtain⟨z,hz⟩:=xJ (Wd.op x.op x.w a.n b.n);obtain⟨zl,L⟩:=xJ (Wd.op x.op x.w (m9 (x.w-1)) b.n);obtain⟨Y,ab⟩:=xJ (BZ x.op x.g x.w a.n b.n);have X:=dJ (uk hn);obtain⟨sl,O⟩:=xJ (m9 (x.w-1));rw[hz]at G D3 S;rw[L]at CL D2;rw[ab]at M S;rw[O]at CL CM;obtain⟨R,hR⟩:=xJ (eR x.op x.g x.w a b);rw[hR]at D1 D2 D3 D4 S ⊢;rw[O]at L OD X;have HZ:=dJ hz;have ac:=dJ L;clear ho hn hf ha hb hz L ab O hR;obtain⟨W,hW⟩:=xJ (((w.alloc (.cells #[.int .i64 x.op,.int .i64 x.w,.int .i64 x.g,va,.int .u32 x.i,vt] 68)).alloc (.cells #[.bool a.p,.int .i64 a.s,.int .u32 a.n] 24)).alloc (.cells #[.bool b.p,.int .i64 b.s,.int .u32 b.n] 24));have aa:W.heap.size=w.heap.size+3:=by rw[<-hW];exact kj _ _ _ _
 have Z:Gr w W:=by rw[<-hW];exact(((yO w).alloc _).alloc _).alloc _
 rw[hW]at j;have D:=dJ Z;have A:=dJ aa;obtain⟨ap,ae,an⟩:=a;obtain⟨bp,af,bn⟩:=b;dsimp only at *;obtain⟨k0,k1,k2,k3,k4,k5,k6⟩:=j.out;have f4:W.frozen? ⟨w.heap.size+1,2,none⟩=false:=by rw[<-hW];exact(World.frozen?_alloc_past _ _ _ (by simp)).trans (World.frozen?_alloc_at _ _ _ _ (by simp))
 clear Z aa;unfold dj vv;by_cases hd:4<=x.op/\x.op<=7
 ·have B:Hid (∀d,Calls prog 188 #[.int .i64 x.op] d (RS (.bool true) d)):=fun d=>by
   have:=CI.out d
   rwa [show (decide (4<=x.op) && decide (x.op<=7))=true by simp[hd]]at this
  have J:=dJ hd;clear CI hd;cases bp
  case true =>
   have l:Hid (pW=R):=(D1.out J.out (.inl rfl)).symm
   go_enter func172, ntmps172
   go_wp2_with (first|(go_at_call 188;refine(B.out _).mono ?_;rintro e d ⟨rfl,rfl⟩)|(go_at_call 167;refine(dD _).mono ?_;rintro e d ⟨rfl,rfl⟩)|(go_at_call 171;refine(du _).mono ?_;rintro e F ⟨rfl,u⟩))
   go_ret;exact⟨by rw[<-l.out];rfl,D.out⟩
  case false =>
  by_cases K:bn=0
  ·subst K;have l:Hid (pW=R):=(D1.out J.out (.inr rfl)).symm
   go_enter func172, ntmps172
   go_wp2_with (first|(go_at_call 188;refine(B.out _).mono ?_;rintro e d ⟨rfl,rfl⟩)|(go_at_call 167;refine(dD _).mono ?_;rintro e d ⟨rfl,rfl⟩)|(go_at_call 171;refine(du _).mono ?_;rintro e F ⟨rfl,u⟩))
   go_ret;exact⟨by rw[<-l.out];rfl,D.out⟩
  ·have c0:(bn == 0)=false:=by simpa using K
   have ad:=dJ K;clear K;cases ap
   case true =>
    have U:Hid ((W.setCell ⟨w.heap.size+1,2,none⟩ (.int .u32 sl)).cell? ⟨w.heap.size+1,0,none⟩=some (.bool true)):=(World.cell?_setCell_other (a:=⟨w.heap.size+1,2,none⟩) (b:=⟨w.heap.size+1,0,none⟩) _ _ (fun e=>by injection e with _ e2;cases e2)).trans k3;have T:=dJ (D.out.setCell (p:=⟨w.heap.size+1,2,none⟩) (by simp) (.int .u32 sl));obtain _|y:=zl
    ·have l:Hid (pW=R):=(D2.out J.out rfl rfl).symm
     go_enter func172, ntmps172
     go_wp2_with (first|(go_at_call 188;refine(B.out _).mono ?_;rintro e d ⟨rfl,rfl⟩)|(go_at_call 167;refine(dD _).mono ?_;rintro e d ⟨rfl,rfl⟩)|(go_at_call 171;refine(du _).mono ?_;rintro e F ⟨rfl,u⟩)|(go_at_call 189;refine(CM.out _).mono ?_;rintro e d ⟨rfl,rfl⟩)|(go_at_call 190;refine(CL.out _).mono ?_;rintro e I ⟨rfl,g⟩;have Q:=(g.cell (w.heap.size+1) 0 (by simp;have:=A.out;omega)).trans U.out))
     go_ret;exact⟨by rw[<-l.out];rfl,T.out.trans g⟩
    ·have l:Hid (vI zX=R):=by
      refine(D4.out ?_ (.inl rfl)).symm;rintro⟨q0,q⟩
      have:Wd.op x.op x.w sl bn=none:=(OD.out q0 sl).2 (by
        rcases q with (q|q)|⟨q1,q2,q3⟩
        · cases q
        · exact .inl q
        · exact .inr ⟨q1,q2,X.out⟩)
      rw[ac.out]at this;cases this
     go_enter func172, ntmps172
     go_wp2_with (first|(go_at_call 188;refine(B.out _).mono ?_;rintro e d ⟨rfl,rfl⟩)|(go_at_call 167;refine(dD _).mono ?_;rintro e d ⟨rfl,rfl⟩)|(go_at_call 171;refine(du _).mono ?_;rintro e F ⟨rfl,u⟩)|(go_at_call 189;refine(CM.out _).mono ?_;rintro e d ⟨rfl,rfl⟩)|(go_at_call 190;refine(CL.out _).mono ?_;rintro e I ⟨rfl,g⟩;have Q:=(g.cell (w.heap.size+1) 0 (by simp;have:=A.out;omega)).trans U.out))
     go_ret;exact⟨by rw[<-l.out];rfl,(T.out.trans g).trans u⟩
   case false =>
    have m:=True.intro;have t:=True.intro;obtain _|y:=z
    ·have l:Hid (pW=R):=(D3.out J.out rfl).symm
     go_enter func172, ntmps172
     go_wp2_with (first|(go_at_call 188;refine(B.out _).mono ?_;rintro e d ⟨rfl,rfl⟩)|(go_at_call 167;refine(dD _).mono ?_;rintro e d ⟨rfl,rfl⟩)|(go_at_call 171;refine(du _).mono ?_;rintro e F ⟨rfl,u⟩)|(go_at_call 190;have _t:=m;(with_reducible refine(G.out _).mono ?_);rintro e I ⟨rfl,g⟩;clear _t m;obtain⟨l0,l1,l2,Q,l4,l5,l6⟩:=AF.gr j.out (by have:=A.out;omega) g;have E:=dJ (show w.heap.size+2<I.heap.size by have:=A.out;have:=g.size;omega);have C:=dJ (AF.gr j.out (by have:=A.out;omega) g))|(go_at_call 190;have _t:=t;(with_reducible refine(G.out _).mono ?_);rintro e w6 ⟨rfl,N⟩;clear _t t;obtain⟨m0,m1,m2,m3,m4,m5,m6⟩:=AF.gr C.out E.out N)|(go_at_call 191;refine(M.out _).mono ?_;rintro e w7 ⟨rfl,H⟩))
     go_ret;exact⟨by rw[<-l.out];rfl,D.out.trans g⟩
    ·have l:Hid ((if Y=true then vI zX else vI (Ae y))=R):=(S.out (fun _=>by simp) rfl rfl).symm;cases Y
     case false =>
      go_enter func172, ntmps172
      go_wp2_with (first|(go_at_call 188;refine(B.out _).mono ?_;rintro e d ⟨rfl,rfl⟩)|(go_at_call 167;refine(dD _).mono ?_;rintro e d ⟨rfl,rfl⟩)|(go_at_call 171;refine(du _).mono ?_;rintro e F ⟨rfl,u⟩)|(go_at_call 190;have _t:=m;(with_reducible refine(G.out _).mono ?_);rintro e I ⟨rfl,g⟩;clear _t m;obtain⟨l0,l1,l2,Q,l4,l5,l6⟩:=AF.gr j.out (by have:=A.out;omega) g;have E:=dJ (show w.heap.size+2<I.heap.size by have:=A.out;have:=g.size;omega);have C:=dJ (AF.gr j.out (by have:=A.out;omega) g))|(go_at_call 190;have _t:=t;(with_reducible refine(G.out _).mono ?_);rintro e w6 ⟨rfl,N⟩;clear _t t;obtain⟨m0,m1,m2,m3,m4,m5,m6⟩:=AF.gr C.out E.out N)|(go_at_call 191;refine(M.out _).mono ?_;rintro e w7 ⟨rfl,H⟩))
      go_ret;exact⟨by rw[<-l.out];rfl,((D.out.trans g).trans N).trans H⟩
     case true =>
      go_enter func172, ntmps172
      go_wp2_with (first|(go_at_call 188;refine(B.out _).mono ?_;rintro e d ⟨rfl,rfl⟩)|(go_at_call 167;refine(dD _).mono ?_;rintro e d ⟨rfl,rfl⟩)|(go_at_call 171;refine(du _).mono ?_;rintro e F ⟨rfl,u⟩)|(go_at_call 190;have _t:=m;(with_reducible refine(G.out _).mono ?_);rintro e I ⟨rfl,g⟩;clear _t m;obtain⟨l0,l1,l2,Q,l4,l5,l6⟩:=AF.gr j.out (by have:=A.out;omega) g;have E:=dJ (show w.heap.size+2<I.heap.size by have:=A.out;have:=g.size;omega);have C:=dJ (AF.gr j.out (by have:=A.out;omega) g))|(go_at_call 190;have _t:=t;(with_reducible refine(G.out _).mono ?_);rintro e w6 ⟨rfl,N⟩;clear _t t;obtain⟨m0,m1,m2,m3,m4,m5,m6⟩:=AF.gr C.out E.out N)|(go_at_call 191;refine(M.out _).mono ?_;rintro e w7 ⟨rfl,H⟩))
      go_ret;exact⟨by rw[<-l.out];rfl,(((D.out.trans g).trans N).trans H).trans u⟩
 ·have B:Hid (∀d,Calls prog 188 #[.int .i64 x.op] d (RS (.bool false) d)):=fun d=>by
   have:=CI.out d
   rwa [show (decide (4<=x.op) && decide (x.op<=7))=false by simp;omega]at this
  have J:=dJ hd;clear CI hd;cases ap
  case true =>
   have l:Hid (vI zX=R):=(D4.out (fun q=>J.out q.1) (.inl rfl)).symm
   go_enter func172, ntmps172
   go_wp2_with (first|(go_at_call 188;refine(B.out _).mono ?_;rintro e d ⟨rfl,rfl⟩)|(go_at_call 167;refine(dD _).mono ?_;rintro e d ⟨rfl,rfl⟩)|(go_at_call 171;refine(du _).mono ?_;rintro e F ⟨rfl,u⟩))
   go_ret;exact⟨by rw[<-l.out];rfl,D.out.trans u⟩
  case false =>
  cases bp
  case true =>
   have l:Hid (vI zX=R):=(D4.out (fun q=>J.out q.1) (.inr rfl)).symm
   go_enter func172, ntmps172
   go_wp2_with (first|(go_at_call 188;refine(B.out _).mono ?_;rintro e d ⟨rfl,rfl⟩)|(go_at_call 167;refine(dD _).mono ?_;rintro e d ⟨rfl,rfl⟩)|(go_at_call 171;refine(du _).mono ?_;rintro e F ⟨rfl,u⟩))
   go_ret;exact⟨by rw[<-l.out];rfl,D.out.trans u⟩
  case false =>
   obtain _|y:=z
   ·have l:Hid (vI zX=R):=(S.out (fun q=>absurd q J.out) rfl rfl).symm;cases Y
    all_goals
     go_enter func172, ntmps172
     go_wp2_with (first|(go_at_call 188;refine(B.out _).mono ?_;rintro e d ⟨rfl,rfl⟩)|(go_at_call 167;refine(dD _).mono ?_;rintro e d ⟨rfl,rfl⟩)|(go_at_call 171;refine(du _).mono ?_;rintro e F ⟨rfl,u⟩)|(go_at_call 190;refine(G.out _).mono ?_;rintro e I ⟨rfl,g⟩;obtain⟨l0,l1,l2,Q,l4,l5,l6⟩:=AF.gr j.out (by have:=A.out;omega) g)|(go_at_call 191;refine(M.out _).mono ?_;rintro e w7 ⟨rfl,H⟩))
     go_ret;exact⟨by rw[<-l.out];rfl,((D.out.trans g).trans H).trans u⟩
   ·have l:Hid ((if Y=true then vI zX else vI (Ae y))=R):=(S.out (fun q=>absurd q J.out) rfl rfl).symm;cases Y
    case false =>
     go_enter func172, ntmps172
     go_wp2_with (first|(go_at_call 188;refine(B.out _).mono ?_;rintro e d ⟨rfl,rfl⟩)|(go_at_call 167;refine(dD _).mono ?_;rintro e d ⟨rfl,rfl⟩)|(go_at_call 171;refine(du _).mono ?_;rintro e F ⟨rfl,u⟩)|(go_at_call 190;refine(G.out _).mono ?_;rintro e I ⟨rfl,g⟩;obtain⟨l0,l1,l2,Q,l4,l5,l6⟩:=AF.gr j.out (by have:=A.out;omega) g)|(go_at_call 191;refine(M.out _).mono ?_;rintro e w7 ⟨rfl,H⟩))
     go_ret;exact⟨by rw[<-l.out];rfl,(D.out.trans g).trans H⟩
    case true =>
     go_enter func172, ntmps172
     go_wp2_with (first|(go_at_call 188;refine(B.out _).mono ?_;rintro e d ⟨rfl,rfl⟩)|(go_at_call 167;refine(dD _).mono ?_;rintro e d ⟨rfl,rfl⟩)|(go_at_call 171;refine(du _).mono ?_;rintro e F ⟨rfl,u⟩)|(go_at_call 190;refine(G.out _).mono ?_;rintro e I ⟨rfl,g⟩;obtain⟨l0,l1,l2,Q,l4,l5,l6⟩:=AF.gr j.out (by have:=A.out;omega) g)|(go_at_call 191;refine(M.out _).mono ?_;rintro e w7 ⟨rfl,H⟩))
     go_ret;exact⟨by rw[<-l.out];rfl,((D.out.trans g).trans H).trans u⟩
def dB:List Rn.V->List Value
 | []=>[]
 | v::r=>.bool v.p::.int .i64 v.s::.int .u32 v.n::dB r
theorem lw:∀l:List Rn.V,(dB l).length=3*l.length
 | []=>rfl
 | v::r=>by simp[dB,lw r];omega
theorem dX:∀(l:List Rn.V)(k:Nat)(v:Rn.V),l[k]?=some v->(dB l)[3*k]?=some (.bool v.p)/\(dB l)[3*k+1]?=some (.int .i64 v.s)/\(dB l)[3*k+2]?=some (.int .u32 v.n)
 | [],k,v,h=>by simp at h
 | u::r,0,v,h=>by simp at h;subst h;exact⟨rfl,rfl,rfl⟩
 | u::r,k+1,v,h=>by
  obtain⟨d,g,j⟩:=dX r k v (by simpa using h)
  refine⟨?_,?_,?_⟩
  ·rw[show 3*(k+1)=(3*k)+1+1+1 by omega];simpa[dB] using d
  ·rw[show 3*(k+1)+1=(3*k+1)+1+1+1 by omega];simpa[dB] using g
  ·rw[show 3*(k+1)+2=(3*k+2)+1+1+1 by omega];simpa[dB] using j
theorem lx:∀(l:List Rn.V)(k:Nat)(v:Rn.V),(((dB l).set (3*k) (.bool v.p)).set (3*k+1) (.int .i64 v.s)).set (3*k+2) (.int .u32 v.n)=dB (l.set k v)
 | [],k,v=>by simp[dB]
 | u::r,0,v=>rfl
 | u::r,k+1,v=>by
  have:=lx r k v
  rw[show 3*(k+1)=(3*k)+1+1+1 by omega,show 3*k+1+1+1+1=(3*k+1)+1+1+1 by omega,show 3*k+1+1+1+2=(3*k+2)+1+1+1 by omega];simp only[dB,List.set_cons_succ];rw[this]
structure Cfg where
 n₀:Nat
 f:Fn
 vp:Value
 vs:Value
 vb:Value
 ch:Value
 Bf:Nat
 cf:Nat
 Am:Option Addr
 Bm:Nat
 cm:Nat
 us:List (Nat × Nat)
 Bs:Nat
 Bv:Nat
 Bh:Nat
def Cfg.mv (c:Cfg):Value:=.slice c.Am c.us.length c.cm
def Cfg.first (c:Cfg):Value:=.slice (some ⟨c.Bf,0,none⟩) c.f.b.length c.cf
def pP (c:Cfg)(n:Nat)(b frm:Int)(k:Nat)(vt:Value):Array Value :=
 #[c.vp,.int .i64 c.f.ret,c.vs,c.vb,c.ch,.slice (some ⟨c.Bv,0,none⟩) n n,.slice (some ⟨c.Bh,0,none⟩) n n,c.first,c.mv,.int .i64 b,.int .i64 frm,.int .i64 k,vt]
def uP (c:Cfg)(w:World)(mem:List (List Int)):Prop :=
 mem.length=c.us.length/\∀(j b cp:Nat)(l:List Int),c.us[j]?=some (b,cp)->mem[j]?=some l->l.length<=cp/\cp<=9223372036854775807/\∃cur:Array Value,w.heap[b]?=some (.cells cur 3 (0,0))/\∀(i:Nat)(z:Int),l[i]?=some z->cur[i]?=some (.int .i64 z)
def mq (c:Cfg)(w:World):Prop :=
 c.us.length<=c.cm/\c.cm<=9223372036854775807/\(0<c.us.length->c.Am=some ⟨c.Bm,0,none⟩/\∃cur:Array Value,w.heap[c.Bm]?=some (.cells cur 33 (0,0))/\∀(j b cp:Nat)(n:Int),c.us[j]?=some (b,cp)->c.f.s[j]?=some n->cur[j]?=some (.slice (some ⟨b,0,none⟩) n.toNat cp))
structure PS (c:Cfg)(w:World)(s:AN)(b frm:Int)(vt:Value):Prop where
 st:w.heap[c.Bs]?=some (.cells (pP c s.v.length b frm s.t vt) 145 (0,0))
 v:w.heap[c.Bv]?=some (.cells (dB s.v).toArray 24 (0,0))
 had:w.heap[c.Bh]?=some (.cells (s.had.map Value.bool).toArray 4 (0,0))
 hlen:s.had.length=s.v.length
 mem:uP c w s.mem
 s:mq c w
 fn:FnAt c.n₀ w (.agg #[c.vp,.int .i64 c.f.ret,c.vs,c.vb]) c.f
 first:c.f.b.length<=c.cf/\c.cf<=9223372036854775807/\∃cur:Array Value,w.heap[c.Bf]?=some (.cells cur 3 (0,0))/\∀j:Nat,j<c.f.b.length->cur[j]?=some (.int .i64 (yZ c.f j:Nat))
 old:c.n₀<=c.Bs/\c.n₀<=c.Bv/\c.n₀<=c.Bh/\c.n₀<=c.Bf/\c.n₀<=c.Bm/\∀(j b cp:Nat),c.us[j]?=some (b,cp)->c.n₀<=b/\b≠c.Bf
 apart:(c.us.map (·.1)).Nodup
section
variable {c:Cfg}{w w':World}{s:AN}{b frm:Int}{vt:Value}
theorem PS.cell (h:PS c w s b frm vt)(i:Nat):w.cell? ⟨c.Bs,i,none⟩=(pP c s.v.length b frm s.t vt)[i]?:=yo _ _ i _ _ _ h.st
theorem cY {o:Obj}(h:w.heap[k]?=some o):k<w.heap.size:=(xY.1 h).1
theorem PS.n₀ (h:PS c w s b frm vt):c.n₀<=w.heap.size:=by have:=cY h.st;have:=h.old.1;omega
theorem PS.gr (h:PS c w s b frm vt)(g:Gr w w'):PS c w' s b frm vt where
 st:=(g.heap _ (cY h.st)).trans h.st
 v:=(g.heap _ (cY h.v)).trans h.v
 had:=(g.heap _ (cY h.had)).trans h.had
 hlen:=h.hlen
 mem:=⟨h.mem.1,fun j b t l u y=>by
   obtain⟨q,p,d,m,r⟩:=h.mem.2 j b t l u y
   exact⟨q,p,d,(g.heap _ (cY m)).trans m,r⟩⟩
 s:=⟨h.s.1,h.s.2.1,fun z=>by
   obtain⟨q,d,p,m⟩:=h.s.2.2 z
   exact⟨q,d,(g.heap _ (cY p)).trans p,m⟩⟩
 fn:=h.fn.below (Below.mono g h.n₀)
 first:=by obtain⟨q,p,d,m,r⟩:=h.first;exact⟨q,p,d,(g.heap _ (cY m)).trans m,r⟩
 old:=h.old
 apart:=h.apart
theorem PS.firstAt (h:PS c w s b frm vt)(j:Nat)(hj:j<c.f.b.length):w.cell? ⟨c.Bf,j,none⟩=some (.int .i64 (yZ c.f j:Nat)):=by obtain⟨m,p,d,g,l⟩:=h.first;exact(yo _ _ j _ _ _ g).trans (l j hj)
end
structure VFn (f:Fn):Prop where
 val:FB f
 im:Hh f
theorem lP (f:Fn)(hv:FB f)(hl:f.b[j]?=some l)(hi:i<l.length)(hk:j<k):yZ f j+i<yZ f k:=by have:=Jv f hl hk;omega
theorem ff {c:Cfg}{s:AN}{vt:Value}(h:PS c w s b frm vt)(hf:VFn c.f)(v:Int)(h0:0<=v)(h1:v<An c.f) :
  Calls prog 170 #[.pointer (some ⟨c.Bs,0,none⟩),.int .i64 v] w (RG (.int .i64 (Ref.kind c.f v)) w):=by
 have c0:w.cell? ⟨c.Bs,0,none⟩=some c.vp:=h.cell 0;have c3:w.cell? ⟨c.Bs,3,none⟩=some c.vb:=h.cell 3;have c7:w.cell? ⟨c.Bs,7,none⟩=some c.first:=h.cell 7;have L:=dJ fun j hj=>h.firstAt j hj;have G:=h.fn;have A:=hf.val.size;obtain⟨af,ag,ae,e,T,-,Q⟩:=G;injection e with e;injection e with e;injection e with D e;injection e with _ e;injection e with _ e;injection e with E _;rw[D]at c0;rw[E]at c3;obtain⟨f1,f2,-⟩:=h.first;unfold Cfg.first at c7;rcases KC c.f h0 h1 with ⟨-,g⟩|⟨j,i,l,x,hl,C,rfl⟩
 ·obtain⟨k,rfl⟩:=xZ h0;obtain⟨Ap,cp,rfl,p1,p2,Y⟩:=T;obtain⟨bp,op,rfl,-,Z⟩:=Y (by omega);obtain⟨z,J⟩:∃z,c.f.p[k]?=some z:=⟨_,xR (by omega)⟩;have hc:=Z k z J
  have m:Hid (Ref.kind c.f (k:Int)=z):=by show _=_;unfold Ref.kind;rw[yt (by omega),yr g,ya,xU,J];rfl
  have S:k<c.f.p.length:=by omega
  clear Y Z J Q L h hf h0 h1 D E
  go_enter func170, ntmps170
  go_wp2;go_ret;exact⟨dg m.out.symm,yO _⟩
 ·have aa:j<c.f.b.length:=(xS.1 hl).1;have H:i<l.length:=(xS.1 C).1;have m:Hid (Ref.kind c.f ((yZ c.f j+i:Nat):Int)=x.w):=JL c.f hl C;have M:Hid (∀k,j<k->k<c.f.b.length->yZ c.f j+i<yZ c.f k):=fun k S _=>lP c.f hf.val hl H S;have y:(c.f.p.length:Int)<=((yZ c.f j+i:Nat):Int):=by unfold yZ;omega
  obtain⟨Ab,cb,rfl,b1,b2,N⟩:=Q;obtain⟨bb,ob,rfl,-,O⟩:=N (by omega);obtain⟨u,hu,F⟩:=O j l hl;obtain⟨Al,cl,rfl,l1,l2,W⟩:=F;obtain⟨bl,ol,rfl,-,X⟩:=W (by omega);obtain⟨-,-,-,hw,-⟩:=X i x C;obtain⟨Ap,cp,rfl,p1,p2,-⟩:=T
  have d:((yZ c.f j+i:Nat):Int)<100:=by
   have e:An c.f=c.f.p.length+AX c.f.b:=by unfold An yZ;rw[yv]
   omega
  obtain⟨q,I⟩:=xJ (yZ c.f j);have HQ:=dJ I;rw[I]at y d m M ⊢;obtain⟨v,hv⟩:∃v:Int,((q+i:Nat):Int)=v:=⟨_,rfl⟩;rw[hv]at y d m ⊢;have B:=dJ hv;have v0:0<=v:=by omega
  have R:c.f.b.length<=10:=A.2.2.2.1;clear I hv N O W X hl C h hf h0 h1 D E A
  go_enter func170, ntmps170
  go_wp2
  go_loop [5] (fun K=>∃k:Nat,j<=k/\k<c.f.b.length/\K=.int .i64 (k:Int)) (fun K=>(intOf K).toNat)
  case atStart=>exact⟨c.f.b.length-1,by omega,by omega,by congr 1;omega⟩
  case round =>
   obtain⟨k,ab,t,rfl⟩:=hrel;have p:=L.out k t;by_cases he:j=k
   ·subst he;rw[HQ.out]at p;have ac:((q:Nat):Int)<=v:=by have:=B.out;omega
    have ad:IntKind.i64.wrap (v-(q:Int))=(i:Int):=by rw[IntWalk.i64_in _ (by have:=B.out;omega)];have:=B.out;omega
    go_wp2;go_quiet ((fail));all_goals go_wp2
    all_goals go_ret
    all_goals exact⟨dg m.out.symm,(yO w).drewN _⟩
   ·have g:v<((yZ c.f k:Nat):Int):=by have:=M.out k (by omega) t;have:=B.out;omega
    obtain⟨r,U⟩:∃r:Int,((yZ c.f k:Nat):Int)=r:=⟨_,rfl⟩;rw[U]at p g;clear U;go_wp2;go_round;case rel=>exact⟨k-1,by omega,by omega,by congr 1;omega⟩
    case measure=>simp[intOf];omega
theorem PS.slot {c:Cfg}{s:AN}{vt:Value}(h:PS c w s b frm vt)(hf:VFn c.f)(hi:Rn.Inv c.f s){p:Rn.V}(h1:1<=p.s)(h2:p.s<=c.f.s.length) :
  ∃(bj cp:Nat)(l:List Int),c.us[(p.s-1).toNat]?=some (bj,cp)/\s.mem[(p.s-1).toNat]?=some l/\s.mem.getD (p.s-1).toNat []=l/\l.length<=cp/\cp<=9223372036854775807/\(p.s-1).toNat<c.us.length/\c.us.length<=c.cm/\c.cm<=9223372036854775807 /\
   c.Am=some ⟨c.Bm,0,none⟩/\w.cell? ⟨c.Bm,(p.s-1).toNat,none⟩=some (.slice (some ⟨bj,0,none⟩) l.length cp)/\l.length<=8 /\
   ∃cur:Array Value,w.heap[bj]?=some (.cells cur 3 (0,0))/\∀(i:Nat)(z:Int),l[i]?=some z->cur[i]?=some (.int .i64 z):=by
 have y:=hi.mem;have hlen:s.mem.length=c.f.s.length:=by rw[<-y];simp
 have B:s.mem.length=c.us.length:=h.mem.1;obtain⟨j,A⟩:=xJ ((p.s-1).toNat);have d:j<c.us.length:=by omega
 obtain⟨⟨bj,cp⟩,r⟩:∃u,c.us[j]?=some u:=⟨_,xR d⟩;obtain⟨l,hl⟩:∃l,s.mem[j]?=some l:=⟨_,xR (by omega)⟩;obtain⟨n,m⟩:∃n,c.f.s[j]?=some n:=⟨_,xR (by omega)⟩
 have g:(l.length:Int)=n:=by have:=congrArg (fun q=>q[j]?) y;simp only[yc,hl,m,Option.map_some]at this;injection this
 obtain⟨C,D,cur,E,F⟩:=h.mem.2 j bj cp l r hl;obtain⟨G,H,I⟩:=h.s;obtain⟨J,t,K,L⟩:=I (by omega);rw[A];refine⟨bj,cp,l,r,hl,by rw[xU,hl];rfl,C,D,d,G,H,J,?_,?_,cur,E,F⟩
 ·rw[yo _ _ j _ _ _ K,L j bj cp n r m,<-g];rfl
 ·have:=ym.1 hf.val.head.2 n (xT m);unfold BH at this;simp at this;omega
theorem jh {c:Cfg}{s:AN}{vt:Value}(h:PS c w s b frm vt)(hf:VFn c.f)(hi:Rn.Inv c.f s)(p:Rn.V)(hp:Fp c.f 33 p)(n:Nat)(hn:n<=4)(hb:Dv s.mem p n=none) :
  Calls prog 187 #[.pointer (some ⟨c.Bs,0,none⟩),vv p,.int .i64 n] w (RG (.tuple #[.slice none 0 0,.bool false]) w):=by
 have d:Gr w (w.alloc (.cells #[.bool p.p,.int .i64 p.s,.int .u32 p.n] 24)):=(yO w).alloc _;have t:=dJ d
 cases hpp:p.p with
 | true =>
  clear hb hp hi h d;unfold vv;rw[hpp]at t;rw[hpp]
  go_enter func187, ntmps187
  go_wp2;go_ret2;exact⟨rfl,t.out⟩
 | false =>
  obtain⟨I,J,R,T⟩:=hp.ptr hpp;obtain⟨L,O,l,-,-,hl,F,C,D,H,B,y,g,E,-⟩:=h.slot hf hi I J
  have r:l.length<p.n.toNat+n:=by
   unfold Dv at hb;rw[hl,hpp]at hb;split at hb;next hc=>simpa using hc
   next hc=>cases hb
  have M:w.cell? ⟨c.Bs,8,none⟩=some (.slice (some ⟨c.Bm,0,none⟩) c.us.length c.cm):=by have:w.cell? ⟨c.Bs,8,none⟩=some c.mv:=h.cell 8;rw[this];unfold Cfg.mv;rw[y]
  have G:=cY h.st
  have z:c.Bm<w.heap.size:=by obtain⟨-,-,q⟩:=h.s;obtain⟨-,A,K,-⟩:=q (by omega);exact cY K
  unfold vv;obtain⟨U,S,N⟩:=p;dsimp only at *;subst hpp;obtain⟨j,m⟩:=xJ ((S-1).toNat);rw[m]at D g;have Q:S-1=(j:Int):=by omega
  have u:(l.length:Int)<N+n:=by omega
  clear hb hp hi h d hl r m y
  go_enter func187, ntmps187
  go_wp2;go_quiet ((fail));all_goals go_wp2
  all_goals go_ret2
  all_goals exact⟨rfl,t.out.drewN _⟩
theorem ji {c:Cfg}{s:AN}{vt:Value}(h:PS c w s b frm vt)(hf:VFn c.f)(hi:Rn.Inv c.f s)(p:Rn.V)(hp:Fp c.f 33 p)(n:Nat)(hn1:1<=n)(hn:n<=4)(hb:Dv s.mem p n≠none) :
  ∃(bj cp:Nat),c.us[(p.s-1).toNat]?=some (bj,cp)/\p.n.toNat+n<=cp/\cp<=9223372036854775807/\Calls prog 187 #[.pointer (some ⟨c.Bs,0,none⟩),vv p,.int .i64 n] w (RG (.tuple #[.slice (some ⟨bj,p.n.toNat,none⟩) n (cp-p.n.toNat),.bool true]) w):=by
 have g:Gr w (w.alloc (.cells #[.bool p.p,.int .i64 p.s,.int .u32 p.n] 24)):=(yO w).alloc _;have D:=dJ g
 have r:p.p=false:=by
  cases h:p.p with
  | false=>rfl
  | true=>exact absurd (by unfold Dv;rw[yr (.inl h)]) hb
 obtain⟨M,O,W,X⟩:=hp.ptr r;obtain⟨bj,cp,l,t,-,hl,J,u,H,L,G,z,d,I,-⟩:=h.slot hf hi M O
 have y:p.n.toNat+n<=l.length:=by
  rcases yw l.length (p.n.toNat+n) with q|q
  ·exact absurd (by unfold Dv;rw[hl,yr (.inr q)]) hb
  ·exact q
 refine⟨bj,cp,t,by omega,u,?_⟩
 have R:w.cell? ⟨c.Bs,8,none⟩=some (.slice (some ⟨c.Bm,0,none⟩) c.us.length c.cm):=by have:w.cell? ⟨c.Bs,8,none⟩=some c.mv:=h.cell 8;rw[this];unfold Cfg.mv;rw[z]
 have K:=cY h.st
 have C:c.Bm<w.heap.size:=by obtain⟨-,-,q⟩:=h.s;obtain⟨-,F,Q,-⟩:=q (by omega);exact cY Q
 unfold vv;obtain⟨Y,S,N⟩:=p;dsimp only at *;subst r;obtain⟨j,m⟩:=xJ ((S-1).toNat);rw[m]at H d;have T:S-1=(j:Int):=by omega
 have A:N+n<=(l.length:Int):=by omega
 have B:N+n<=(cp:Int):=by omega
 have U:0<=(n:Int):=by omega
 have E:Hid ((N+(n:Int)).toNat-N.toNat=n):=by show _=_;omega
 clear hb hp hi h g hl m z t y
 go_enter func187, ntmps187
 go_wp2;go_quiet ((fail));all_goals go_wp2
 all_goals go_ret2
 all_goals exact⟨by show Ending.returned (.tuple #[.slice _ ((N+(n:Int)).toNat-N.toNat) _,.bool true])=_;rw[E.out],D.out.drewN _⟩
theorem rI {x v:Int}(h0:0<=x)(h1:x<2 ^ i)(h2:0<=v)(h3:v*2 ^ i+x<4294967296):bits .or .u32 x (v*2 ^ i)=x+v*2 ^ i:=by
 obtain⟨a,rfl⟩:=xZ h0;obtain⟨b,rfl⟩:=xZ h2;have g:((b:Int)*2 ^ i)=((b*2 ^ i:Nat):Int):=by simp
 have d:a<2 ^ i:=by
  have e:((2:Int) ^ i)=((2 ^ i:Nat):Int):=by simp
  rw[e]at h1
  exact_mod_cast h1
 rw[g]at h3 ⊢;generalize hm:b*2 ^ i=m at h3 ⊢;show IntKind.u32.wrap (((BitVec.ofInt 32 (a:Int) ||| BitVec.ofInt 32 (m:Int)).toNat:Nat):Int)=_;rw[BitVec.toNat_or,Ed _ (by omega),Ed _ (by omega)]
 have e:a ||| m=m+a:=by rw[<-hm,<-Nat.shiftLeft_eq,Nat.or_comm];exact(Nat.shiftLeft_add_eq_or_of_lt d b).symm
 rw[e,Jw _ (by omega) (by omega)];omega
theorem tP {x y:Int}(hn:zi n):bits .and .u32 ((x+-y)%4294967296) (m9 n-1)=(x-y)%m9 n:=by rw[show x+-y=x-y by omega];exact EH _ hn
theorem lL {l x v:Int}{L K:Nat}(hn:zi n)(hl1:1<=l)(hL:l=L)(hK:(n / l).toNat=K)(hl3:n%l=0)(hm:m=k*L)(hx:x=CP o l k a b)(hlt:(m:Int)<n)(hv:v=Fo o (m9 l) (a / 2 ^ m) (b / 2 ^ m)) :
  bits .or .u32 x (v*2 ^ m%4294967296)=CP o l (k+1) a b/\k+1<=K/\m+L=(k+1)*L:=by
 have u:m9 l ^ k=2 ^ m:=by subst hL;rw[KV];unfold m9;rw[ya,hm,Nat.mul_comm]
 have t:=IM o l k a b;have g:=I8 o (m9 l) (a / 2 ^ m) (b / 2 ^ m) (BC l);rw[<-hv]at g;rw[<-hx,u]at t
 have d:n=l*K:=by
  have q:=Int.mul_ediv_add_emod n l;have C:0<=n / l:=yH (by have:=hn.1;omega) (by omega);have z:((K:Nat):Int)=n / l:=by omega
  rw[z];omega
 have j:k<K:=by
  rw[hL]at d;have e:(m:Int)=(L:Int)*k:=by rw[hm];simp[Int.mul_comm]
  rw[e,d]at hlt;have:=Int.lt_of_mul_lt_mul_left hlt (by omega);omega
 have p:m+L=(k+1)*L:=by rw[hm,Nat.add_mul];omega
 have y:v*2 ^ m+x<4294967296:=by
  have A:v*2 ^ m+x<m9 l*2 ^ m:=by have:v*2 ^ m<=(m9 l-1)*2 ^ m:=Int.mul_le_mul_of_nonneg_right (by omega) (Int.le_of_lt (Int.pow_pos (by decide)));rw[Int.sub_mul]at this;omega
  have B:m9 l*2 ^ m<=4294967296:=by
   have e:m9 l*2 ^ m=m9 ((m+L:Nat):Int):=by unfold m9;rw[hL,ya,ya,Nat.add_comm m L,Int.pow_add]
   rw[e];refine Int.le_trans (Hg ?_) (C4 hn);rw[ya,p,d,hL];have:(((L:Nat):Int)*((K:Nat):Int)).toNat=L*K:=by rw[<-Int.natCast_mul,ya]
   rw[this,Nat.mul_comm L K];exact Nat.mul_le_mul_right _ j
  omega
 have r:0<=v*2 ^ m:=Int.mul_nonneg g.1 (Int.le_of_lt (Int.pow_pos (by decide)));refine⟨?_,j,p⟩;rw[Int.emod_eq_of_lt r (by omega),rI t.1 t.2 g.1 y,Ko,<-hx,u,<-hv]
theorem gL {l:Int}(hl:zi l)(m:Nat)(h0:0<=a)(h1:a<4294967296):bits .and .u32 (a / 2 ^ m) (m9 l-1)=a / 2 ^ m%m9 l:=by have d:(0:Int)<=2 ^ m:=Int.le_of_lt (Int.pow_pos (by decide));exact Ji hl (yH h0 d) (Int.lt_of_le_of_lt (Int.ediv_le_self _ h0) h1)
theorem vu {l:Int}(hl:zi l)(m:Nat)(ha:0<=a/\a<4294967296)(hb:0<=b/\b<4294967296) :
  bits .and .u32 ((bits .and .u32 (a / 2 ^ m) (m9 l-1)+bits .and .u32 (b / 2 ^ m) (m9 l-1))%4294967296) (m9 l-1)=Fo 19 (m9 l) (a / 2 ^ m) (b / 2 ^ m):=by
 rw[EH _ hl,gL hl m ha.1 ha.2,gL hl m hb.1 hb.2];rfl
theorem vz {l:Int}(hl:zi l)(m:Nat)(ha:0<=a/\a<4294967296)(hb:0<=b/\b<4294967296) :
  bits .and .u32 ((bits .and .u32 (a / 2 ^ m) (m9 l-1)+-bits .and .u32 (b / 2 ^ m) (m9 l-1))%4294967296) (m9 l-1)=Fo 20 (m9 l) (a / 2 ^ m) (b / 2 ^ m):=by
 rw[tP hl,gL hl m ha.1 ha.2,gL hl m hb.1 hb.2];rfl
namespace Rn
theorem LI:∀(l:List Int)(b:Int),Gl (l++[b])=Gl l+b*256 ^ l.length
 | [],b=>by simp[Gl]
 | a::r,b=>by
  rw[List.cons_append,Gl,Gl,LI r b,List.length_cons,Int.pow_succ,Int.mul_add,<-Int.add_assoc]
  congr 1
  rw[Int.mul_left_comm,Int.mul_comm 256]
theorem Jo (k m:Nat)(h:m=8*k):(256:Int) ^ k=2 ^ m:=by subst h;rw[Int.pow_mul];rfl
theorem Nw {x:Int}(hm:m=8*k)(hk:bs[k]?=some b)(hx:x=Gl (bs.take k))(hn:∀z∈bs.take k,0<=z/\z<=255)(h0:0<=b)(h1:b<=255)(h4:k<4) :
  bits .or .u32 x (b*2 ^ m%4294967296)=Gl (bs.take (k+1)):=by
 have l:=(xS.1 hk).1;have hl:(bs.take k).length=k:=by rw[List.length_take];omega
 obtain⟨g,j⟩:=Hi _ hn;rw[hl,Jo k m hm,<-hx]at j;rw[<-hx]at g
 have r:(2:Int) ^ m<=16777216:=by rcases (by omega:k=0\/k=1\/k=2\/k=3) with rfl|rfl|rfl|rfl<;>subst hm<;>decide
 have p:(0:Int)<2 ^ m:=Int.pow_pos (by decide);have q:b*2 ^ m<=255*2 ^ m:=Int.mul_le_mul_of_nonneg_right h1 (by omega);have d:0<=b*2 ^ m:=Int.mul_nonneg h0 (by omega);rw[Int.emod_eq_of_lt d (by omega),rI g j h0 (by omega),List.take_add_one,hk];show _=Gl (bs.take k++[b]);rw[LI,hl,Jo k m hm,<-hx]
end Rn
def lM (mem:List (List Int))(p:Rn.V)(n:Nat):Value:=match Em mem p n with|none=>pW|some v=>vI v
theorem rT {c:Cfg}{s:AN}{vt:Value}(h:PS c w s b frm vt)(hf:VFn c.f)(hi:Rn.Inv c.f s)(p:Rn.V)(hp:Fp c.f 33 p)(n:Nat)(hn1:1<=n)(hn:n<=4) :
  Calls prog 168 #[.pointer (some ⟨c.Bs,0,none⟩),vv p,.int .i64 n] w (RG (lM s.mem p n) w):=by
 have t:Gr w (w.alloc (.cells #[.bool p.p,.int .i64 p.s,.int .u32 p.n] 24)):=(yO w).alloc _;have HB:=dJ t;by_cases E:Dv s.mem p n=none
 ·have Z:=dJ (jh (h.gr t) hf hi p hp n hn E);have I:Hid (lM s.mem p n=pW):=by show _=_;unfold lM Em;rw[E];rfl
  clear h hi hp E t;unfold vv at Z ⊢
  go_enter func168, ntmps168
  go_wp2_with (first|(go_at_call 187;refine Z.out.mono ?_;rintro e H ⟨rfl,J⟩)|(go_at_call 167;refine(dD _).mono ?_;rintro e w2 ⟨rfl,rfl⟩))
  go_ret;exact⟨by rw[I.out];rfl,HB.out.trans J⟩
 ·obtain⟨bj,cp,M,K,ae,CS⟩:=ji (h.gr t) hf hi p hp n hn1 hn E
  obtain⟨j,A⟩:∃j,Dv s.mem p n=some j:=by
   cases q:Dv s.mem p n with
   | none=>exact absurd q E
   | some j=>exact⟨j,rfl⟩
  obtain⟨bl,br⟩:=Ih hi.bytes A
  have L:p.p=false:=by
   cases q:p.p with
   | false=>rfl
   | true=>exact absurd (by unfold Dv;rw[yr (.inl q)]) E
  obtain⟨p1,p2,p3,p4⟩:=hp.ptr L;obtain⟨ab,ac,l,g,-,hl,-,-,-,-,-,-,-,-,ad,u,d⟩:=h.slot hf hi p1 p2;rw[M]at g;injection g with g;injection g with e1 e2;subst e1;subst e2
  have HC:Hid (∀H,Gr w H->∀k z,j[k]?=some z->H.cell? ⟨bj,p.n.toNat+k,none⟩=some (.int .i64 z)):=by
   intro H J k z r;have hr:=(J.heap _ (cY u)).trans u;rw[yo _ _ _ _ _ _ hr];refine d _ _ ?_;have:=A;unfold Dv at this;split at this
   ·cases this
   ·injection this with this;rw[<-this,hl]at r;rw[yf]at r;split at r
    ·rwa [List.getElem?_drop]at r
    ·cases r
  have I:Hid (lM s.mem p n=if j.any (fun b=>decide (b<0))=true then vI zX else vI (Ae (Gl j))):=by show _=_;unfold lM Em;rw[A];simp only[Option.map_some];split<;>rfl
  have S:=dJ br;have C:=dJ CS;obtain⟨R,hR⟩:=xJ (lM s.mem p n);rw[hR]at I ⊢;obtain⟨N,hN⟩:=xJ p.n.toNat;rw[hN]at HC K C;clear E CS A br hp hi h M hl d u t hR hN p1 p2 p3 p4 L;unfold vv at C ⊢
  go_enter func168, ntmps168
  go_wp2_with (first|(go_at_call 187;refine C.out.mono ?_;rintro e H ⟨rfl,J⟩;have D:=dJ (HB.out.trans J)))
  go_loop [9,24] (fun s9 G=>∃k:Nat,k<=n/\G=.int .i64 (k:Int)/\∃x:Int,s9=.int .u32 x/\Hid (x=Gl (j.take k)/\∀z∈j.take k,0<=z/\z<=255)) (fun _ G=>n-(intOf G).toNat)
  case atStart=>exact⟨0,yI _,rfl,0,rfl,rfl,fun z r=>by simp at r⟩
  case round =>
   obtain⟨k,hk,rfl,x,rfl,O⟩:=hrel;by_cases af:k<n
   ·obtain⟨z,r⟩:∃z,j[k]?=some z:=⟨_,xR (by omega)⟩;have hc:=HC.out H D.out k z r;have Y:=S.out z (xT r);obtain⟨z1,z2⟩:=Y;have U:=dJ r;clear r;by_cases B:z<0
    ·have T:Hid (vI zX=R):=by
      show _=_;rw[I.out,yr];rw[yG];exact⟨z,xT U.out,by simpa using B⟩
     go_wp2_with (go_at_call 171;refine(du _).mono ?_;rintro e w8 ⟨rfl,g8⟩);go_ret;exact⟨by rw[<-T.out];rfl,D.out.trans g8⟩
    ·obtain⟨m,hm⟩:∃m,m=8*k:=⟨_,rfl⟩;have ag:8*(k:Int)=(m:Int):=by omega
     have aa:m<32:=by omega
     have HM:=dJ hm;have Q:0<=z:=by omega
     clear B hm;go_wp2;refine⟨⟨k+1,by omega,by go_num,_,rfl,?_,?_⟩,?_⟩
     ·exact Nw HM.out U.out O.out.1 O.out.2 Q z2 (by omega)
     ·intro y F;rw[List.take_add_one,U.out]at F;simp at F;rcases F with F|rfl
      ·exact O.out.2 y F
      ·exact⟨Q,z2⟩
     ·simp[intOf];omega
   ·have W:k=n:=by omega
    have T:Hid (vI (Ae x)=R):=by show _=_;have e:j.take k=j:=yh (by omega);rw[I.out,O.out.1,e,yt];rw[yG];rintro⟨y,F,X⟩;have:=O.out.2 y (by rw[e];exact F);simp at X;omega
    subst W;go_wp2;go_ret;exact⟨by rw[<-T.out];rfl,D.out⟩
structure FrS (S:Nat->Prop)(w w':World):Prop where
 os:w'.os=w.os
 tape:w'.tape=w.tape
 output:w'.output=w.output
 size:w.heap.size<=w'.heap.size
 block:∀k,k<w.heap.size->¬S k->w'.heap[k]?=w.heap[k]?
section
variable {S S':Nat->Prop}{w w' w'' a b:World}
theorem FrS.refl (S:Nat->Prop)(w:World):FrS S w w:=⟨rfl,rfl,rfl,yJ _,fun _ _ _=>rfl⟩
theorem FrS.trans (h:FrS S w w')(k:FrS S w' w''):FrS S w w'' :=
 ⟨k.os.trans h.os,k.tape.trans h.tape,k.output.trans h.output,Nat.le_trans h.size k.size,fun j g d=>(k.block j (by have:=h.size;omega) d).trans (h.block j g d)⟩
theorem FrS.of_gr (g:Gr w w'):FrS S w w':=⟨g.os,g.tape,g.output,g.size,fun k d _=>g.heap k d⟩
theorem FrS.mono (h:FrS S w w')(hs:∀k,S k->S' k):FrS S' w w':=⟨h.os,h.tape,h.output,h.size,fun k d g=>h.block k d fun q=>g (hs k q)⟩
theorem FrS.below {n:Nat}(h:FrS S w w')(hS:∀k,S k->n<=k)(hn:n<=w.heap.size):Below n w w':=⟨h.os,h.tape,h.output,h.size,fun k d=>h.block k (by omega) fun q=>by have:=hS k q;omega⟩
theorem FrS.setCell (h:FrS S w a)(hp:S p.block)(u:Value):FrS S w (a.setCell p u) :=
 ⟨h.os,h.tape,h.output,by have:=h.size;simp;omega,fun k g d=>(yy _ _ _ _ (fun e=>d (by rw[e];exact hp))).trans (h.block k g d)⟩
theorem FrS.alloc (h:FrS S w a)(o:Obj):FrS S w (a.alloc o):=h.trans (FrS.of_gr ((yO a).alloc o))
theorem FrS.drewN (h:FrS S w a)(n:Nat):FrS S w (a.drewN n):=⟨h.os,h.tape,h.output,h.size,h.block⟩
theorem FrS.drew (h:FrS S w a):FrS S w a.drew:=⟨h.os,h.tape,h.output,h.size,h.block⟩
end
def Mut (c:Cfg)(k:Nat):Prop:=k=c.Bs\/k=c.Bv\/k=c.Bh\/∃j cp:Nat,c.us[j]?=some (k,cp)
theorem PS.mut {c:Cfg}{s:AN}{vt:Value}(h:PS c w s b frm vt)(hk:Mut c k):c.n₀<=k:=by
 obtain⟨l,m,p,r,t,q⟩:=h.old;rcases hk with rfl|rfl|rfl|⟨j,d,g⟩
 ·exact l
 ·exact m
 ·exact p
 ·exact(q j k d g).1
section
variable {c:Cfg}{w w':World}{s:AN}{b frm:Int}{vt:Value}
theorem de {x y:Array Value}{u:TypeId}{fx fy:Nat × Nat}(h1:w.heap[i]?=some (.cells x t fx))(h2:w.heap[j]?=some (.cells y u fy))(hn:t≠u):i≠j:=by intro e;subst e;rw[h1]at h2;injection h2 with h2;injection h2 with _ h2;exact hn h2
theorem gs {us:List (Nat × Nat)}(h:(us.map (·.1)).Nodup){b x y:Nat}(hij:i<j)(h1:us[i]?=some (b,x))(h2:us[j]?=some (b,y)):False:=by obtain⟨l,d⟩:=xS.1 h1;obtain⟨m,g⟩:=xS.1 h2;have:=List.pairwise_iff_getElem.1 h i j (by simpa using l) (by simpa using m) hij;simp[d,g]at this
theorem PS.memSet (h:PS c w s b frm vt){bj cp:Nat}{l l':List Int}(hus:c.us[j]?=some (bj,cp))(hl:s.mem[j]?=some l)(hll:l'.length=l.length)(hF:FrS (·=bj) w w')(hb:w'.heap[bj]?=some (.cells cur 3 (0,0)))
  (hc:∀(i:Nat)(z:Int),l'[i]?=some z->cur[i]?=some (.int .i64 z)):PS c w' {s with mem:=s.mem.set j l' } b frm vt:=by
 obtain⟨Y,R,F,y,Z⟩:=h.mem.2 j bj cp l hus hl;have L:=de h.st y (by decide);have M:=de h.v y (by decide);have N:=de h.had y (by decide);obtain⟨S,T,U,W,X,O⟩:=h.old;obtain⟨P,Q⟩:=O j bj cp hus
 exact {
   st:=(hF.block _ (cY h.st) L).trans h.st
   v:=(hF.block _ (cY h.v) M).trans h.v
   had:=(hF.block _ (cY h.had) N).trans h.had
   hlen:=h.hlen
   mem:=⟨by rw[List.length_set];exact h.mem.1,fun G E A m g t=>by
     by_cases e:j=G
     · subst e
       rw[hus]at g
       injection g with g
       injection g with g I
       subst g;subst I
       have B:=(xS.1 hl).1
       rw[yC B]at t
       injection t with t
       subst t
       exact⟨by omega,R,cur,hb,hc⟩
     · rw[List.getElem?_set_ne e]at t
       obtain⟨u,p,d,r,D⟩:=h.mem.2 G E A m g t
       have C:E≠bj:=by
         intro H;subst H
         rcases Nat.lt_or_gt_of_ne e with q|q
         · exact gs h.apart q hus g
         · exact gs h.apart q g hus
       exact⟨u,p,d,(hF.block _ (cY r) C).trans r,D⟩⟩
   s:=⟨h.s.1,h.s.2.1,fun K=>by
     obtain⟨u,d,p,r⟩:=h.s.2.2 K
     exact⟨u,d,(hF.block _ (cY p) (de p y (by decide))).trans p,r⟩⟩
   fn:=h.fn.below (hF.below (fun k J=>by rw[J];exact P) h.n₀)
   first:=by
     obtain⟨u,p,d,r,D⟩:=h.first
     exact⟨u,p,d,(hF.block _ (cY r) (fun e=>Q e.symm)).trans r,D⟩
   old:=h.old
   apart:=h.apart}
end
section
variable {c:Cfg}{w w':World}{s:AN}{b frm:Int}{vt:Value}
theorem PS.setVal (h:PS c w s b frm vt){v:Nat}{x:Rn.V}(hF:FrS (fun k=>k=c.Bv\/k=c.Bh) w w')(hv:w'.heap[c.Bv]?=some (.cells (dB (s.v.set v x)).toArray 24 (0,0)))
  (hh:w'.heap[c.Bh]?=some (.cells ((s.had.set v true).map Value.bool).toArray 4 (0,0))):PS c w' (s.set v x) b frm vt:=by
 obtain⟨E,C,D,F,G,H⟩:=h.old
 have keep:∀{k:Nat} {d:Array Value} {t:TypeId} {fr:Nat × Nat},w.heap[k]?=some (.cells d t fr)->t≠24->t≠4->w'.heap[k]?=some (.cells d t fr):=fun g r u =>
  (hF.block _ (cY g) (by
    rintro (rfl|rfl)
    · exact de g h.v r rfl
    · exact de g h.had u rfl)).trans g
 exact {
   st:=by
     have:=keep h.st (by decide) (by decide)
     show w'.heap[c.Bs]?=some (.cells (pP c (s.v.set v x).length b frm s.t vt) _ _)
     rw[List.length_set];exact this
   v:=hv
   had:=hh
   hlen:=by show (s.had.set v true).length=(s.v.set v x).length;rw[List.length_set,List.length_set];exact h.hlen
   mem:=⟨h.mem.1,fun j z A m r u=>by
     obtain⟨l,p,d,q,y⟩:=h.mem.2 j z A m r u
     exact⟨l,p,d,keep q (by decide) (by decide),y⟩⟩
   s:=⟨h.s.1,h.s.2.1,fun B=>by
     obtain⟨l,d,p,q⟩:=h.s.2.2 B
     exact⟨l,d,keep p (by decide) (by decide),q⟩⟩
   fn:=h.fn.below (hF.below (fun k g=>g.elim (fun e=>by rw[e];exact C) (fun e=>by rw[e];exact D)) h.n₀)
   first:=by
     obtain⟨l,p,d,q,y⟩:=h.first
     exact⟨l,p,d,keep q (by decide) (by decide),y⟩
   old:=h.old
   apart:=h.apart}
theorem gQ (l:List Rn.V)(v:Nat)(x:Rn.V):(((dB l).toArray.setIfInBounds (v*3) (.bool x.p)).setIfInBounds (v*3+1) (.int .i64 x.s)).setIfInBounds (v*3+2) (.int .u32 x.n)=(dB (l.set v x)).toArray:=by rw[yF,yF,yF,Nat.mul_comm v 3,lx]
theorem kN (l:List Bool)(v:Nat):((l.map Value.bool).toArray.setIfInBounds v (.bool true))=((l.set v true).map Value.bool).toArray:=by rw[yF,List.map_set]
theorem ui (h:PS c w s b frm vt)(v:Nat)(hv:v<s.v.length)(hn:s.v.length<=1000)(x:Rn.V) :
  Calls prog 148 #[.pointer (some ⟨c.Bs,0,none⟩),.int .i64 v,vv x] w fun e w'=>e=.returned (.tuple #[])/\PS c w' (s.set v x) b frm vt/\FrS (Mut c) w w':=by
 obtain⟨W,B⟩:=xJ (w.alloc (.cells #[.bool x.p,.int .i64 x.s,.int .u32 x.n] 24));have d:Gr w W:=by rw[<-B];exact(yO w).alloc _
 have hh:=h.gr d;have K:W.cell? ⟨c.Bs,5,none⟩=some (.slice (some ⟨c.Bv,0,none⟩) s.v.length s.v.length):=hh.cell 5;have L:W.cell? ⟨c.Bs,6,none⟩=some (.slice (some ⟨c.Bh,0,none⟩) s.v.length s.v.length):=hh.cell 6;have x0:W.cell? ⟨w.heap.size,0,none⟩=some (.bool x.p):=df _ _ 0 (by rw[B];exact yO W) rfl;have x1:W.cell? ⟨w.heap.size,1,none⟩=some (.int .i64 x.s):=df _ _ 1 (by rw[B];exact yO W) rfl;have x2:W.cell? ⟨w.heap.size,2,none⟩=some (.int .u32 x.n):=df _ _ 2 (by rw[B];exact yO W) rfl;obtain⟨y,I⟩:∃y,s.v[v]?=some y:=⟨_,xR hv⟩;obtain⟨z,J⟩:∃z,s.had[v]?=some z:=⟨_,xR (by rw[h.hlen];exact hv)⟩;obtain⟨E,F,G⟩:=dX _ _ _ I;rw[Nat.mul_comm]at E F G;have M:W.cell? ⟨c.Bv,v*3,none⟩=some (.bool y.p):=(yo _ _ _ _ _ _ hh.v).trans (by simpa using E);have d1:W.cell? ⟨c.Bv,v*3+1,none⟩=some (.int .i64 y.s):=(yo _ _ _ _ _ _ hh.v).trans (by simpa using F);have d2:W.cell? ⟨c.Bv,v*3+2,none⟩=some (.int .u32 y.n):=(yo _ _ _ _ _ _ hh.v).trans (by simpa using G);have N:W.cell? ⟨c.Bh,v,none⟩=some (.bool z):=(yo _ _ _ _ _ _ hh.had).trans (by simp[J]);have A:∀i,W.frozen? ⟨c.Bv,i,none⟩=false:=fun i=>by unfold World.frozen?;simp[hh.v]
 have H:∀i,W.frozen? ⟨c.Bh,i,none⟩=false:=fun i=>by unfold World.frozen?;simp[hh.had]
 have O:=A (v*3);have Q:=A (v*3+1);have R:=A (v*3+2);have T:=H v;have U:c.Bs≠c.Bv:=de h.st h.v (by decide);have X:c.Bs≠c.Bh:=de h.st h.had (by decide);have C:c.Bv≠c.Bh:=de h.v h.had (by decide);have Y:c.Bv≠w.heap.size:=by have:=cY h.v;omega
 have Z:c.Bh≠w.heap.size:=by have:=cY h.had;omega
 have q:=cX (i:=v*3) (.bool x.p) hh.v;have r:=cX (i:=v*3+1) (.int .i64 x.s) q;have g:=cX (i:=v*3+2) (.int .u32 x.n) r;rw[gQ]at g;have u:=((yy ((W.setCell ⟨c.Bv,v*3,none⟩ (.bool x.p)).setCell ⟨c.Bv,v*3+1,none⟩ (.int .i64 x.s)) ⟨c.Bv,v*3+2,none⟩ (.int .u32 x.n) c.Bh C.symm).trans ((yy (W.setCell ⟨c.Bv,v*3,none⟩ (.bool x.p)) ⟨c.Bv,v*3+1,none⟩ (.int .i64 x.s) c.Bh C.symm).trans (yy W ⟨c.Bv,v*3,none⟩ (.bool x.p) c.Bh C.symm))).trans hh.had;have j:=cX (i:=v) (.bool true) u;rw[kN]at j;have t:=(yy (((W.setCell ⟨c.Bv,v*3,none⟩ (.bool x.p)).setCell ⟨c.Bv,v*3+1,none⟩ (.int .i64 x.s)).setCell ⟨c.Bv,v*3+2,none⟩ (.int .u32 x.n)) ⟨c.Bh,v,none⟩ (.bool true) c.Bv C).trans g
 have D:FrS (fun k=>k=c.Bv\/k=c.Bh) W ((((W.setCell ⟨c.Bv,v*3,none⟩ (.bool x.p)).setCell ⟨c.Bv,v*3+1,none⟩ (.int .i64 x.s)).setCell ⟨c.Bv,v*3+2,none⟩ (.int .u32 x.n)).setCell ⟨c.Bh,v,none⟩ (.bool true)).drew :=
  (((((FrS.refl _ W).setCell (p:=⟨c.Bv,v*3,none⟩) (.inl rfl) _).setCell (p:=⟨c.Bv,v*3+1,none⟩) (.inl rfl) _).setCell (p:=⟨c.Bv,v*3+2,none⟩) (.inl rfl) _).setCell (p:=⟨c.Bh,v,none⟩) (.inr rfl) _).drew
 have l:=dJ (And.intro (hh.setVal D t j) ((FrS.of_gr (S:=Mut c) d).trans (D.mono fun k hk=>hk.elim (fun e=>.inr (.inl e)) (fun e=>.inr (.inr (.inl e))))));obtain⟨n,m⟩:=xJ s.v.length;rw[m]at hv hn K L;clear h hh d q r g t u j D A H E F G I J m;unfold vv
 go_enter func148, ntmps148
 go_wp2
 go_region_with (fail)
 all_goals go_wp2
 all_goals go_end0
 all_goals exact⟨rfl,l.out⟩
end
def yT (c:Cfg)(k:Nat):Prop:=Mut c k\/k=c.Bf\/k=c.Bm
section
variable {c:Cfg}{w w' w'':World}{s s' s'':AN}{b frm b' frm' b'' frm'':Int}{vt vt' vt'':Value}{S:Nat->Prop}
theorem PS.away (h:PS c w s b frm vt)(hS:∀k,S k->c.n₀<=k/\¬yT c k)(hF:FrS S w w'):PS c w' s b frm vt:=by
 have keep:∀{k:Nat} {o:Obj},w.heap[k]?=some o->yT c k->w'.heap[k]?=some o:=fun r hK=>(hF.block _ (cY r) (fun q=>(hS _ q).2 hK)).trans r
 exact {
   st:=keep h.st (.inl (.inl rfl))
   v:=keep h.v (.inl (.inr (.inl rfl)))
   had:=keep h.had (.inl (.inr (.inr (.inl rfl))))
   hlen:=h.hlen
   mem:=⟨h.mem.1,fun j z u m y A=>by
     obtain⟨g,l,d,p,t⟩:=h.mem.2 j z u m y A
     exact⟨g,l,d,keep p (.inl (.inr (.inr (.inr ⟨j,u,y⟩)))),t⟩⟩
   s:=⟨h.s.1,h.s.2.1,fun B=>by
     obtain⟨g,d,l,p⟩:=h.s.2.2 B
     exact⟨g,d,keep l (.inr (.inr rfl)),p⟩⟩
   fn:=h.fn.below (hF.below (fun k r=>(hS k r).1) h.n₀)
   first:=by
     obtain⟨g,l,d,p,t⟩:=h.first
     exact⟨g,l,d,keep p (.inr (.inl rfl)),t⟩
   old:=h.old
   apart:=h.apart}
end
structure eP (c:Cfg)(pick:Dk)(fin:List Int) where
 ty:TypeId
 ptr:Value
 fnum:Nat
 ech:c.ch=.iface ty ptr
 inv:∀w:World,(method 360 ty ptr "backstay/run.choose").run prog w=.ok (fnum,ptr) w
 ent:∀(n:Int)(w:World),(callFunc fnum #[ptr,.int .i64 n]).run prog w=.ok (.enter fnum #[ptr,.int .i64 n]) w
 At:World->List Int->(Nat->Prop)->Prop
 apart:∀{w:World} {ws:List Int} {O:Nat->Prop},At w ws O->∀k,O k->c.n₀<=k/\k<w.heap.size/\¬yT c k
 keep:∀{w w':World} {ws:List Int} {O S:Nat->Prop},At w ws O->FrS S w w'->(∀k,S k->c.n₀<=k/\¬O k)->At w' ws O
 call:∀{w:World} {ws:List Int} {O:Nat->Prop} (n:Int),At w ws O->zi n->(ws++[n]) <+: fin ->
  Calls prog fnum #[ptr,.int .i64 n] w fun e w'=>e=.returned (.int .u32 (pick ws.length n))/\FrS O w w'/\∃O':Nat->Prop,At w' (ws++[n]) O'/\∀k,O' k->O k\/w.heap.size<=k
def Left {c:Cfg}{pick:Dk}{fin:List Int}(ch:eP c pick fin)(w:World)(O:Nat->Prop)(s':AN)(b' frm':Int)(vt':Value)(w':World):Prop :=
 ∃O':Nat->Prop,PS c w' s' b' frm' vt'/\ch.At w' s'.z O'/\FrS (fun k=>Mut c k\/O k) w w'/\∀k,O' k->O k\/w.heap.size<=k
section
variable {c:Cfg}{pick:Dk}{fin:List Int}{ch:eP c pick fin}{w w' w'':World}{s s' s'':AN}{b frm b' frm' b'' frm'':Int}{vt vt' vt'':Value}{O:Nat->Prop}
theorem yN (hA:ch.At w s.z O)(h:PS c w' s' b' frm' vt')(e:s'.z=s.z)(hF:FrS (Mut c) w w')(hm:∀k,Mut c k->c.n₀<=k):Left ch w O s' b' frm' vt' w' :=
 ⟨O,h,by rw[e];exact ch.keep hA hF (fun k d=>⟨hm k d,fun q=>(ch.apart hA k q).2.2 (.inl d)⟩),hF.mono (fun k d=>.inl d),fun k d=>.inl d⟩
theorem Left.of_gr (hA:ch.At w s.z O)(h:PS c w s b frm vt)(g:Gr w w'):Left ch w O s b frm vt w' :=
 yN hA (h.gr g) rfl (FrS.of_gr g) (fun k d=>h.mut d)
theorem Left.chosen (hA:ch.At w s.z O)(h:PS c w s b frm vt)(hF:FrS O w w')(hA':ch.At w' (s.z++[n]) O')(hO:∀k,O' k->O k\/w.heap.size<=k):Left ch w O (s.chose n) b frm vt w':=by have d:PS c w' s b frm vt:=h.away (fun k g=>⟨(ch.apart hA k g).1,(ch.apart hA k g).2.2⟩) hF;exact⟨O',⟨d.st,d.v,d.had,d.hlen,d.mem,d.s,d.fn,d.first,d.old,d.apart⟩,hA',hF.mono (fun k g=>.inr g),hO⟩
theorem Left.block (h:Left ch w O s' b' frm' vt' w')(hr:r<w.heap.size)(h1:¬Mut c r)(h2:¬O r):w'.heap[r]?=w.heap[r]?:=by obtain⟨g,-,-,d,-⟩:=h;exact d.block r hr (fun q=>q.elim h1 h2)
theorem dV (hF:FrS (fun k=>Mut c k\/O k) w w')(hO:∀k,O' k->O k\/w.heap.size<=k)(h:Left ch w' O' s'' b'' frm'' vt'' w''):Left ch w O s'' b'' frm'' vt'' w'':=by
 obtain⟨d,p,a,f,o⟩:=h;refine⟨d,p,a,⟨f.os.trans hF.os,f.tape.trans hF.tape,f.output.trans hF.output,Nat.le_trans hF.size f.size,fun k g j=>?_⟩,fun k g=>?_⟩
 ·refine(f.block k (by have:=hF.size;omega) fun q=>q.elim (fun q=>j (.inl q)) fun q=>?_).trans (hF.block k g j);rcases hO k q with q|q
  ·exact j (.inr q)
  ·omega
 ·rcases o k g with q|q
  ·exact hO k q
  ·exact .inr (by have:=hF.size;omega)
theorem Left.gr (h:Left ch w O s' b' frm' vt' w')(g:Gr w' w''):Left ch w O s' b' frm' vt' w'':=by obtain⟨d,p,a,f,o⟩:=h;exact dV f o (Left.of_gr a p g)
end
theorem FrS.grown {a b:World}{row:Option Nat}(h:FrS S w a)(g:a.grownBy b row)(hr:∀k,row=some k->S k\/w.heap.size<=k):FrS S w b :=
 ⟨g.os.trans h.os,g.tape.trans h.tape,g.output.trans h.output,Nat.le_trans h.size g.size,fun k j d=>(g.block k (by have:=h.size;omega) (fun e=>by
   rcases hr k e.symm with q|q
   · exact d q
   · omega)).trans (h.block k j d)⟩
theorem kC:(prog.info? 22).map (fun i=>(i.zero,i.size,i.bytes))=some (some (.int .u32 0),1,4):=by kernel_rfl
structure ExAt (B Bg:Nat)(w:World)(p ws:List Int)(u:Nat)(vp vw:Value):Prop where
 st:w.heap[Bg]?=some (.cells #[vp,vw,.int .i64 u] 101 (0,0))
 pth:Own1 B 22 w vp (p.map (Value.int .u32))
 wid:Own1 B 3 w vw (ws.map (Value.int .i64))
 ge:B<=Bg
def exO (Bg:Nat)(vp vw:Value)(k:Nat):Prop:=k=Bg\/vp.ownBlock=some k\/vw.ownBlock=some k
theorem di (h:Own1 B e w v xs)(hk:v.ownBlock=some k):B<=k/\k<w.heap.size/\∃cur,w.heap[k]?=some (.cells cur e (0,0)):=by
 rcases h.2 with ⟨rfl,_⟩|⟨g,j,cur,rfl,l,d,_⟩
 ·simp[Value.ownBlock]at hk
 ·simp[Value.ownBlock]at hk;subst hk;exact⟨l,cY d,cur,d⟩
theorem dm (h:Own1 B e w v xs)(hw:∀k,v.ownBlock=some k->w'.heap[k]?=w.heap[k]?):Own1 B e w' v xs:=by
 obtain⟨l,j⟩:=h;refine⟨l,?_⟩;rcases j with j|⟨k,d,g,hv,m,p,r⟩
 ·exact .inl j
 ·exact .inr ⟨k,d,g,hv,m,(hw k (by rw[hv];rfl)).trans p,r⟩
theorem ExAt.frs {p:List Int}(h:ExAt B Bg w p ws u vp vw)(hF:FrS S w w')(hS:∀k,exO Bg vp vw k->¬S k):ExAt B Bg w' p ws u vp vw where
 st:=(hF.block Bg (cY h.st) (hS Bg (.inl rfl))).trans h.st
 pth:=dm h.pth fun k d=>hF.block k (di h.pth d).2.1 (hS k (.inr (.inl d)))
 wid:=dm h.wid fun k d=>hF.block k (di h.wid d).2.1 (hS k (.inr (.inr d)))
 ge:=h.ge
theorem ExAt.used {p:List Int}(h:ExAt B Bg w p ws u vp vw)(n:Nat):ExAt B Bg (w.setCell ⟨Bg,2,none⟩ (.int .i64 n)) p ws n vp vw where
 st:=cX (i:=2) (.int .i64 n) h.st
 pth:=dm h.pth fun k d=>yy _ _ _ _ (by obtain⟨-,-,cur,q⟩:=di h.pth d;exact de q h.st (by decide))
 wid:=dm h.wid fun k d=>yy _ _ _ _ (by obtain⟨-,-,cur,q⟩:=di h.wid d;exact de q h.st (by decide))
 ge:=h.ge
theorem fs (h:Own1 B e w v xs)(hx:xs[j]?=some x):∃b c,v=.slice (some ⟨b,0,none⟩) xs.length c/\xs.length<=c/\c<=17592186044416000000/\w.cell? ⟨b,j,none⟩=some x/\w.frozen? ⟨b,j,none⟩=false/\b<w.heap.size:=by
 have z:=(xS.1 hx).1;rcases h.2 with ⟨rfl,t⟩|⟨g,d,m,rfl,y,l,p,q,u,r⟩
 ·omega
 ·refine⟨g,d,rfl,p,by unfold maxLen at q;omega,?_,yp _ _ _ _ _ l,cY l⟩;rw[yo _ _ _ _ _ _ l,<-hx,<-r];rw[yf,yr (by omega)];simp
theorem mM {p:List Int}(h:ExAt B Bg w p ws u vp vw)(hu:u<p.length)(hp:p.length<=1000000)(n:Int) :
  Calls prog 263 #[.pointer (some ⟨Bg,0,none⟩),.int .i64 n] w fun e w'=>e=.returned (.int .u32 (p.getD u 0))/\ExAt B Bg w' p ws (u+1) vp vw/\FrS (fun k=>k=Bg) w w':=by
 obtain⟨z,l⟩:∃z,p[u]?=some z:=⟨_,xR hu⟩;obtain⟨b,c,rfl,A,C,t,-,I⟩:=fs h.pth (j:=u) (x:=.int .u32 z) (by rw[yc,l];rfl);rw[yl]at A
 have g:b≠Bg:=by obtain⟨-,-,r,q⟩:=di h.pth (k:=b) rfl;exact de q h.st (by decide)
 have E:w.cell? ⟨Bg,0,none⟩=some (.slice (some ⟨b,0,none⟩) p.length c):=by have:=yo _ _ 0 _ _ _ h.st;rw[this];simp
 have F:w.cell? ⟨Bg,2,none⟩=some (.int .i64 u):=yo _ _ 2 _ _ _ h.st;have H:w.frozen? ⟨Bg,2,none⟩=false:=yp _ _ 2 _ _ h.st
 have d:Hid (∀k,ExAt B Bg ((w.drewN k).setCell ⟨Bg,2,none⟩ (.int .i64 ((u:Int)+1))) p ws (u+1) (.slice (some ⟨b,0,none⟩) (p.map (Value.int .u32)).length c) vw/\FrS (fun k=>k=Bg) w ((w.drewN k).setCell ⟨Bg,2,none⟩ (.int .i64 ((u:Int)+1)))):=fun k=>by have y:=h.frs (FrS.of_gr (S:=fun _=>False) ((yO w).drewN k)) (fun _ _ q=>q);exact⟨y.used (u+1),((FrS.refl (fun k=>k=Bg) w).drewN k).setCell (p:=⟨Bg,2,none⟩) rfl _⟩
 have D:(u:Int)≠(p.length:Int):=by omega
 have G:∀k v,((w.drewN k).setCell ⟨Bg,2,none⟩ v).cell? ⟨b,u,none⟩=some (.int .u32 z):=fun k v=>(World.cell?_setCell_far _ ⟨Bg,2,none⟩ ⟨b,u,none⟩ v (by exact fun q=>g q.symm)).trans t;have m:Hid (z=p.getD u 0):=by show _=_;rw[xU,l];rfl
 clear h l
 go_enter func263, ntmps263
 go_wp2;go_quiet ((fail));all_goals go_wp2
 all_goals go_quiet ((fail))
 all_goals go_wp2
 all_goals go_ret
 all_goals exact⟨dg m.out,(d.out _).1.frs (FrS.of_gr (S:=fun _=>False) ((yO _).drewN _)) (fun _ _ q=>q),(d.out _).2.drewN _⟩
theorem kZ {o:Oper}{a:Act}{n:Nat}{i:TypeInfo}{z:Value}
  (ht:P.underlying t=some (.slice e)) (hi:P.info? e=some i) (hz:i.zero=some z) (hsize:i.size=1) (hby:i.bytes=bytes) (hzs:z.cells.size=1) (hbb:bytes<=128)
  (hgd:o.guard=none) (s x:Operand) (ho:o.op=.call {callee:=.builtin .append,args:=#[s,x],argTypes:=#[t,t]})
    (hn:xs.length=n) (hs:a.eval s=v) (hown:Own1 B e w v xs)   (hy:y.oneCell'=true) (hx:a.eval x=.slice (some ⟨w.heap.size,0,none⟩) 1 1) (hlt:n<1099511627776) (hB:B<=w.heap.size)
  (h:∀A c w',Own1 B e w' (.slice A (n+1) c) (xs++[y])->(w.alloc (.cells #[y] e')).grownBy w' v.ownBlock->(∀k,(Value.slice A (n+1) c).ownBlock=some k->v.ownBlock=some k\/w.heap.size<=k)->wpList P ops Q rest (a.put o.dst (.slice A (n+1) c)) w') :
  wpList P ops Q (o::rest) a (w.alloc (.cells #[y] e')):=by
 subst hn;refine dF hgd s x t ho B e i z 1 bytes ht hi hz hsize hby hzs (by omega) v xs.length xs hs (ec hown ((yO _).alloc _)) _ 1 [y] hx (yP _ _ _) ?_ ?_ ?_ ?_ ?_
 ·intro u m;simp at m;subst m;exact hy
 ·simp only[maxLen];omega
 ·have:(xs.length+1)*bytes<=(xs.length+1)*128:=Nat.mul_le_mul_left _ hbb;omega
 ·simp;omega
 ·intro C w' g p l;have d:Own1 B e w' C (xs++[y]):=by unfold Own1;rw[yK];exact g
  obtain⟨A,c,hv⟩:=d.form;rw[yK]at hv;subst hv;refine h A c w' d p fun k j=>?_;rcases l with q|q
  ·exact .inl (q ▸ j)
  ·have r:(Value.slice A (xs.length+1) c).ownBlock=some (w.alloc (.cells #[y] e')).heap.size:=q;rw[r]at j;injection j with j;right;rw[<-j];simp
section
variable {B Bg:Nat}{W w2:World}{p ws:List Int}{u:Nat}{vp vw v':Value}{tmp:Obj}
theorem ExAt.pushP (h:ExAt B Bg W p ws u vp vw)(hg:(W.alloc tmp).grownBy w2 vp.ownBlock)(ho:Own1 B 22 w2 v' (p.map (Value.int .u32)++[.int .u32 z]))(hat:∀k,v'.ownBlock=some k->vp.ownBlock=some k\/W.heap.size<=k) :
  w2.heap[Bg]?=some (.cells #[vp,vw,.int .i64 u] 101 (0,0))/\ExAt B Bg (w2.setCell ⟨Bg,0,none⟩ v') (p++[z]) ws u v' vw/\FrS (exO Bg vp vw) W (w2.setCell ⟨Bg,0,none⟩ v')/\∀k,exO Bg v' vw k->exO Bg vp vw k\/W.heap.size<=k:=by
 have m:FrS (exO Bg vp vw) W w2:=((FrS.refl _ W).alloc tmp).grown hg (fun k d=>.inl (.inr (.inl d)))
 have t:∀{k:Nat},vp.ownBlock=some k->k≠Bg:=fun d=>by obtain⟨-,-,j,q⟩:=di h.pth d;exact de q h.st (by decide)
 have l:∀{k:Nat},vw.ownBlock=some k->k≠Bg/\vp.ownBlock≠some k:=fun d=>by obtain⟨-,-,j,q⟩:=di h.wid d;refine⟨de q h.st (by decide),fun e=>?_⟩;obtain⟨-,-,y,A⟩:=di h.pth e;exact de q A (by decide) rfl
 have keep:∀k,k<W.heap.size->vp.ownBlock≠some k->w2.heap[k]?=W.heap[k]?:=fun k d hn=>(hg.block k (by simp;omega) (fun e=>hn e.symm)).trans (((yO W).alloc tmp).heap k d);have g:w2.heap[Bg]?=some (.cells #[vp,vw,.int .i64 u] 101 (0,0)):=(keep Bg (cY h.st) (fun e=>t e rfl)).trans h.st
 have r:∀{k:Nat},v'.ownBlock=some k->k≠Bg:=fun d=>by obtain⟨-,-,j,q⟩:=di ho d;exact de q g (by decide)
 refine⟨g,⟨cX (i:=0) v' g,?_,?_,h.ge⟩,m.setCell (p:=⟨Bg,0,none⟩) (.inl rfl) _,fun k d=>?_⟩
 ·rw[List.map_append];exact dm ho fun k d=>yy _ _ _ _ (r d)
 ·exact dm h.wid fun k d=>(yy _ _ _ _ (l d).1).trans (keep k (di h.wid d).2.1 (l d).2)
 ·rcases d with d|d|d
  ·exact .inl (.inl d)
  ·exact(hat k d).elim (fun q=>.inl (.inr (.inl q))) .inr
  ·exact .inl (.inr (.inr d))
theorem ExAt.pushW (h:ExAt B Bg W p ws u vp vw)(hg:(W.alloc tmp).grownBy w2 vw.ownBlock)(ho:Own1 B 3 w2 v' (ws.map (Value.int .i64)++[.int .i64 z]))(hat:∀k,v'.ownBlock=some k->vw.ownBlock=some k\/W.heap.size<=k) :
  w2.heap[Bg]?=some (.cells #[vp,vw,.int .i64 u] 101 (0,0))/\ExAt B Bg (w2.setCell ⟨Bg,1,none⟩ v') p (ws++[z]) u vp v'/\FrS (exO Bg vp vw) W (w2.setCell ⟨Bg,1,none⟩ v')/\∀k,exO Bg vp v' k->exO Bg vp vw k\/W.heap.size<=k:=by
 have m:FrS (exO Bg vp vw) W w2:=((FrS.refl _ W).alloc tmp).grown hg (fun k d=>.inl (.inr (.inr d)))
 have t:∀{k:Nat},vw.ownBlock=some k->k≠Bg:=fun d=>by obtain⟨-,-,j,q⟩:=di h.wid d;exact de q h.st (by decide)
 have l:∀{k:Nat},vp.ownBlock=some k->k≠Bg/\vw.ownBlock≠some k:=fun d=>by obtain⟨-,-,j,q⟩:=di h.pth d;refine⟨de q h.st (by decide),fun e=>?_⟩;obtain⟨-,-,y,A⟩:=di h.wid e;exact de q A (by decide) rfl
 have keep:∀k,k<W.heap.size->vw.ownBlock≠some k->w2.heap[k]?=W.heap[k]?:=fun k d hn=>(hg.block k (by simp;omega) (fun e=>hn e.symm)).trans (((yO W).alloc tmp).heap k d);have g:w2.heap[Bg]?=some (.cells #[vp,vw,.int .i64 u] 101 (0,0)):=(keep Bg (cY h.st) (fun e=>t e rfl)).trans h.st
 have r:∀{k:Nat},v'.ownBlock=some k->k≠Bg:=fun d=>by obtain⟨-,-,j,q⟩:=di ho d;exact de q g (by decide)
 refine⟨g,⟨cX (i:=1) v' g,?_,?_,h.ge⟩,m.setCell (p:=⟨Bg,1,none⟩) (.inl rfl) _,fun k d=>?_⟩
 ·exact dm h.pth fun k d=>(yy _ _ _ _ (l d).1).trans (keep k (di h.pth d).2.1 (l d).2)
 ·rw[List.map_append];exact dm ho fun k d=>yy _ _ _ _ (r d)
 ·rcases d with d|d|d
  ·exact .inl (.inl d)
  ·exact .inl (.inr (.inl d))
  ·exact(hat k d).elim (fun q=>.inl (.inr (.inr q))) .inr
end
theorem lB {p:List Int}(h:ExAt B Bg w p ws p.length vp vw)(hl:ws.length=p.length)(hp:p.length<=1000000)(n:Int) :
  Calls prog 263 #[.pointer (some ⟨Bg,0,none⟩),.int .i64 n] w fun e w'=>e=.returned (.int .u32 0)/\∃vp' vw',ExAt B Bg w' (p++[0]) (ws++[n]) (p.length+1) vp' vw'/\FrS (exO Bg vp vw) w w'/\∀k,exO Bg vp' vw' k->exO Bg vp vw k\/w.heap.size<=k:=by
 obtain⟨iu,ad,ae,af,ag⟩:=info_parts kC;obtain⟨i0,hi,ah,ai,aj⟩:=info_parts dK;obtain⟨A,c,rfl⟩:=h.pth.form;obtain⟨C,D,rfl⟩:=h.wid.form;rw[yl]at h;rw[yl]at h;rw[yl,yl];have c0:w.cell? ⟨Bg,0,none⟩=some (.slice A p.length c):=yo _ _ 0 _ _ _ h.st;have G:w.cell? ⟨Bg,2,none⟩=some (.int .i64 p.length):=yo _ _ 2 _ _ _ h.st;have HH:=dJ h;have HB:Hid (B<=w.heap.size):=by show _<=_;have:=h.ge;have:=cY h.st;omega
 have HL:=dJ hl;have al:ws.length<=1000000:=by omega
 clear h hl
 go_enter func263, ntmps263
 go_wp2;go_quiet ((fail));obtain⟨X,u⟩:=xJ (w.drewN nq);have g1:Gr w X:=by rw[<-u];exact(yO w).drewN _
 have T:=HH.out.frs (FrS.of_gr (S:=fun _=>False) g1) (fun _ _ q=>q);have H1:=dJ T;have Q:=dJ g1;have d0:X.cell? ⟨Bg,0,none⟩=some (.slice A p.length c):=yo _ _ 0 _ _ _ T.st;have z0:X.frozen? ⟨Bg,0,none⟩=false:=yp _ _ 0 _ _ T.st;rw[u];clear u T g1
 go_wp2_with (first
   | (at_builtin;refine kZ (n:=p.length) (v:=.slice A p.length c) underlying39 ad ae af ag rfl (by omega) rfl (.tmp 19) (.tmp 20) rfl (yl _) rfl H1.out.pth rfl rfl (by omega) (by have:=HB.out;have:=Q.out.size;omega) ?_;intro A2 G w2 L J m;
       obtain⟨y,d,z,N⟩:=H1.out.pushP J L m;have am:w2.cell? ⟨Bg,0,none⟩=some (.slice A p.length c):=yo _ _ 0 _ _ _ y;have y0:w2.frozen? ⟨Bg,0,none⟩=false:=yp _ _ 0 _ _ y;
       obtain⟨W3,ab⟩:=xJ (w2.setCell ⟨Bg,0,none⟩ (.slice A2 (p.length+1) G));rw[ab]at d z;have H3:=dJ d;have U:=dJ z;have W:=dJ N;
       have e1:W3.cell? ⟨Bg,1,none⟩=some (.slice C ws.length D):=(yo _ _ 1 _ _ _ d.st);have e2:W3.frozen? ⟨Bg,1,none⟩=false:=(yp _ _ 1 _ _ d.st);clear y d z N L J m)
   | (at_builtin;refine kZ (n:=ws.length) (v:=.slice C ws.length D) underlying33 hi ah ai aj rfl (by omega) rfl (.tmp 28) (.tmp 30) rfl (yl _) rfl H3.out.wid rfl rfl (by omega) (by have:=HB.out;have:=Q.out.size;have:=U.out.size;omega) ?_;intro A4 c4 w4 M K r;
       obtain⟨y,d,z,N⟩:=H3.out.pushW K M r;have an:w4.cell? ⟨Bg,1,none⟩=some (.slice C ws.length D):=yo _ _ 1 _ _ _ y;have y1:w4.frozen? ⟨Bg,1,none⟩=false:=yp _ _ 1 _ _ y;
       obtain⟨F,ac⟩:=xJ (w4.setCell ⟨Bg,1,none⟩ (.slice A4 (ws.length+1) c4));rw[ac]at d z;have H5:=dJ d;have F5:=dJ z;have O5:=dJ N;
       have e3:F.cell? ⟨Bg,2,none⟩=some (.int .i64 p.length):=(yo _ _ 2 _ _ _ d.st);have e4:F.frozen? ⟨Bg,2,none⟩=false:=(yp _ _ 2 _ _ d.st);clear y d z N M K r))
 obtain⟨R,g⟩:=xJ (F.setCell ⟨Bg,2,none⟩ (.int .i64 ((p.length:Int)+1)));have t:=H5.out.used (p.length+1);rw[show ((p.length+1:Nat):Int)=(p.length:Int)+1 from rfl,g]at t;have I:FrS (exO Bg (.slice A2 (p.length+1) G) (.slice A4 (ws.length+1) c4)) F R:=by rw[<-g];exact(FrS.refl _ F).setCell (p:=⟨Bg,2,none⟩) (.inl rfl) _
 obtain⟨b,cc,ev,-,-,q1,-,-⟩:=fs t.pth (j:=p.length) (x:=.int .u32 0) (by rw[yc,ye (yJ _)];simp);injection ev with Y Z aa;subst Y;have d1:R.cell? ⟨Bg,0,none⟩=some (.slice (some ⟨b,0,none⟩) (p.length+1) G):=yo _ _ 0 _ _ _ t.st;have d2:R.cell? ⟨Bg,2,none⟩=some (.int .i64 ((p.length:Int)+1)):=yo _ _ 2 _ _ _ t.st
 have ak:p.length+1<=G:=by obtain⟨_,_,ee,hh,_⟩:=dE t.pth;injection ee with _ e1 e2;simp at e1;omega
 have E:Hid (∀O,Gr R O->∃vp' vw',ExAt B Bg O (p++[0]) (ws++[n]) (p.length+1) vp' vw'/\FrS (exO Bg (.slice A p.length c) (.slice C ws.length D)) w O/\∀k,exO Bg vp' vw' k->exO Bg (.slice A p.length c) (.slice C ws.length D) k\/w.heap.size<=k):=fun O g9=>by
  have s1:=Q.out.size;have s3:=U.out.size;have s5:=F5.out.size;refine⟨_,_,t.frs (FrS.of_gr (S:=fun _=>False) g9) (fun _ _ q=>q),?_,?_⟩
  ·have H:FrS (fun k=>exO Bg (.slice A p.length c) (.slice C ws.length D) k\/w.heap.size<=k) w O :=
    ((((FrS.of_gr Q.out).trans (U.out.mono fun k l=>.inl l)).trans (F5.out.mono fun k l=>(W.out k l).imp (fun q=>q) (fun q=>by omega))).trans
      (I.mono fun k l=>(O5.out k l).elim (fun q=>(W.out k q).imp (fun q=>q) (fun q=>by omega)) (fun q=>.inr (by omega)))).trans (FrS.of_gr g9)
   exact⟨H.os,H.tape,H.output,H.size,fun k l hn=>H.block k l (fun q=>q.elim hn (fun q=>by omega))⟩
  ·intro k l;rcases O5.out k l with q|q
   ·exact(W.out k q).imp (fun q=>q) (fun q=>by omega)
   ·exact .inr (by omega)
 rw[g];clear g t I Z aa;go_quiet ((fail));all_goals go_wp2
 all_goals go_ret
 all_goals exact⟨rfl,E.out _ ((yO _).drewN _)⟩
end
