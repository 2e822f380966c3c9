/- Parts. -/
import Derived.Test.YtjkajidbdmbbaaaGreatI27
set_option linter.unusedSimpArgs false
set_option linter.unusedVariables false
set_option maxRecDepth 100000
set_option maxHeartbeats 16000000
open Go.Proofs.Tryz
namespace Go.Proofs.YtjkajidbdmbbaaaGreat
section
open Go.RowKit Go.Maps
open Ops
theorem fO {o:Int}(W G:Nat)(n a b:Int)(ho:1<=o/\o<=3)(hn:Wd.Wid n)(ha:Wd.Word n a)(hb:Wd.Word n b)(hv:∀B,opV o B=.agg #[boxV 246 B,fnV W,.nilFunc])(hg:boxOf o=G)(w1:World) :
  Calls prog 207 #[.int .i64 o,.int .i64 n,.int .u32 a,.int .u32 b] w1 fun e w'=>∃B,e=.returned (.tuple #[.agg #[boxV 246 B,fnV W,.nilFunc],.bool true])/\(B<w'.heap.size/\w'.cell? ⟨B,0,none⟩=some (fnV G))/\Gr w1 w':=by
 refine(asked_any o n a b w1 (by omega) hn ha hb).mono ?_;rintro e w' ⟨v,rfl,⟨B,rfl,d⟩,g⟩;refine⟨B,by rw[hv],?_,g⟩;have:=d (.inl ho.2)
 rwa [hg]at this
theorem fh {o:Int}(G:Nat)(n a b:Int)(ho:8<=o/\o<=10)(hn:Wd.Wid n)(ha:Wd.Word n a)(hb:Wd.Word n b)(hv:∀B,opV o B=.agg #[boxV 247 B,.nilFunc,.nilFunc])(hg:boxOf o=G)(w1:World) :
  Calls prog 207 #[.int .i64 o,.int .i64 n,.int .u32 a,.int .u32 b] w1 fun e w'=>∃B,e=.returned (.tuple #[.agg #[boxV 247 B,.nilFunc,.nilFunc],.bool true])/\(B<w'.heap.size/\w'.cell? ⟨B,0,none⟩=some (fnV G))/\Gr w1 w':=by
 refine(asked_any o n a b w1 (by omega) hn ha hb).mono ?_;rintro e w' ⟨v,rfl,⟨B,rfl,d⟩,g⟩;refine⟨B,by rw[hv],?_,g⟩;have:=d (by unfold boxed;omega)
 rwa [hg]at this
theorem eN {o:Int}(v:Value)(n a b:Int)(ho:1<=o/\o<=13)(hn:Wd.Wid n)(ha:Wd.Word n a)(hb:Wd.Word n b)(hv:∀B,opV o B=v)(w1:World) :
  Calls prog 207 #[.int .i64 o,.int .i64 n,.int .u32 a,.int .u32 b] w1 (RG (.tuple #[v,.bool true]) w1):=by
 refine(asked_any o n a b w1 ho hn ha hb).mono ?_;rintro e w' ⟨_,rfl,⟨B,rfl,-⟩,g⟩;exact⟨by rw[hv],g⟩
theorem fX {o n a b:Int}{w w':World}{e:Ending}(h:DoPost o n a b w e w'):(∃y,e=.returned (.tuple #[.int .u32 y,.bool (Wd.op o n a b).isSome]))/\Gr w w':=⟨h.1.imp fun z h=>h.1,h.2⟩
theorem lC {o n a b:Int}(ho:o=12\/o=13)(hn:Wd.Wid n)(h:(Wd.op o n a b).isSome=true):b<32:=by have:=hn.2;rcases ho with rfl|rfl<;>(simp[Wd.op]at h;omega)
theorem jZ (o fl n a b:Int)(w:World)(ho:1<=o/\o<=13)(hf:0<=fl/\fl<=7)(hn:Wd.Wid n)(ha:Wd.Word n a)(hb:Wd.Word n b):Calls prog 191 #[.int .i64 o,.int .i64 fl,.int .i64 n,.int .u32 a,.int .u32 b] w (RG (.tuple #[.bool (Wd.broken o fl n a b),.int .i64 0]) w):=by
 have l:=words hn ha;have m:=words hn hb;have p:=sg_bd hn ha;have r:=sg_bd hn hb;have g:∀o,Wd.op o n a b=some (((Wd.op o n a b)).getD 0)->Wd.broken o fl n a b=Wd.brk o fl n a b:=fun o h=>by unfold Wd.broken;rw[h];rfl
 rcases (by omega:o=1\/o=2\/o=3\/o=4\/o=5\/o=6\/o=7\/o=8\/o=9\/o=10\/o=11\/o=12\/o=13) with rfl|rfl|rfl|rfl|rfl|rfl|rfl|rfl|rfl|rfl|rfl|rfl|rfl
 ·exact brkW 1 220 221 (enters_of func220 (by kernel_rfl) rfl) fl n a b _ _ w hf hn ha hb (by decide) (dJ fun d=>fO _ _ n a b (by decide) hn ha hb (fun B=>rfl) rfl d)
   (dJ fun B d j=>(dofn1 n a b B d hn ha hb j).mono fun e w' h=>fX h) (dJ fun d=>nW a b d ⟨by omega,by omega⟩ ⟨by omega,by omega⟩) (dJ fun d=>nW _ _ d ⟨by omega,by omega⟩ ⟨by omega,by omega⟩) (dJ ((g 1 rfl).trans (brk1_eq fl hn ha hb)))
 ·exact brkW 2 222 223 (enters_of func222 (by kernel_rfl) rfl) fl n a b _ _ w hf hn ha hb (by decide) (dJ fun d=>fO _ _ n a b (by decide) hn ha hb (fun B=>rfl) rfl d)
   (dJ fun B d j=>(dofn2 n a b B d hn ha hb j).mono fun e w' h=>fX h) (dJ fun d=>nX a b d ⟨by omega,by omega⟩ ⟨by omega,by omega⟩) (dJ fun d=>nX _ _ d ⟨by omega,by omega⟩ ⟨by omega,by omega⟩) (dJ ((g 2 rfl).trans (brk2_eq fl hn ha hb)))
 ·exact brkW 3 224 226 (enters_of func224 (by kernel_rfl) rfl) fl n a b _ _ w hf hn ha hb (by decide) (dJ fun d=>fO _ _ n a b (by decide) hn ha hb (fun B=>rfl) rfl d)
   (dJ fun B d j=>(dofn3 n a b B d hn ha hb j).mono fun e w' h=>fX h) (dJ fun d=>nY a b d ⟨by omega,by omega⟩ ⟨by omega,by omega⟩) (dJ fun d=>nY _ _ d ⟨by omega,by omega⟩ ⟨by omega,by omega⟩) (dJ ((g 3 rfl).trans (brk3_eq fl hn ha hb)))
 ·exact brkF 4 227 228 (enters_of func227 (by kernel_rfl) rfl) (enters_of func228 (by kernel_rfl) rfl) true (Wd.op 4 n a b).isSome (decide (a%b≠0)) fl n a b w hf (dJ fun d=>eN _ n a b ho hn ha hb (fun B=>rfl) d)
   (dJ fun d=>(dofn4 n a b 0 d hn ha hb).mono fun e w' h=>fX h) (dJ fun _ hs d=>(rj n a b d l ⟨by simp[Wd.op]at hs;have:=hb.1;omega,m.2⟩).mono fun _ _ h=>⟨h.1,h.2 ▸ tX _⟩) (dJ rfl)
 ·exact brkF 5 229 229 (enters_of func229 (by kernel_rfl) rfl) (enters_of func229 (by kernel_rfl) rfl) false (Wd.op 5 n a b).isSome false fl n a b w hf (dJ fun d=>eN _ n a b ho hn ha hb (fun B=>rfl) d)
   (dJ fun d=>(dofn5 n a b 0 d hn ha hb).mono fun e w' h=>fX h) (dJ fun q=>by cases q) (dJ rfl)
 ·exact brkF 6 230 232 (enters_of func230 (by kernel_rfl) rfl) (enters_of func232 (by kernel_rfl) rfl) true (Wd.op 6 n a b).isSome (decide ((Wd.sg n a).tmod (Wd.sg n b)≠0)) fl n a b w hf (dJ fun d=>eN _ n a b ho hn ha hb (fun B=>rfl) d)
   (dJ fun d=>(dofn6 n a b 0 d hn ha hb).mono fun e w' h=>fX h) (dJ fun _ hs d=>pJ n a b d hn ha hb (fun q=>by rw[show Wd.op 6 n a b=if b=0\/(Wd.sg n a=-Wd.sz (n-1)/\Wd.sg n b=-1) then none else some ((Wd.sg n a).tdiv (Wd.sg n b)%Wd.sz n) from rfl,tB (show b=0\/_ from q)]at hs;cases hs)) (dJ rfl)
 ·exact brkF 7 233 233 (enters_of func233 (by kernel_rfl) rfl) (enters_of func233 (by kernel_rfl) rfl) false (Wd.op 7 n a b).isSome false fl n a b w hf (dJ fun d=>eN _ n a b ho hn ha hb (fun B=>rfl) d)
   (dJ fun d=>(dofn7 n a b 0 d hn ha hb).mono fun e w' h=>fX h) (dJ fun q=>by cases q) (dJ rfl)
 ·exact brkP 8 235 fl n a b w hf (dJ fun d=>fh _ n a b (by decide) hn ha hb (fun B=>rfl) rfl d) (dJ fun B d j=>(dofn8 n a b B d hn ha hb j).mono fun e w' h=>fX h) (dJ (g 8 rfl))
 ·exact brkP 9 236 fl n a b w hf (dJ fun d=>fh _ n a b (by decide) hn ha hb (fun B=>rfl) rfl d) (dJ fun B d j=>(dofn9 n a b B d hn ha hb j).mono fun e w' h=>fX h) (dJ (g 9 rfl))
 ·exact brkP 10 237 fl n a b w hf (dJ fun d=>fh _ n a b (by decide) hn ha hb (fun B=>rfl) rfl d) (dJ fun B d j=>(dofn10 n a b B d hn ha hb j).mono fun e w' h=>fX h) (dJ (g 10 rfl))
 ·exact brk11 fl n a b w hf hn ha hb
 ·exact brkF 12 240 241 (enters_of func240 (by kernel_rfl) rfl) (enters_of func241 (by kernel_rfl) rfl) true (Wd.op 12 n a b).isSome (decide (a%2 ^ b.toNat≠0)) fl n a b w hf (dJ fun d=>eN _ n a b ho hn ha hb (fun B=>rfl) d)
   (dJ fun d=>(dofn12 n a b 0 d hn ha hb).mono fun e w' h=>fX h) (dJ fun _ hs d=>(pQ n a b d l ⟨hb.1,lC (.inl rfl) hn hs⟩).mono fun _ _ h=>⟨h.1,h.2 ▸ tX _⟩) (dJ rfl)
 ·exact brkF 13 242 244 (enters_of func242 (by kernel_rfl) rfl) (enters_of func244 (by kernel_rfl) rfl) true (Wd.op 13 n a b).isSome (decide (a%2 ^ b.toNat≠0)) fl n a b w hf (dJ fun d=>eN _ n a b ho hn ha hb (fun B=>rfl) d)
   (dJ fun d=>(dofn13 n a b 0 d hn ha hb).mono fun e w' h=>fX h) (dJ fun _ hs d=>(pS n a b d l ⟨hb.1,lC (.inr rfl) hn hs⟩).mono fun _ _ h=>⟨h.1,h.2 ▸ tX _⟩) (dJ rfl)
end
section
open Go.RowKit
abbrev AF (k:Nat)(x:Ins)(ap bp:Bool)(an bn:Int)(w:World):Prop :=
 w.cell? ⟨k,0,none⟩=some (.int .i64 x.op)/\w.cell? ⟨k,1,none⟩=some (.int .i64 x.width)/\w.cell? ⟨k,2,none⟩=some (.int .i64 x.flags)/\w.cell? ⟨k+1,0,none⟩=some (.bool ap)/\w.cell? ⟨k+1,2,none⟩=some (.int .u32 an)/\w.cell? ⟨k+2,0,none⟩=some (.bool bp)/\w.cell? ⟨k+2,2,none⟩=some (.int .u32 bn)
theorem AF.gr {k:Nat}{x:Ins}{ap bp:Bool}{an bn:Int}{w w':World}(h:AF k x ap bp an bn w)(hk:k+2<w.heap.size)(g:Gr w w'):AF k x ap bp an bn w':=by obtain⟨d,j,l,m,p,q,r⟩:=h;exact⟨(g.cell _ _ (by omega)).trans d,(g.cell _ _ (by omega)).trans j,(g.cell _ _ (by omega)).trans l,(g.cell _ _ (by omega)).trans m,(g.cell _ _ (by omega)).trans p,(g.cell _ _ (by omega)).trans q,(g.cell _ _ (by omega)).trans r⟩
theorem mU (w:World)(c d e:Obj):(((w.alloc c).alloc d).alloc e).heap.size=w.heap.size+3:=by show (((w.heap.push c).push d).push e).size=_;simp
theorem AF.boxes (w:World)(x:Ins)(va vt:Value)(a b:Rn.V)(t u:TypeId):AF w.heap.size x a.p b.p a.n b.n (((w.alloc (.cells #[.int .i64 x.op,.int .i64 x.width,.int .i64 x.flags,va,.int .u32 x.imm,vt] t)).alloc (.cells #[.bool a.p,.int .i64 a.s,.int .u32 a.n] u)).alloc (.cells #[.bool b.p,.int .i64 b.s,.int .u32 b.n] u)):=by have d:=((tX (w.alloc (.cells #[.int .i64 x.op,.int .i64 x.width,.int .i64 x.flags,va,.int .u32 x.imm,vt] t))).alloc (.cells #[.bool a.p,.int .i64 a.s,.int .u32 a.n] u)).alloc (.cells #[.bool b.p,.int .i64 b.s,.int .u32 b.n] u);have g:=(tX ((w.alloc (.cells #[.int .i64 x.op,.int .i64 x.width,.int .i64 x.flags,va,.int .u32 x.imm,vt] t)).alloc (.cells #[.bool a.p,.int .i64 a.s,.int .u32 a.n] u))).alloc (.cells #[.bool b.p,.int .i64 b.s,.int .u32 b.n] u);exact⟨da _ _ 0 d rfl,da _ _ 1 d rfl,da _ _ 2 d rfl,da _ _ 0 g (by simp),da _ _ 2 g (by simp),da _ _ 0 (tX _) (by simp),da _ _ 2 (tX _) (by simp)⟩
theorem qa {n:Int}(hn:Wd.Wid n):Wd.sg n (Wd.sz (n-1))=-Wd.sz (n-1):=by unfold Wd.sg;rw[tB (Int.le_refl _),Wd.sz_half hn];omega
theorem mo {n:Int}(hn:Wd.Wid n):Wd.Word n (Wd.sz (n-1)):=⟨Int.le_of_lt (Wd.sz_pos _),by rw[Wd.sz_half hn];have:=Wd.sz_pos (n-1);omega⟩
theorem lv {o n a b:Int}(ho:4<=o/\o<=7):Wd.op o n a b=none↔(b=0\/(o=6\/o=7)/\Wd.sg n b=-1/\Wd.sg n a=-Wd.sz (n-1)):=by
 rcases (by omega:o=4\/o=5\/o=6\/o=7) with rfl|rfl|rfl|rfl
 ·show (if b=0 then none else some (a / b))=none↔_;split<;>simp_all
 ·show (if b=0 then none else some (a%b))=none↔_;split<;>simp_all
 ·show (if b=0\/(Wd.sg n a=-Wd.sz (n-1)/\Wd.sg n b=-1) then none else some ((Wd.sg n a).tdiv (Wd.sg n b)%Wd.sz n))=none↔_;split;next h=>simp only[true_iff];rcases h with h|h;exact .inl h;exact .inr ⟨by simp,h.2,h.1⟩
  next h=>simp only[reduceCtorEq,false_iff];intro q;apply h;rcases q with q|q;exact .inl q;exact .inr ⟨q.2.2,q.2.1⟩
 ·show (if b=0\/(Wd.sg n a=-Wd.sz (n-1)/\Wd.sg n b=-1) then none else some ((Wd.sg n a).tmod (Wd.sg n b)%Wd.sz n))=none↔_;split;next h=>simp only[true_iff];rcases h with h|h;exact .inl h;exact .inr ⟨by simp,h.2,h.1⟩
  next h=>simp only[reduceCtorEq,false_iff];intro q;apply h;rcases q with q|q;exact .inl q;exact .inr ⟨q.2.2,q.2.1⟩
def ec (o fl n:Int)(a b:Rn.V):Value:=match Rn.arith o fl n a b with|none=>mY|some v=>vI v
theorem fI {o fl n:Int}{a b:Rn.V}(ho:4<=o/\o<=7)(h:b.p=true\/b.n=0):ec o fl n a b=mY:=by unfold ec Rn.arith;rw[tB ⟨ho,.inl h⟩]
theorem lO {o fl n:Int}{a b:Rn.V}(ho:4<=o/\o<=7)(hn:Wd.Wid n)(ha:a.p=true)(h:Wd.op o n (Wd.sz (n-1)) b.n=none):ec o fl n a b=mY:=by
 rcases (lv ho).1 h with h|h
 ·exact fI ho (.inr h)
 ·unfold ec Rn.arith;rw[tB ⟨ho,.inr ⟨h.1,h.2.1,.inl ha⟩⟩]
theorem lP {o fl n:Int}{a b:Rn.V}(ho:4<=o/\o<=7)(h:Wd.op o n a.n b.n=none):ec o fl n a b=mY:=by
 rcases (lv ho).1 h with h|h
 ·exact fI ho (.inr h)
 ·unfold ec Rn.arith;rw[tB ⟨ho,.inr ⟨h.1,h.2.1,.inr h.2.2⟩⟩]
theorem lQ {o fl n:Int}{a b:Rn.V}(h0:¬((4<=o/\o<=7)/\((b.p=true\/b.n=0)\/(o=6\/o=7)/\Wd.sg n b.n=-1/\(a.p=true\/Wd.sg n a.n=-Wd.sz (n-1)))))(h:a.p=true\/b.p=true):ec o fl n a b=vI Rn.poison:=by unfold ec Rn.arith;rw[tC h0,tB h]
theorem nn {o fl n:Int}{a b:Rn.V}(h0:(4<=o/\o<=7)->Wd.op o n a.n b.n≠none)(ha:a.p=false)(hb:b.p=false) :
  ec o fl n a b=match Wd.op o n a.n b.n with|none=>vI Rn.poison|some z=>if Wd.broken o fl n a.n b.n=true then vI Rn.poison else vI (Rn.word z):=by
 have l:¬((4<=o/\o<=7)/\((b.p=true\/b.n=0)\/(o=6\/o=7)/\Wd.sg n b.n=-1/\(a.p=true\/Wd.sg n a.n=-Wd.sz (n-1)))):=by
  rintro⟨j,q⟩;apply h0 j;refine(lv j).2 ?_;rcases q with (q|q)|⟨m,r,g|g⟩
  ·rw[hb]at q;cases q
  ·exact .inl q
  ·rw[ha]at g;cases g
  ·exact .inr ⟨m,r,g⟩
 unfold ec Rn.arith;rw[tC l,tC (by simp[ha,hb])]
 cases hz:Wd.op o n a.n b.n with
 | none=>rfl
 | some z =>
  have:Wd.broken o fl n a.n b.n=Wd.brk o fl n a.n b.n:=by unfold Wd.broken;rw[hz];rfl
  rw[this];dsimp only;by_cases d:Wd.brk o fl n a.n b.n=true
  ·rw[tB d,tB d]
  ·rw[tC d,tC d]
theorem mA (x:Ins)(va vt:Value)(a b:Rn.V)(w:World)(ho:1<=x.op/\x.op<=13)(hn:Wd.Wid x.width)(hf:0<=x.flags/\x.flags<=7)(ha:Wd.Word x.width a.n)(hb:Wd.Word x.width b.n) :
  Calls prog 172 #[du x va vt,vv a,vv b] w (RG (ec x.op x.flags x.width a b) w):=by
 have G:=dJ fun d=>Ops.bDo_any x.op x.width a.n b.n d ho hn ha hb;have CL:=dJ fun d=>Ops.bDo_any x.op x.width (Wd.sz (x.width-1)) b.n d ho hn (mo hn) hb;have M:=dJ fun d=>jZ x.op x.flags x.width a.n b.n d ho hf hn ha hb;have CM:=dJ fun d=>nS x.width d hn;have CI:=dJ fun d=>nM x.op d;have j:=dJ (AF.boxes w x va vt a b 68 24);have D1:=dJ fun(h:4<=x.op/\x.op<=7)(q:b.p=true\/b.n=0)=>fI (fl:=x.flags) (n:=x.width) (a:=a) h q;have D2:=dJ fun(h:4<=x.op/\x.op<=7)(q:a.p=true) r=>lO (fl:=x.flags) (b:=b) h hn q r;have D3:=dJ fun(h:4<=x.op/\x.op<=7) r=>lP (fl:=x.flags) (n:=x.width) (a:=a) (b:=b) h r;have D4:=dJ fun q r=>lQ (o:=x.op) (fl:=x.flags) (n:=x.width) (a:=a) (b:=b) q r;have S:=dJ fun q r s=>nn (o:=x.op) (fl:=x.flags) (n:=x.width) (a:=a) (b:=b) q r s;have OD:=dJ fun(h:4<=x.op/\x.op<=7) c=>lv (n:=x.width) (a:=c) (b:=b.n) h;obtain⟨z,hz⟩:=xJ (Wd.op x.op x.width a.n b.n);obtain⟨zl,L⟩:=xJ (Wd.op x.op x.width (Wd.sz (x.width-1)) b.n);obtain⟨Y,ab⟩:=xJ (Wd.broken x.op x.flags x.width a.n b.n);have X:=dJ (qa hn);obtain⟨sl,O⟩:=xJ (Wd.sz (x.width-1));rw[hz]at G D3 S;rw[L]at CL D2;rw[ab]at M S;rw[O]at CL CM;obtain⟨R,hR⟩:=xJ (ec x.op x.flags x.width a b);rw[hR]at D1 D2 D3 D4 S ⊢;rw[O]at L OD X;have HZ:=dJ hz;have ac:=dJ L;clear ho hn hf ha hb hz L ab O hR;obtain⟨W,hW⟩:=xJ (((w.alloc (.cells #[.int .i64 x.op,.int .i64 x.width,.int .i64 x.flags,va,.int .u32 x.imm,vt] 68)).alloc (.cells #[.bool a.p,.int .i64 a.s,.int .u32 a.n] 24)).alloc (.cells #[.bool b.p,.int .i64 b.s,.int .u32 b.n] 24));have aa:W.heap.size=w.heap.size+3:=by rw[<-hW];exact mU _ _ _ _
 have Z:Gr w W:=by rw[<-hW];exact(((tX w).alloc _).alloc _).alloc _
 rw[hW]at j;have D:=dJ Z;have A:=dJ aa;obtain⟨ap,ae,an⟩:=a;obtain⟨bp,af,bn⟩:=b;dsimp only at *;obtain⟨k0,k1,k2,k3,k4,k5,k6⟩:=j.out;have f4:W.frozen? ⟨w.heap.size+1,2,none⟩=false:=by rw[<-hW];exact(World.frozen?_alloc_past _ _ _ (by simp)).trans (World.frozen?_alloc_at _ _ _ _ (by simp))
 clear Z aa;unfold du vv;by_cases hd:4<=x.op/\x.op<=7
 ·have B:Hid (∀d,Calls prog 188 #[.int .i64 x.op] d (RS (.bool true) d)):=fun d=>by
   have:=CI.out d
   rwa [show (decide (4<=x.op) && decide (x.op<=7))=true by simp[hd]]at this
  have J:=dJ hd;clear CI hd;cases bp
  case true =>
   have l:Hid (mY=R):=(D1.out J.out (.inl rfl)).symm
   go_enter func172, ntmps172
   go_wp2_with (first|(go_at_call 188;refine(B.out _).mono ?_;rintro e d ⟨rfl,rfl⟩)|(go_at_call 167;refine(dx _).mono ?_;rintro e d ⟨rfl,rfl⟩)|(go_at_call 171;refine(dl _).mono ?_;rintro e F ⟨rfl,u⟩))
   go_ret;exact⟨by rw[<-l.out];rfl,D.out⟩
  case false =>
  by_cases K:bn=0
  ·subst K;have l:Hid (mY=R):=(D1.out J.out (.inr rfl)).symm
   go_enter func172, ntmps172
   go_wp2_with (first|(go_at_call 188;refine(B.out _).mono ?_;rintro e d ⟨rfl,rfl⟩)|(go_at_call 167;refine(dx _).mono ?_;rintro e d ⟨rfl,rfl⟩)|(go_at_call 171;refine(dl _).mono ?_;rintro e F ⟨rfl,u⟩))
   go_ret;exact⟨by rw[<-l.out];rfl,D.out⟩
  ·have c0:(bn == 0)=false:=by simpa using K
   have ad:=dJ K;clear K;cases ap
   case true =>
    have U:Hid ((W.setCell ⟨w.heap.size+1,2,none⟩ (.int .u32 sl)).cell? ⟨w.heap.size+1,0,none⟩=some (.bool true)):=(World.cell?_setCell_other (a:=⟨w.heap.size+1,2,none⟩) (b:=⟨w.heap.size+1,0,none⟩) _ _ (fun e=>by injection e with _ e2;cases e2)).trans k3;have T:=dJ (D.out.setCell (p:=⟨w.heap.size+1,2,none⟩) (by simp) (.int .u32 sl));obtain _|y:=zl
    ·have l:Hid (mY=R):=(D2.out J.out rfl rfl).symm
     go_enter func172, ntmps172
     go_wp2_with (first|(go_at_call 188;refine(B.out _).mono ?_;rintro e d ⟨rfl,rfl⟩)|(go_at_call 167;refine(dx _).mono ?_;rintro e d ⟨rfl,rfl⟩)|(go_at_call 171;refine(dl _).mono ?_;rintro e F ⟨rfl,u⟩)|(go_at_call 189;refine(CM.out _).mono ?_;rintro e d ⟨rfl,rfl⟩)|(go_at_call 190;refine(CL.out _).mono ?_;rintro e I ⟨rfl,g⟩;have Q:=(g.cell (w.heap.size+1) 0 (by simp;have:=A.out;omega)).trans U.out))
     go_ret;exact⟨by rw[<-l.out];rfl,T.out.trans g⟩
    ·have l:Hid (vI Rn.poison=R):=by
      refine(D4.out ?_ (.inl rfl)).symm;rintro⟨q0,q⟩
      have:Wd.op x.op x.width sl bn=none:=(OD.out q0 sl).2 (by
        rcases q with (q|q)|⟨q1,q2,q3⟩
        · cases q
        · exact .inl q
        · exact .inr ⟨q1,q2,X.out⟩)
      rw[ac.out]at this;cases this
     go_enter func172, ntmps172
     go_wp2_with (first|(go_at_call 188;refine(B.out _).mono ?_;rintro e d ⟨rfl,rfl⟩)|(go_at_call 167;refine(dx _).mono ?_;rintro e d ⟨rfl,rfl⟩)|(go_at_call 171;refine(dl _).mono ?_;rintro e F ⟨rfl,u⟩)|(go_at_call 189;refine(CM.out _).mono ?_;rintro e d ⟨rfl,rfl⟩)|(go_at_call 190;refine(CL.out _).mono ?_;rintro e I ⟨rfl,g⟩;have Q:=(g.cell (w.heap.size+1) 0 (by simp;have:=A.out;omega)).trans U.out))
     go_ret;exact⟨by rw[<-l.out];rfl,(T.out.trans g).trans u⟩
   case false =>
    have m:=True.intro;have t:=True.intro;obtain _|y:=z
    ·have l:Hid (mY=R):=(D3.out J.out rfl).symm
     go_enter func172, ntmps172
     go_wp2_with (first|(go_at_call 188;refine(B.out _).mono ?_;rintro e d ⟨rfl,rfl⟩)|(go_at_call 167;refine(dx _).mono ?_;rintro e d ⟨rfl,rfl⟩)|(go_at_call 171;refine(dl _).mono ?_;rintro e F ⟨rfl,u⟩)|(go_at_call 190;have _t:=m;(with_reducible refine(G.out _).mono ?_);rintro e I ⟨rfl,g⟩;clear _t m;obtain⟨l0,l1,l2,Q,l4,l5,l6⟩:=AF.gr j.out (by have:=A.out;omega) g;have E:=dJ (show w.heap.size+2<I.heap.size by have:=A.out;have:=g.size;omega);have C:=dJ (AF.gr j.out (by have:=A.out;omega) g))|(go_at_call 190;have _t:=t;(with_reducible refine(G.out _).mono ?_);rintro e w6 ⟨rfl,N⟩;clear _t t;obtain⟨m0,m1,m2,m3,m4,m5,m6⟩:=AF.gr C.out E.out N)|(go_at_call 191;refine(M.out _).mono ?_;rintro e w7 ⟨rfl,H⟩))
     go_ret;exact⟨by rw[<-l.out];rfl,D.out.trans g⟩
    ·have l:Hid ((if Y=true then vI Rn.poison else vI (Rn.word y))=R):=(S.out (fun _=>by simp) rfl rfl).symm;cases Y
     case false =>
      go_enter func172, ntmps172
      go_wp2_with (first|(go_at_call 188;refine(B.out _).mono ?_;rintro e d ⟨rfl,rfl⟩)|(go_at_call 167;refine(dx _).mono ?_;rintro e d ⟨rfl,rfl⟩)|(go_at_call 171;refine(dl _).mono ?_;rintro e F ⟨rfl,u⟩)|(go_at_call 190;have _t:=m;(with_reducible refine(G.out _).mono ?_);rintro e I ⟨rfl,g⟩;clear _t m;obtain⟨l0,l1,l2,Q,l4,l5,l6⟩:=AF.gr j.out (by have:=A.out;omega) g;have E:=dJ (show w.heap.size+2<I.heap.size by have:=A.out;have:=g.size;omega);have C:=dJ (AF.gr j.out (by have:=A.out;omega) g))|(go_at_call 190;have _t:=t;(with_reducible refine(G.out _).mono ?_);rintro e w6 ⟨rfl,N⟩;clear _t t;obtain⟨m0,m1,m2,m3,m4,m5,m6⟩:=AF.gr C.out E.out N)|(go_at_call 191;refine(M.out _).mono ?_;rintro e w7 ⟨rfl,H⟩))
      go_ret;exact⟨by rw[<-l.out];rfl,((D.out.trans g).trans N).trans H⟩
     case true =>
      go_enter func172, ntmps172
      go_wp2_with (first|(go_at_call 188;refine(B.out _).mono ?_;rintro e d ⟨rfl,rfl⟩)|(go_at_call 167;refine(dx _).mono ?_;rintro e d ⟨rfl,rfl⟩)|(go_at_call 171;refine(dl _).mono ?_;rintro e F ⟨rfl,u⟩)|(go_at_call 190;have _t:=m;(with_reducible refine(G.out _).mono ?_);rintro e I ⟨rfl,g⟩;clear _t m;obtain⟨l0,l1,l2,Q,l4,l5,l6⟩:=AF.gr j.out (by have:=A.out;omega) g;have E:=dJ (show w.heap.size+2<I.heap.size by have:=A.out;have:=g.size;omega);have C:=dJ (AF.gr j.out (by have:=A.out;omega) g))|(go_at_call 190;have _t:=t;(with_reducible refine(G.out _).mono ?_);rintro e w6 ⟨rfl,N⟩;clear _t t;obtain⟨m0,m1,m2,m3,m4,m5,m6⟩:=AF.gr C.out E.out N)|(go_at_call 191;refine(M.out _).mono ?_;rintro e w7 ⟨rfl,H⟩))
      go_ret;exact⟨by rw[<-l.out];rfl,(((D.out.trans g).trans N).trans H).trans u⟩
 ·have B:Hid (∀d,Calls prog 188 #[.int .i64 x.op] d (RS (.bool false) d)):=fun d=>by
   have:=CI.out d
   rwa [show (decide (4<=x.op) && decide (x.op<=7))=false by simp;omega]at this
  have J:=dJ hd;clear CI hd;cases ap
  case true =>
   have l:Hid (vI Rn.poison=R):=(D4.out (fun q=>J.out q.1) (.inl rfl)).symm
   go_enter func172, ntmps172
   go_wp2_with (first|(go_at_call 188;refine(B.out _).mono ?_;rintro e d ⟨rfl,rfl⟩)|(go_at_call 167;refine(dx _).mono ?_;rintro e d ⟨rfl,rfl⟩)|(go_at_call 171;refine(dl _).mono ?_;rintro e F ⟨rfl,u⟩))
   go_ret;exact⟨by rw[<-l.out];rfl,D.out.trans u⟩
  case false =>
  cases bp
  case true =>
   have l:Hid (vI Rn.poison=R):=(D4.out (fun q=>J.out q.1) (.inr rfl)).symm
   go_enter func172, ntmps172
   go_wp2_with (first|(go_at_call 188;refine(B.out _).mono ?_;rintro e d ⟨rfl,rfl⟩)|(go_at_call 167;refine(dx _).mono ?_;rintro e d ⟨rfl,rfl⟩)|(go_at_call 171;refine(dl _).mono ?_;rintro e F ⟨rfl,u⟩))
   go_ret;exact⟨by rw[<-l.out];rfl,D.out.trans u⟩
  case false =>
   obtain _|y:=z
   ·have l:Hid (vI Rn.poison=R):=(S.out (fun q=>absurd q J.out) rfl rfl).symm;cases Y
    all_goals
     go_enter func172, ntmps172
     go_wp2_with (first|(go_at_call 188;refine(B.out _).mono ?_;rintro e d ⟨rfl,rfl⟩)|(go_at_call 167;refine(dx _).mono ?_;rintro e d ⟨rfl,rfl⟩)|(go_at_call 171;refine(dl _).mono ?_;rintro e F ⟨rfl,u⟩)|(go_at_call 190;refine(G.out _).mono ?_;rintro e I ⟨rfl,g⟩;obtain⟨l0,l1,l2,Q,l4,l5,l6⟩:=AF.gr j.out (by have:=A.out;omega) g)|(go_at_call 191;refine(M.out _).mono ?_;rintro e w7 ⟨rfl,H⟩))
     go_ret;exact⟨by rw[<-l.out];rfl,((D.out.trans g).trans H).trans u⟩
   ·have l:Hid ((if Y=true then vI Rn.poison else vI (Rn.word y))=R):=(S.out (fun q=>absurd q J.out) rfl rfl).symm;cases Y
    case false =>
     go_enter func172, ntmps172
     go_wp2_with (first|(go_at_call 188;refine(B.out _).mono ?_;rintro e d ⟨rfl,rfl⟩)|(go_at_call 167;refine(dx _).mono ?_;rintro e d ⟨rfl,rfl⟩)|(go_at_call 171;refine(dl _).mono ?_;rintro e F ⟨rfl,u⟩)|(go_at_call 190;refine(G.out _).mono ?_;rintro e I ⟨rfl,g⟩;obtain⟨l0,l1,l2,Q,l4,l5,l6⟩:=AF.gr j.out (by have:=A.out;omega) g)|(go_at_call 191;refine(M.out _).mono ?_;rintro e w7 ⟨rfl,H⟩))
     go_ret;exact⟨by rw[<-l.out];rfl,(D.out.trans g).trans H⟩
    case true =>
     go_enter func172, ntmps172
     go_wp2_with (first|(go_at_call 188;refine(B.out _).mono ?_;rintro e d ⟨rfl,rfl⟩)|(go_at_call 167;refine(dx _).mono ?_;rintro e d ⟨rfl,rfl⟩)|(go_at_call 171;refine(dl _).mono ?_;rintro e F ⟨rfl,u⟩)|(go_at_call 190;refine(G.out _).mono ?_;rintro e I ⟨rfl,g⟩;obtain⟨l0,l1,l2,Q,l4,l5,l6⟩:=AF.gr j.out (by have:=A.out;omega) g)|(go_at_call 191;refine(M.out _).mono ?_;rintro e w7 ⟨rfl,H⟩))
     go_ret;exact⟨by rw[<-l.out];rfl,((D.out.trans g).trans H).trans u⟩
def dF:List Rn.V->List Value
 | []=>[]
 | v::r=>.bool v.p::.int .i64 v.s::.int .u32 v.n::dF r
theorem jk:∀l:List Rn.V,(dF l).length=3*l.length
 | []=>rfl
 | v::r=>by simp[dF,jk r];omega
theorem eH:∀(l:List Rn.V)(k:Nat)(v:Rn.V),l[k]?=some v->(dF l)[3*k]?=some (.bool v.p)/\(dF l)[3*k+1]?=some (.int .i64 v.s)/\(dF l)[3*k+2]?=some (.int .u32 v.n)
 | [],k,v,h=>by simp at h
 | u::r,0,v,h=>by simp at h;subst h;exact⟨rfl,rfl,rfl⟩
 | u::r,k+1,v,h=>by
  obtain⟨d,g,j⟩:=eH r k v (by simpa using h)
  refine⟨?_,?_,?_⟩
  ·rw[show 3*(k+1)=(3*k)+1+1+1 by omega];simpa[dF] using d
  ·rw[show 3*(k+1)+1=(3*k+1)+1+1+1 by omega];simpa[dF] using g
  ·rw[show 3*(k+1)+2=(3*k+2)+1+1+1 by omega];simpa[dF] using j
theorem jl:∀(l:List Rn.V)(k:Nat)(v:Rn.V),(((dF l).set (3*k) (.bool v.p)).set (3*k+1) (.int .i64 v.s)).set (3*k+2) (.int .u32 v.n)=dF (l.set k v)
 | [],k,v=>by simp[dF]
 | u::r,0,v=>rfl
 | u::r,k+1,v=>by
  have:=jl r k v
  rw[show 3*(k+1)=(3*k)+1+1+1 by omega,show 3*k+1+1+1+1=(3*k+1)+1+1+1 by omega,show 3*k+1+1+1+2=(3*k+2)+1+1+1 by omega];simp only[dF,List.set_cons_succ];rw[this]
structure Cfg where
 n₀:Nat
 f:Fn
 vp:Value
 vs:Value
 vb:Value
 ch:Value
 Bf:Nat
 cf:Nat
 Am:Option Addr
 Bm:Nat
 cm:Nat
 us:List (Nat × Nat)
 Bs:Nat
 Bv:Nat
 Bh:Nat
def Cfg.mv (c:Cfg):Value:=.slice c.Am c.us.length c.cm
def Cfg.first (c:Cfg):Value:=.slice (some ⟨c.Bf,0,none⟩) c.f.blocks.length c.cf
def mR (c:Cfg)(n:Nat)(b frm:Int)(k:Nat)(vt:Value):Array Value :=
 #[c.vp,.int .i64 c.f.ret,c.vs,c.vb,c.ch,.slice (some ⟨c.Bv,0,none⟩) n n,.slice (some ⟨c.Bh,0,none⟩) n n,c.first,c.mv,.int .i64 b,.int .i64 frm,.int .i64 k,vt]
def qD (c:Cfg)(w:World)(mem:List (List Int)):Prop :=
 mem.length=c.us.length/\∀(j b cp:Nat)(l:List Int),c.us[j]?=some (b,cp)->mem[j]?=some l->l.length<=cp/\cp<=9223372036854775807/\∃cur:Array Value,w.heap[b]?=some (.cells cur 3 (0,0))/\∀(i:Nat)(z:Int),l[i]?=some z->cur[i]?=some (.int .i64 z)
def jY (c:Cfg)(w:World):Prop :=
 c.us.length<=c.cm/\c.cm<=9223372036854775807/\(0<c.us.length->c.Am=some ⟨c.Bm,0,none⟩/\∃cur:Array Value,w.heap[c.Bm]?=some (.cells cur 33 (0,0))/\∀(j b cp:Nat)(n:Int),c.us[j]?=some (b,cp)->c.f.slots[j]?=some n->cur[j]?=some (.slice (some ⟨b,0,none⟩) n.toNat cp))
structure PS (c:Cfg)(w:World)(s:Rn.St)(b frm:Int)(vt:Value):Prop where
 st:w.heap[c.Bs]?=some (.cells (mR c s.vals.length b frm s.steps vt) 145 (0,0))
 vals:w.heap[c.Bv]?=some (.cells (dF s.vals).toArray 24 (0,0))
 had:w.heap[c.Bh]?=some (.cells (s.had.map Value.bool).toArray 4 (0,0))
 hlen:s.had.length=s.vals.length
 mem:qD c w s.mem
 slots:jY c w
 fn:FnAt c.n₀ w (.agg #[c.vp,.int .i64 c.f.ret,c.vs,c.vb]) c.f
 first:c.f.blocks.length<=c.cf/\c.cf<=9223372036854775807/\∃cur:Array Value,w.heap[c.Bf]?=some (.cells cur 3 (0,0))/\∀j:Nat,j<c.f.blocks.length->cur[j]?=some (.int .i64 (Ref.number c.f j:Nat))
 old:c.n₀<=c.Bs/\c.n₀<=c.Bv/\c.n₀<=c.Bh/\c.n₀<=c.Bf/\c.n₀<=c.Bm/\∀(j b cp:Nat),c.us[j]?=some (b,cp)->c.n₀<=b/\b≠c.Bf
 apart:(c.us.map (·.1)).Nodup
section
variable {c:Cfg}{w w':World}{s:Rn.St}{b frm:Int}{vt:Value}
theorem PS.cell (h:PS c w s b frm vt)(i:Nat):w.cell? ⟨c.Bs,i,none⟩=(mR c s.vals.length b frm s.steps vt)[i]?:=tv _ _ i _ _ _ h.st
theorem cX {w:World}{k:Nat}{o:Obj}(h:w.heap[k]?=some o):k<w.heap.size:=(sZ.1 h).1
theorem PS.n₀ (h:PS c w s b frm vt):c.n₀<=w.heap.size:=by have:=cX h.st;have:=h.old.1;omega
theorem PS.gr (h:PS c w s b frm vt)(g:Gr w w'):PS c w' s b frm vt where
 st:=(g.heap _ (cX h.st)).trans h.st
 vals:=(g.heap _ (cX h.vals)).trans h.vals
 had:=(g.heap _ (cX h.had)).trans h.had
 hlen:=h.hlen
 mem:=⟨h.mem.1,fun j b t l u y=>by
   obtain⟨q,p,d,m,r⟩:=h.mem.2 j b t l u y
   exact⟨q,p,d,(g.heap _ (cX m)).trans m,r⟩⟩
 slots:=⟨h.slots.1,h.slots.2.1,fun z=>by
   obtain⟨q,d,p,m⟩:=h.slots.2.2 z
   exact⟨q,d,(g.heap _ (cX p)).trans p,m⟩⟩
 fn:=h.fn.below (Below.mono g h.n₀)
 first:=by obtain⟨q,p,d,m,r⟩:=h.first;exact⟨q,p,d,(g.heap _ (cX m)).trans m,r⟩
 old:=h.old
 apart:=h.apart
theorem PS.firstAt (h:PS c w s b frm vt)(j:Nat)(hj:j<c.f.blocks.length):w.cell? ⟨c.Bf,j,none⟩=some (.int .i64 (Ref.number c.f j:Nat)):=by obtain⟨m,p,d,g,l⟩:=h.first;exact(tv _ _ j _ _ _ g).trans (l j hj)
end
structure VFn (f:Fn):Prop where
 val:Ref.Val f
 im:Rn.Im f
theorem jC (f:Fn)(hv:Ref.Val f){j k i:Nat}{l:List Ins}(hl:f.blocks[j]?=some l)(hi:i<l.length)(hk:j<k):Ref.number f j+i<Ref.number f k:=by have:=Ref.number_le f hl hk;omega
theorem ep {c:Cfg}{w:World}{s:Rn.St}{b frm:Int}{vt:Value}(h:PS c w s b frm vt)(hf:VFn c.f)(v:Int)(h0:0<=v)(h1:v<Ref.count c.f) :
  Calls prog 170 #[.pointer (some ⟨c.Bs,0,none⟩),.int .i64 v] w (RG (.int .i64 (Ref.kind c.f v)) w):=by
 have c0:w.cell? ⟨c.Bs,0,none⟩=some c.vp:=h.cell 0;have c3:w.cell? ⟨c.Bs,3,none⟩=some c.vb:=h.cell 3;have c7:w.cell? ⟨c.Bs,7,none⟩=some c.first:=h.cell 7;have M:=dJ fun j hj=>h.firstAt j hj;have H:=h.fn;have B:=hf.val.size;obtain⟨af,ag,ae,e,U,-,R⟩:=H;injection e with e;injection e with e;injection e with E e;injection e with _ e;injection e with _ e;injection e with F _;rw[E]at c0;rw[F]at c3;obtain⟨f1,f2,-⟩:=h.first;unfold Cfg.first at c7;rcases Ref.home_of c.f h0 h1 with ⟨-,g⟩|⟨j,i,l,x,y,D,rfl⟩
 ·obtain⟨k,rfl⟩:=tb h0;obtain⟨Ap,cp,rfl,p1,p2,Z⟩:=U;obtain⟨bp,op,rfl,-,p4⟩:=Z (by omega);obtain⟨z,K⟩:∃z,c.f.params[k]?=some z:=⟨_,sQ (by omega)⟩;have hc:=p4 k z K
  have m:Hid (Ref.kind c.f (k:Int)=z):=by show _=_;unfold Ref.kind;rw[tC (by omega),tB g,tc,sU,K];rfl
  have T:k<c.f.params.length:=by omega
  clear Z p4 K R M h hf h0 h1 E F
  go_enter func170, ntmps170
  go_wp2;go_ret;exact⟨dc m.out.symm,tX _⟩
 ·have aa:j<c.f.blocks.length:=(sR.1 y).1;have I:i<l.length:=(sR.1 D).1;have m:Hid (Ref.kind c.f ((Ref.number c.f j+i:Nat):Int)=x.width):=Ref.kind_at c.f y D;have N:Hid (∀k,j<k->k<c.f.blocks.length->Ref.number c.f j+i<Ref.number c.f k):=fun k T _=>jC c.f hf.val y I T;have A:(c.f.params.length:Int)<=((Ref.number c.f j+i:Nat):Int):=by unfold Ref.number;omega
  obtain⟨Ab,cb,rfl,b1,b2,O⟩:=R;obtain⟨bb,ob,rfl,-,Q⟩:=O (by omega);obtain⟨u,hu,G⟩:=Q j l y;obtain⟨Al,cl,rfl,l1,l2,X⟩:=G;obtain⟨bl,ol,rfl,-,Y⟩:=X (by omega);obtain⟨-,-,-,hw,-⟩:=Y i x D;obtain⟨Ap,cp,rfl,p1,p2,-⟩:=U
  have d:((Ref.number c.f j+i:Nat):Int)<100:=by
   have e:Ref.count c.f=c.f.params.length+Ref.total c.f.blocks:=by unfold Ref.count Ref.number;rw[tE]
   omega
  obtain⟨q,J⟩:=xJ (Ref.number c.f j);have HQ:=dJ J;rw[J]at A d m N ⊢;obtain⟨v,hv⟩:∃v:Int,((q+i:Nat):Int)=v:=⟨_,rfl⟩;rw[hv]at A d m ⊢;have C:=dJ hv;have v0:0<=v:=by omega
  have S:c.f.blocks.length<=10:=B.2.2.2.1;clear J hv O Q X Y y D h hf h0 h1 E F B
  go_enter func170, ntmps170
  go_wp2
  go_loop [5] (fun L=>∃k:Nat,j<=k/\k<c.f.blocks.length/\L=.int .i64 (k:Int)) (fun L=>(intOf L).toNat)
  case atStart=>exact⟨c.f.blocks.length-1,by omega,by omega,by congr 1;omega⟩
  case round =>
   obtain⟨k,ab,t,rfl⟩:=hrel;have p:=M.out k t;by_cases he:j=k
   ·subst he;rw[HQ.out]at p;have ac:((q:Nat):Int)<=v:=by have:=C.out;omega
    have ad:IntKind.i64.wrap (v-(q:Int))=(i:Int):=by rw[IntWalk.i64_in _ (by have:=C.out;omega)];have:=C.out;omega
    go_wp2;go_quiet ((fail));all_goals go_wp2
    all_goals go_ret
    all_goals exact⟨dc m.out.symm,(tX w).drewN _⟩
   ·have g:v<((Ref.number c.f k:Nat):Int):=by have:=N.out k (by omega) t;have:=C.out;omega
    obtain⟨r,W⟩:∃r:Int,((Ref.number c.f k:Nat):Int)=r:=⟨_,rfl⟩;rw[W]at p g;clear W;go_wp2;go_round;case rel=>exact⟨k-1,by omega,by omega,by congr 1;omega⟩
    case measure=>simp[intOf];omega
theorem PS.slot {c:Cfg}{w:World}{s:Rn.St}{b frm:Int}{vt:Value}(h:PS c w s b frm vt)(hf:VFn c.f)(hi:Rn.Inv c.f s){p:Rn.V}(h1:1<=p.s)(h2:p.s<=c.f.slots.length) :
  ∃(bj cp:Nat)(l:List Int),c.us[(p.s-1).toNat]?=some (bj,cp)/\s.mem[(p.s-1).toNat]?=some l/\s.mem.getD (p.s-1).toNat []=l/\l.length<=cp/\cp<=9223372036854775807/\(p.s-1).toNat<c.us.length/\c.us.length<=c.cm/\c.cm<=9223372036854775807 /\
   c.Am=some ⟨c.Bm,0,none⟩/\w.cell? ⟨c.Bm,(p.s-1).toNat,none⟩=some (.slice (some ⟨bj,0,none⟩) l.length cp)/\l.length<=8 /\
   ∃cur:Array Value,w.heap[bj]?=some (.cells cur 3 (0,0))/\∀(i:Nat)(z:Int),l[i]?=some z->cur[i]?=some (.int .i64 z):=by
 have A:=hi.mem;have hlen:s.mem.length=c.f.slots.length:=by rw[<-A];simp
 have C:s.mem.length=c.us.length:=h.mem.1;obtain⟨j,B⟩:=xJ ((p.s-1).toNat);have d:j<c.us.length:=by omega
 obtain⟨⟨bj,cp⟩,t⟩:∃u,c.us[j]?=some u:=⟨_,sQ d⟩;obtain⟨l,g⟩:∃l,s.mem[j]?=some l:=⟨_,sQ (by omega)⟩;obtain⟨n,r⟩:∃n,c.f.slots[j]?=some n:=⟨_,sQ (by omega)⟩
 have m:(l.length:Int)=n:=by have:=congrArg (fun q=>q[j]?) A;simp only[td,g,r,Option.map_some]at this;injection this
 obtain⟨D,E,cur,F,G⟩:=h.mem.2 j bj cp l t g;obtain⟨H,I,J⟩:=h.slots;obtain⟨K,y,L,M⟩:=J (by omega);rw[B];refine⟨bj,cp,l,t,g,by rw[sU,g];rfl,D,E,d,H,I,K,?_,?_,cur,F,G⟩
 ·rw[tv _ _ j _ _ _ L,M j bj cp n t r,<-m];rfl
 ·have:=tu.1 hf.val.head.2 n (sS r);unfold Ref.isSlot at this;simp at this;omega
theorem gI {c:Cfg}{w:World}{s:Rn.St}{b frm:Int}{vt:Value}(h:PS c w s b frm vt)(hf:VFn c.f)(hi:Rn.Inv c.f s)(p:Rn.V)(hp:Rn.VOK c.f 33 p)(n:Nat)(hn:n<=4)(hb:Rn.bytesAt s.mem p n=none) :
  Calls prog 187 #[.pointer (some ⟨c.Bs,0,none⟩),vv p,.int .i64 n] w (RG (.tuple #[.slice none 0 0,.bool false]) w):=by
 have d:Gr w (w.alloc (.cells #[.bool p.p,.int .i64 p.s,.int .u32 p.n] 24)):=(tX w).alloc _;have t:=dJ d
 cases hpp:p.p with
 | true =>
  clear hb hp hi h d;unfold vv;rw[hpp]at t;rw[hpp]
  go_enter func187, ntmps187
  go_wp2;go_ret2;exact⟨rfl,t.out⟩
 | false =>
  obtain⟨J,K,T,U⟩:=hp.ptr hpp;obtain⟨M,Q,l,-,-,z,G,D,E,I,C,y,g,F,-⟩:=h.slot hf hi J K
  have r:l.length<p.n.toNat+n:=by
   unfold Rn.bytesAt at hb;rw[z,hpp]at hb;split at hb;next hc=>simpa using hc
   next hc=>cases hb
  have O:w.cell? ⟨c.Bs,8,none⟩=some (.slice (some ⟨c.Bm,0,none⟩) c.us.length c.cm):=by have:w.cell? ⟨c.Bs,8,none⟩=some c.mv:=h.cell 8;rw[this];unfold Cfg.mv;rw[y]
  have H:=cX h.st
  have A:c.Bm<w.heap.size:=by obtain⟨-,-,q⟩:=h.slots;obtain⟨-,B,L,-⟩:=q (by omega);exact cX L
  unfold vv;obtain⟨W,S,N⟩:=p;dsimp only at *;subst hpp;obtain⟨j,m⟩:=xJ ((S-1).toNat);rw[m]at E g;have R:S-1=(j:Int):=by omega
  have u:(l.length:Int)<N+n:=by omega
  clear hb hp hi h d z r m y
  go_enter func187, ntmps187
  go_wp2;go_quiet ((fail));all_goals go_wp2
  all_goals go_ret2
  all_goals exact⟨rfl,t.out.drewN _⟩
theorem gJ {c:Cfg}{w:World}{s:Rn.St}{b frm:Int}{vt:Value}(h:PS c w s b frm vt)(hf:VFn c.f)(hi:Rn.Inv c.f s)(p:Rn.V)(hp:Rn.VOK c.f 33 p)(n:Nat)(hn1:1<=n)(hn:n<=4)(hb:Rn.bytesAt s.mem p n≠none) :
  ∃(bj cp:Nat),c.us[(p.s-1).toNat]?=some (bj,cp)/\p.n.toNat+n<=cp/\cp<=9223372036854775807/\Calls prog 187 #[.pointer (some ⟨c.Bs,0,none⟩),vv p,.int .i64 n] w (RG (.tuple #[.slice (some ⟨bj,p.n.toNat,none⟩) n (cp-p.n.toNat),.bool true]) w):=by
 have g:Gr w (w.alloc (.cells #[.bool p.p,.int .i64 p.s,.int .u32 p.n] 24)):=(tX w).alloc _;have E:=dJ g
 have r:p.p=false:=by
  cases h:p.p with
  | false=>rfl
  | true=>exact absurd (by unfold Rn.bytesAt;rw[tB (.inl h)]) hb
 obtain⟨O,Q,X,Y⟩:=hp.ptr r;obtain⟨bj,cp,l,t,-,C,K,u,I,M,H,z,d,J,-⟩:=h.slot hf hi O Q
 have y:p.n.toNat+n<=l.length:=by
  rcases tF l.length (p.n.toNat+n) with q|q
  ·exact absurd (by unfold Rn.bytesAt;rw[C,tB (.inr q)]) hb
  ·exact q
 refine⟨bj,cp,t,by omega,u,?_⟩
 have T:w.cell? ⟨c.Bs,8,none⟩=some (.slice (some ⟨c.Bm,0,none⟩) c.us.length c.cm):=by have:w.cell? ⟨c.Bs,8,none⟩=some c.mv:=h.cell 8;rw[this];unfold Cfg.mv;rw[z]
 have L:=cX h.st
 have D:c.Bm<w.heap.size:=by obtain⟨-,-,q⟩:=h.slots;obtain⟨-,G,R,-⟩:=q (by omega);exact cX R
 unfold vv;obtain⟨Z,S,N⟩:=p;dsimp only at *;subst r;obtain⟨j,m⟩:=xJ ((S-1).toNat);rw[m]at I d;have U:S-1=(j:Int):=by omega
 have A:N+n<=(l.length:Int):=by omega
 have B:N+n<=(cp:Int):=by omega
 have W:0<=(n:Int):=by omega
 have F:Hid ((N+(n:Int)).toNat-N.toNat=n):=by show _=_;omega
 clear hb hp hi h g C m z t y
 go_enter func187, ntmps187
 go_wp2;go_quiet ((fail));all_goals go_wp2
 all_goals go_ret2
 all_goals exact⟨by show Ending.returned (.tuple #[.slice _ ((N+(n:Int)).toNat-N.toNat) _,.bool true])=_;rw[F.out],E.out.drewN _⟩
theorem oc {x v:Int}{i:Nat}(h0:0<=x)(h1:x<2 ^ i)(h2:0<=v)(h3:v*2 ^ i+x<4294967296):bits .or .u32 x (v*2 ^ i)=x+v*2 ^ i:=by
 obtain⟨a,rfl⟩:=tb h0;obtain⟨b,rfl⟩:=tb h2;have g:((b:Int)*2 ^ i)=((b*2 ^ i:Nat):Int):=by simp
 have d:a<2 ^ i:=by
  have e:((2:Int) ^ i)=((2 ^ i:Nat):Int):=by simp
  rw[e]at h1
  exact_mod_cast h1
 rw[g]at h3 ⊢;generalize hm:b*2 ^ i=m at h3 ⊢;show IntKind.u32.wrap (((BitVec.ofInt 32 (a:Int) ||| BitVec.ofInt 32 (m:Int)).toNat:Nat):Int)=_;rw[BitVec.toNat_or,Wd.ofInt_nat _ (by omega),Wd.ofInt_nat _ (by omega)]
 have e:a ||| m=m+a:=by rw[<-hm,<-Nat.shiftLeft_eq,Nat.or_comm];exact(Nat.shiftLeft_add_eq_or_of_lt d b).symm
 rw[e,Wd.wrap_in _ (by omega) (by omega)];omega
theorem pH {n x y:Int}(hn:Wd.Wid n):bits .and .u32 ((x+-y)%4294967296) (Wd.sz n-1)=(x-y)%Wd.sz n:=by rw[show x+-y=x-y by omega];exact Wd.wrap_mask _ hn
theorem jz {o l n a b x v:Int}{k m L K:Nat}(hn:Wd.Wid n)(hl1:1<=l)(hL:l=L)(hK:(n / l).toNat=K)(hl3:n%l=0)(hm:m=k*L)(hx:x=Wd.lanes o l k a b)(hlt:(m:Int)<n)(hv:v=Wd.lane1 o (Wd.sz l) (a / 2 ^ m) (b / 2 ^ m)) :
  bits .or .u32 x (v*2 ^ m%4294967296)=Wd.lanes o l (k+1) a b/\k+1<=K/\m+L=(k+1)*L:=by
 have u:Wd.sz l ^ k=2 ^ m:=by subst hL;rw[Wd.sz_pow];unfold Wd.sz;rw[tc,hm,Nat.mul_comm]
 have t:=Wd.lanes_range o l k a b;have g:=Wd.lane1_range o (Wd.sz l) (a / 2 ^ m) (b / 2 ^ m) (Wd.sz_pos l);rw[<-hv]at g;rw[<-hx,u]at t
 have d:n=l*K:=by
  have q:=Int.mul_ediv_add_emod n l;have C:0<=n / l:=tQ (by have:=hn.1;omega) (by omega);have z:((K:Nat):Int)=n / l:=by omega
  rw[z];omega
 have j:k<K:=by
  rw[hL]at d;have e:(m:Int)=(L:Int)*k:=by rw[hm];simp[Int.mul_comm]
  rw[e,d]at hlt;have:=Int.lt_of_mul_lt_mul_left hlt (by omega);omega
 have p:m+L=(k+1)*L:=by rw[hm,Nat.add_mul];omega
 have y:v*2 ^ m+x<4294967296:=by
  have A:v*2 ^ m+x<Wd.sz l*2 ^ m:=by have:v*2 ^ m<=(Wd.sz l-1)*2 ^ m:=Int.mul_le_mul_of_nonneg_right (by omega) (Int.le_of_lt (Int.pow_pos (by decide)));rw[Int.sub_mul]at this;omega
  have B:Wd.sz l*2 ^ m<=4294967296:=by
   have e:Wd.sz l*2 ^ m=Wd.sz ((m+L:Nat):Int):=by unfold Wd.sz;rw[hL,tc,tc,Nat.add_comm m L,Int.pow_add]
   rw[e];refine Int.le_trans (Wd.sz_le ?_) (Wd.sz_32 hn);rw[tc,p,d,hL];have:(((L:Nat):Int)*((K:Nat):Int)).toNat=L*K:=by rw[<-Int.natCast_mul,tc]
   rw[this,Nat.mul_comm L K];exact Nat.mul_le_mul_right _ j
  omega
 have r:0<=v*2 ^ m:=Int.mul_nonneg g.1 (Int.le_of_lt (Int.pow_pos (by decide)));refine⟨?_,j,p⟩;rw[Int.emod_eq_of_lt r (by omega),oc t.1 t.2 g.1 y,Wd.lanes_step,<-hx,u,<-hv]
theorem fC {l a:Int}(hl:Wd.Wid l)(m:Nat)(h0:0<=a)(h1:a<4294967296):bits .and .u32 (a / 2 ^ m) (Wd.sz l-1)=a / 2 ^ m%Wd.sz l:=by have d:(0:Int)<=2 ^ m:=Int.le_of_lt (Int.pow_pos (by decide));exact Wd.mask_and hl (tQ h0 d) (Int.lt_of_le_of_lt (Int.ediv_le_self _ h0) h1)
theorem qR {l a b:Int}(hl:Wd.Wid l)(m:Nat)(ha:0<=a/\a<4294967296)(hb:0<=b/\b<4294967296) :
  bits .and .u32 ((bits .and .u32 (a / 2 ^ m) (Wd.sz l-1)+bits .and .u32 (b / 2 ^ m) (Wd.sz l-1))%4294967296) (Wd.sz l-1)=Wd.lane1 19 (Wd.sz l) (a / 2 ^ m) (b / 2 ^ m):=by
 rw[Wd.wrap_mask _ hl,fC hl m ha.1 ha.2,fC hl m hb.1 hb.2];rfl
theorem qS {l a b:Int}(hl:Wd.Wid l)(m:Nat)(ha:0<=a/\a<4294967296)(hb:0<=b/\b<4294967296) :
  bits .and .u32 ((bits .and .u32 (a / 2 ^ m) (Wd.sz l-1)+-bits .and .u32 (b / 2 ^ m) (Wd.sz l-1))%4294967296) (Wd.sz l-1)=Wd.lane1 20 (Wd.sz l) (a / 2 ^ m) (b / 2 ^ m):=by
 rw[pH hl,fC hl m ha.1 ha.2,fC hl m hb.1 hb.2];rfl
namespace Rn
theorem numB_snoc:∀(l:List Int)(b:Int),numB (l++[b])=numB l+b*256 ^ l.length
 | [],b=>by simp[numB]
 | a::r,b=>by
  rw[List.cons_append,numB,numB,numB_snoc r b,List.length_cons,Int.pow_succ,Int.mul_add,<-Int.add_assoc]
  congr 1
  rw[Int.mul_left_comm,Int.mul_comm 256]
theorem pow_256 (k m:Nat)(h:m=8*k):(256:Int) ^ k=2 ^ m:=by subst h;rw[Int.pow_mul];rfl
theorem num_step {bs:List Int}{k m:Nat}{b x:Int}(hm:m=8*k)(hk:bs[k]?=some b)(hx:x=numB (bs.take k))(hn:∀z∈bs.take k,0<=z/\z<=255)(h0:0<=b)(h1:b<=255)(h4:k<4) :
  bits .or .u32 x (b*2 ^ m%4294967296)=numB (bs.take (k+1)):=by
 have p:=(sR.1 hk).1;have g:(bs.take k).length=k:=by rw[List.length_take];omega
 obtain⟨j,l⟩:=numB_range _ hn;rw[g,pow_256 k m hm,<-hx]at l;rw[<-hx]at j
 have t:(2:Int) ^ m<=16777216:=by rcases (by omega:k=0\/k=1\/k=2\/k=3) with rfl|rfl|rfl|rfl<;>subst hm<;>decide
 have q:(0:Int)<2 ^ m:=Int.pow_pos (by decide);have r:b*2 ^ m<=255*2 ^ m:=Int.mul_le_mul_of_nonneg_right h1 (by omega);have d:0<=b*2 ^ m:=Int.mul_nonneg h0 (by omega);rw[Int.emod_eq_of_lt d (by omega),oc j l h0 (by omega),List.take_add_one,hk];show _=numB (bs.take k++[b]);rw[numB_snoc,g,pow_256 k m hm,<-hx]
end Rn
def jA (mem:List (List Int))(p:Rn.V)(n:Nat):Value:=match Rn.load mem p n with|none=>mY|some v=>vI v
theorem ow {c:Cfg}{w:World}{s:Rn.St}{b frm:Int}{vt:Value}(h:PS c w s b frm vt)(hf:VFn c.f)(hi:Rn.Inv c.f s)(p:Rn.V)(hp:Rn.VOK c.f 33 p)(n:Nat)(hn1:1<=n)(hn:n<=4) :
  Calls prog 168 #[.pointer (some ⟨c.Bs,0,none⟩),vv p,.int .i64 n] w (RG (jA s.mem p n) w):=by
 have t:Gr w (w.alloc (.cells #[.bool p.p,.int .i64 p.s,.int .u32 p.n] 24)):=(tX w).alloc _;have HB:=dJ t;by_cases E:Rn.bytesAt s.mem p n=none
 ·have Z:=dJ (gI (h.gr t) hf hi p hp n hn E);have I:Hid (jA s.mem p n=mY):=by show _=_;unfold jA Rn.load;rw[E];rfl
  clear h hi hp E t;unfold vv at Z ⊢
  go_enter func168, ntmps168
  go_wp2_with (first|(go_at_call 187;refine Z.out.mono ?_;rintro e H ⟨rfl,J⟩)|(go_at_call 167;refine(dx _).mono ?_;rintro e w2 ⟨rfl,rfl⟩))
  go_ret;exact⟨by rw[I.out];rfl,HB.out.trans J⟩
 ·obtain⟨bj,cp,M,K,ae,CS⟩:=gJ (h.gr t) hf hi p hp n hn1 hn E
  obtain⟨j,A⟩:∃j,Rn.bytesAt s.mem p n=some j:=by
   cases q:Rn.bytesAt s.mem p n with
   | none=>exact absurd q E
   | some j=>exact⟨j,rfl⟩
  obtain⟨bl,br⟩:=Rn.bytesAt_range hi.bytes A
  have L:p.p=false:=by
   cases q:p.p with
   | false=>rfl
   | true=>exact absurd (by unfold Rn.bytesAt;rw[tB (.inl q)]) E
  obtain⟨p1,p2,p3,p4⟩:=hp.ptr L;obtain⟨ab,ac,l,g,-,hl,-,-,-,-,-,-,-,-,ad,u,d⟩:=h.slot hf hi p1 p2;rw[M]at g;injection g with g;injection g with e1 e2;subst e1;subst e2
  have HC:Hid (∀H,Gr w H->∀k z,j[k]?=some z->H.cell? ⟨bj,p.n.toNat+k,none⟩=some (.int .i64 z)):=by
   intro H J k z r;have hr:=(J.heap _ (cX u)).trans u;rw[tv _ _ _ _ _ _ hr];refine d _ _ ?_;have:=A;unfold Rn.bytesAt at this;split at this
   ·cases this
   ·injection this with this;rw[<-this,hl]at r;rw[tk]at r;split at r
    ·rwa [List.getElem?_drop]at r
    ·cases r
  have I:Hid (jA s.mem p n=if j.any (fun b=>decide (b<0))=true then vI Rn.poison else vI (Rn.word (Rn.numB j))):=by show _=_;unfold jA Rn.load;rw[A];simp only[Option.map_some];split<;>rfl
  have S:=dJ br;have C:=dJ CS;obtain⟨R,hR⟩:=xJ (jA s.mem p n);rw[hR]at I ⊢;obtain⟨N,hN⟩:=xJ p.n.toNat;rw[hN]at HC K C;clear E CS A br hp hi h M hl d u t hR hN p1 p2 p3 p4 L;unfold vv at C ⊢
  go_enter func168, ntmps168
  go_wp2_with (first|(go_at_call 187;refine C.out.mono ?_;rintro e H ⟨rfl,J⟩;have D:=dJ (HB.out.trans J)))
  go_loop [9,24] (fun s9 G=>∃k:Nat,k<=n/\G=.int .i64 (k:Int)/\∃x:Int,s9=.int .u32 x/\Hid (x=Rn.numB (j.take k)/\∀z∈j.take k,0<=z/\z<=255)) (fun _ G=>n-(intOf G).toNat)
  case atStart=>exact⟨0,tR _,rfl,0,rfl,rfl,fun z r=>by simp at r⟩
  case round =>
   obtain⟨k,hk,rfl,x,rfl,O⟩:=hrel;by_cases af:k<n
   ·obtain⟨z,r⟩:∃z,j[k]?=some z:=⟨_,sQ (by omega)⟩;have hc:=HC.out H D.out k z r;have Y:=S.out z (sS r);obtain⟨z1,z2⟩:=Y;have U:=dJ r;clear r;by_cases B:z<0
    ·have T:Hid (vI Rn.poison=R):=by
      show _=_;rw[I.out,tB];rw[tP];exact⟨z,sS U.out,by simpa using B⟩
     go_wp2_with (go_at_call 171;refine(dl _).mono ?_;rintro e w8 ⟨rfl,g8⟩);go_ret;exact⟨by rw[<-T.out];rfl,D.out.trans g8⟩
    ·obtain⟨m,hm⟩:∃m,m=8*k:=⟨_,rfl⟩;have ag:8*(k:Int)=(m:Int):=by omega
     have aa:m<32:=by omega
     have HM:=dJ hm;have Q:0<=z:=by omega
     clear B hm;go_wp2;refine⟨⟨k+1,by omega,by go_num,_,rfl,?_,?_⟩,?_⟩
     ·exact Rn.num_step HM.out U.out O.out.1 O.out.2 Q z2 (by omega)
     ·intro y F;rw[List.take_add_one,U.out]at F;simp at F;rcases F with F|rfl
      ·exact O.out.2 y F
      ·exact⟨Q,z2⟩
     ·simp[intOf];omega
   ·have W:k=n:=by omega
    have T:Hid (vI (Rn.word x)=R):=by show _=_;have e:j.take k=j:=tm (by omega);rw[I.out,O.out.1,e,tC];rw[tP];rintro⟨y,F,X⟩;have:=O.out.2 y (by rw[e];exact F);simp at X;omega
    subst W;go_wp2;go_ret;exact⟨by rw[<-T.out];rfl,D.out⟩
structure FrS (S:Nat->Prop)(w w':World):Prop where
 os:w'.os=w.os
 tape:w'.tape=w.tape
 output:w'.output=w.output
 size:w.heap.size<=w'.heap.size
 block:∀k,k<w.heap.size->¬S k->w'.heap[k]?=w.heap[k]?
section
variable {S S':Nat->Prop}{w w' w'' a b:World}
theorem FrS.refl (S:Nat->Prop)(w:World):FrS S w w:=⟨rfl,rfl,rfl,tS _,fun _ _ _=>rfl⟩
theorem FrS.trans (h:FrS S w w')(k:FrS S w' w''):FrS S w w'' :=
 ⟨k.os.trans h.os,k.tape.trans h.tape,k.output.trans h.output,Nat.le_trans h.size k.size,fun j g d=>(k.block j (by have:=h.size;omega) d).trans (h.block j g d)⟩
theorem FrS.of_gr (g:Gr w w'):FrS S w w':=⟨g.os,g.tape,g.output,g.size,fun k d _=>g.heap k d⟩
theorem FrS.mono (h:FrS S w w')(hs:∀k,S k->S' k):FrS S' w w':=⟨h.os,h.tape,h.output,h.size,fun k d g=>h.block k d fun q=>g (hs k q)⟩
theorem FrS.below {n:Nat}(h:FrS S w w')(hS:∀k,S k->n<=k)(hn:n<=w.heap.size):Below n w w':=⟨h.os,h.tape,h.output,h.size,fun k d=>h.block k (by omega) fun q=>by have:=hS k q;omega⟩
theorem FrS.setCell (h:FrS S w a){p:Addr}(hp:S p.block)(u:Value):FrS S w (a.setCell p u) :=
 ⟨h.os,h.tape,h.output,by have:=h.size;simp;omega,fun k g d=>(tH _ _ _ _ (fun e=>d (by rw[e];exact hp))).trans (h.block k g d)⟩
theorem FrS.alloc (h:FrS S w a)(o:Obj):FrS S w (a.alloc o):=h.trans (FrS.of_gr ((tX a).alloc o))
theorem FrS.drewN (h:FrS S w a)(n:Nat):FrS S w (a.drewN n):=⟨h.os,h.tape,h.output,h.size,h.block⟩
theorem FrS.drew (h:FrS S w a):FrS S w a.drew:=⟨h.os,h.tape,h.output,h.size,h.block⟩
end
def Mut (c:Cfg)(k:Nat):Prop:=k=c.Bs\/k=c.Bv\/k=c.Bh\/∃j cp:Nat,c.us[j]?=some (k,cp)
theorem PS.mut {c:Cfg}{w:World}{s:Rn.St}{b frm:Int}{vt:Value}(h:PS c w s b frm vt){k:Nat}(hk:Mut c k):c.n₀<=k:=by
 obtain⟨l,m,p,r,t,q⟩:=h.old;rcases hk with rfl|rfl|rfl|⟨j,d,g⟩
 ·exact l
 ·exact m
 ·exact p
 ·exact(q j k d g).1
section
variable {c:Cfg}{w w':World}{s:Rn.St}{b frm:Int}{vt:Value}
theorem df {w:World}{i j:Nat}{x y:Array Value}{t u:TypeId}{fx fy:Nat × Nat}(h1:w.heap[i]?=some (.cells x t fx))(h2:w.heap[j]?=some (.cells y u fy))(hn:t≠u):i≠j:=by intro e;subst e;rw[h1]at h2;injection h2 with h2;injection h2 with _ h2;exact hn h2
theorem fk {us:List (Nat × Nat)}(h:(us.map (·.1)).Nodup){i j b x y:Nat}(hij:i<j)(h1:us[i]?=some (b,x))(h2:us[j]?=some (b,y)):False:=by obtain⟨l,d⟩:=sR.1 h1;obtain⟨m,g⟩:=sR.1 h2;have:=List.pairwise_iff_getElem.1 h i j (by simpa using l) (by simpa using m) hij;simp[d,g]at this
theorem PS.memSet (h:PS c w s b frm vt){j bj cp:Nat}{l l':List Int}{cur:Array Value}(hus:c.us[j]?=some (bj,cp))(hl:s.mem[j]?=some l)(hll:l'.length=l.length)(hF:FrS (·=bj) w w')(hb:w'.heap[bj]?=some (.cells cur 3 (0,0)))
  (hc:∀(i:Nat)(z:Int),l'[i]?=some z->cur[i]?=some (.int .i64 z)):PS c w' {s with mem:=s.mem.set j l' } b frm vt:=by
 obtain⟨Y,R,F,y,Z⟩:=h.mem.2 j bj cp l hus hl;have L:=df h.st y (by decide);have M:=df h.vals y (by decide);have N:=df h.had y (by decide);obtain⟨S,T,U,W,X,O⟩:=h.old;obtain⟨P,Q⟩:=O j bj cp hus
 exact {
   st:=(hF.block _ (cX h.st) L).trans h.st
   vals:=(hF.block _ (cX h.vals) M).trans h.vals
   had:=(hF.block _ (cX h.had) N).trans h.had
   hlen:=h.hlen
   mem:=⟨by rw[List.length_set];exact h.mem.1,fun G E A m g t=>by
     by_cases e:j=G
     · subst e
       rw[hus]at g
       injection g with g
       injection g with g I
       subst g;subst I
       have B:=(sR.1 hl).1
       rw[tL B]at t
       injection t with t
       subst t
       exact⟨by omega,R,cur,hb,hc⟩
     · rw[List.getElem?_set_ne e]at t
       obtain⟨u,p,d,r,D⟩:=h.mem.2 G E A m g t
       have C:E≠bj:=by
         intro H;subst H
         rcases Nat.lt_or_gt_of_ne e with q|q
         · exact fk h.apart q hus g
         · exact fk h.apart q g hus
       exact⟨u,p,d,(hF.block _ (cX r) C).trans r,D⟩⟩
   slots:=⟨h.slots.1,h.slots.2.1,fun K=>by
     obtain⟨u,d,p,r⟩:=h.slots.2.2 K
     exact⟨u,d,(hF.block _ (cX p) (df p y (by decide))).trans p,r⟩⟩
   fn:=h.fn.below (hF.below (fun k J=>by rw[J];exact P) h.n₀)
   first:=by
     obtain⟨u,p,d,r,D⟩:=h.first
     exact⟨u,p,d,(hF.block _ (cX r) (fun e=>Q e.symm)).trans r,D⟩
   old:=h.old
   apart:=h.apart}
end
namespace Rn
theorem bytesOf_get (x:V):∀(n k:Nat)(z:Int),k<n->(bytesOf x n z)[k]?=some (if x.p=true then -1 else z / 256 ^ k%256)
 | 0,k,z,h=>by omega
 | n+1,0,z,_=>by simp[bytesOf]
 | n+1,k+1,z,h=>by
  have:=bytesOf_get x n k (z / 256) (by omega)
  rw[bytesOf,sV,this,Int.pow_succ,Int.mul_comm,Int.ediv_ediv_of_nonneg (by decide)]
theorem overlay_get {l bs:List Int}{a:Nat}(h:a+bs.length<=l.length)(i:Nat):(overlay l a bs)[i]?=if a<=i/\i<a+bs.length then bs[i-a]? else l[i]?:=by
 unfold overlay;have d:(l.take a).length=a:=by rw[List.length_take];omega
 by_cases g:i<a
 ·rw[tC (by omega),List.append_assoc,te (by omega),tk,tB g]
 ·rw[List.append_assoc,tj (by omega),d];by_cases j:i<a+bs.length
  ·rw[tB ⟨by omega,j⟩,te (by omega)]
  ·rw[tC (by omega),tj (by omega),List.getElem?_drop];congr 1;omega
theorem overlay_zero (l:List Int)(a:Nat):overlay l a []=l:=by unfold overlay;simp
theorem overlay_step {l bs:List Int}{a k:Nat}{y:Int}(h:a+bs.length<=l.length)(hk:bs[k]?=some y):overlay l a (bs.take (k+1))=(overlay l a (bs.take k)).set (a+k) y:=by
 have m:=(sR.1 hk).1;have g:(bs.take (k+1)).length=k+1:=by rw[List.length_take];omega
 have j:(bs.take k).length=k:=by rw[List.length_take];omega
 apply List.ext_getElem?;intro i;rw[overlay_get (by omega)];by_cases e:a+k=i
 ·subst e;rw[tL (by rw[overlay_len (by omega)];omega),tB ⟨by omega,by omega⟩,show a+k-a=k by omega,tk,tB (by omega),hk]
 ·rw[List.getElem?_set_ne e,overlay_get (by omega),g,j];by_cases d:a<=i/\i<a+k
  ·rw[tB ⟨d.1,by omega⟩,tB d,tk,tk,tB (by omega),tB (by omega)]
  ·rw[tC (by omega),tC d]
end Rn
def onI:Value:=.iface 208 (.agg #[])
theorem qJ (X:Int)(k m:Nat)(hm:m=8*k)(h0:0<=X)(h1:X<4294967296):bits .and .u32 (X / 2 ^ m) 255=X / 256 ^ k%256:=by have e:=Wd.mask_and (n:=8) (x:=X / 2 ^ m) ⟨by decide,by decide⟩ (tQ h0 (Int.le_of_lt (Int.pow_pos (by decide)))) (Int.lt_of_le_of_lt (Int.ediv_le_self _ h0) h1);rw[Rn.pow_256 k m hm];exact e
def RowIs (bj:Nat)(l:List Int)(w:World):Prop:=∃cur:Array Value,w.heap[bj]?=some (.cells cur 3 (0,0))/\∀(i:Nat)(z:Int),l[i]?=some z->cur[i]?=some (.int .i64 z)
theorem RowIs.cell {bj:Nat}{l:List Int}{w:World}(h:RowIs bj l w){i:Nat}{z:Int}(hz:l[i]?=some z):w.cell? ⟨bj,i,none⟩=some (.int .i64 z):=by obtain⟨d,g,j⟩:=h;exact(tv _ _ i _ _ _ g).trans (j i z hz)
theorem RowIs.free {bj:Nat}{l:List Int}{w:World}(h:RowIs bj l w)(i:Nat):w.frozen? ⟨bj,i,none⟩=false:=by obtain⟨d,g,j⟩:=h;unfold World.frozen?;simp[g]
theorem RowIs.set {bj:Nat}{l:List Int}{w:World}(h:RowIs bj l w){i:Nat}(hi:i<l.length)(y:Int):RowIs bj (l.set i y) (w.setCell ⟨bj,i,none⟩ (.int .i64 y)):=by
 obtain⟨g,q,p⟩:=h;refine⟨_,cY _ q,fun j z d=>?_⟩
 have m:i<g.size:=by have:=p i l[i] (sQ hi);exact(sZ.1 this).1
 by_cases e:i=j
 ·subst e;rw[tL hi]at d;injection d with d;subst d;rw[Array.getElem?_setIfInBounds_self_of_lt m]
 ·rw[List.getElem?_set_ne e]at d;rw[Array.getElem?_setIfInBounds_ne e];exact p j z d
theorem RowIs.gr {bj:Nat}{l:List Int}{w w':World}(h:RowIs bj l w)(g:Gr w w'):RowIs bj l w':=by obtain⟨d,j,m⟩:=h;exact⟨d,(g.heap _ (cX j)).trans j,m⟩
def ja (c:Cfg)(w:World)(s:Rn.St)(b frm:Int)(vt:Value)(p x:Rn.V)(n:Nat)(e:Ending)(w':World):Prop :=
 match Rn.store s.mem p x n with
 | none=>e=.returned mY/\Gr w w'
 | some m=>e=.returned onI/\PS c w' {s with mem:=m} b frm vt/\FrS (Mut c) w w'
theorem mE {c:Cfg}{w:World}{s:Rn.St}{b frm:Int}{vt:Value}(h:PS c w s b frm vt)(hf:VFn c.f)(hi:Rn.Inv c.f s)(p x:Rn.V)(hp:Rn.VOK c.f 33 p)(n:Nat)(hn1:1<=n)(hn:n<=4)(hx:0<=x.n/\x.n<4294967296) :
  Calls prog 169 #[.pointer (some ⟨c.Bs,0,none⟩),vv p,vv x,.int .i64 n] w (ja c w s b frm vt p x n):=by
 obtain⟨W,hW⟩:=xJ ((w.alloc (.cells #[.bool p.p,.int .i64 p.s,.int .u32 p.n] 24)).alloc (.cells #[.bool x.p,.int .i64 x.s,.int .u32 x.n] 24));have j:Gr w W:=by rw[<-hW];exact((tX w).alloc _).alloc _
 have HB:=dJ j;have B:Gr (w.alloc (.cells #[.bool p.p,.int .i64 p.s,.int .u32 p.n] 24)) W:=by rw[<-hW];exact(tX _).alloc _
 have g2:Gr ((w.alloc (.cells #[.bool p.p,.int .i64 p.s,.int .u32 p.n] 24)).alloc (.cells #[.bool x.p,.int .i64 x.s,.int .u32 x.n] 24)) W:=by rw[hW];exact tX _
 have L:W.heap.size=w.heap.size+2:=by rw[<-hW];exact iY _ _ _
 have a0:W.cell? ⟨w.heap.size,0,none⟩=some (.bool p.p):=da _ _ 0 B rfl;have a1:W.cell? ⟨w.heap.size,1,none⟩=some (.int .i64 p.s):=da _ _ 1 B rfl;have a2:W.cell? ⟨w.heap.size,2,none⟩=some (.int .u32 p.n):=da _ _ 2 B rfl;have x0:W.cell? ⟨w.heap.size+1,0,none⟩=some (.bool x.p):=da _ _ 0 g2 (by simp);have x2:W.cell? ⟨w.heap.size+1,2,none⟩=some (.int .u32 x.n):=da _ _ 2 g2 (by simp)
 have HX:Hid (∀w',FrS (fun k=>k<w.heap.size) W w'->w'.cell? ⟨w.heap.size+1,0,none⟩=some (.bool x.p)/\w'.cell? ⟨w.heap.size+1,2,none⟩=some (.int .u32 x.n)):=fun w' q=>by have e:=q.block (w.heap.size+1) (by omega) (by omega);exact⟨(tN (a:=⟨w.heap.size+1,0,none⟩) e).trans x0,(tN (a:=⟨w.heap.size+1,2,none⟩) e).trans x2⟩
 have ap:=dJ L;by_cases C:Rn.bytesAt s.mem p n=none
 ·have CN:=dJ (gI (h.gr j) hf hi p hp n hn C)
  have HR:Hid (Rn.store s.mem p x n=none):=by
   show _=_;unfold Rn.bytesAt at C;unfold Rn.store;split at C;next q=>rw[tB q]
   next q=>cases C
  clear h hi hp C j B g2 L x0 x2;unfold vv at CN ⊢
  go_enter func169, ntmps169
  go_wp2_with (first|(go_at_call 187;refine CN.out.mono ?_;rintro e w1 ⟨rfl,B⟩)|(go_at_call 167;refine(dx _).mono ?_;rintro e w2 ⟨rfl,rfl⟩))
  go_ret;unfold ja;rw[HR.out];exact⟨rfl,HB.out.trans B⟩
 ·obtain⟨y,cp,E,Z,au,CS⟩:=gJ (h.gr j) hf hi p hp n hn1 hn C
  have M:p.p=false:=by
   cases q:p.p with
   | false=>rfl
   | true=>exact absurd (by unfold Rn.bytesAt;rw[tB (.inl q)]) C
  obtain⟨p1,p2,p3,p4⟩:=hp.ptr M;obtain⟨aq,ar,l,u,ab,hl,-,-,-,-,-,-,-,-,ag,A,t⟩:=h.slot hf hi p1 p2;rw[E]at u;injection u with u;injection u with e1 e2;subst e1;subst e2
  have aa:p.n.toNat+n<=l.length:=by
   rcases tF l.length (p.n.toNat+n) with q|q
   ·exact absurd (by unfold Rn.bytesAt;rw[hl,tB (.inr q)]) C
   ·exact q
  obtain⟨z,D⟩:=xJ (Rn.bytesOf x n x.n);have ah:z.length=n:=by rw[<-D];exact Rn.bytesOf_len _ _ _
  have ad:Hid (∀k,k<n->z[k]?=some (if x.p=true then -1 else x.n / 256 ^ k%256)):=fun k hk=>by rw[<-D];exact Rn.bytesOf_get x n k x.n hk
  have U:Hid (Rn.store s.mem p x n=some (s.mem.set (p.s-1).toNat (Rn.overlay l p.n.toNat z))):=by show _=_;unfold Rn.store;rw[tC (by rw[hl,M];simp;omega),hl,D]
  have F:Hid (∀w',RowIs y (Rn.overlay l p.n.toNat z) w'->FrS (·=y) W w'->PS c w' {s with mem:=s.mem.set (p.s-1).toNat (Rn.overlay l p.n.toNat z)} b frm vt/\FrS (Mut c) w w'):=fun w' hr r=>by obtain⟨an,r1,r2⟩:=hr;exact⟨(h.gr j).memSet E ab (Rn.overlay_len (by omega)) r r1 r2,(FrS.of_gr j).trans (r.mono fun k hk=>by rw[hk];exact .inr (.inr (.inr ⟨_,cp,E⟩)))⟩
  have T:Hid (RowIs y l W):=(RowIs.gr ⟨ag,A,t⟩ j:RowIs y l W);have X:=cX A;have R:=dJ X;have H:=dJ CS;obtain⟨N,hN⟩:=xJ p.n.toNat;rw[hN]at Z H U F aa;have I:=dJ aa;have ax:=hx.1;have ay:=hx.2;have ae:=dJ fun k m hm=>qJ x.n k m hm hx.1 hx.2;clear C CS D hp hi h E hl t A j hN p1 p2 p3 p4 M B g2 L X ab x0 x2;unfold vv at H ⊢
  go_enter func169, ntmps169
  go_wp2_with (first|(go_at_call 187;refine H.out.mono ?_;rintro e w1 ⟨rfl,B⟩;have S:=dJ B))
  have af:=dJ (T.out.gr S.out)
  go_loopw [24] (fun Q wr=>∃k:Nat,k<=n/\Q=.int .i64 (k:Int)/\Hid (RowIs y (Rn.overlay l N (z.take k)) wr)/\Hid (FrS (·=y) W wr)) (fun Q _=>n-(intOf Q).toNat)
  case atStart=>exact⟨0,tR _,rfl,by (show RowIs _ _ _);rw[List.take_zero,Rn.overlay_zero];exact af.out,FrS.of_gr S.out⟩
  case round =>
   obtain⟨k,hk,rfl,d,r⟩:=hrel;by_cases ak:k<n
   ·have al:(Rn.overlay l N (z.take k)).length=l.length:=Rn.overlay_len (by rw[List.length_take];have:=I.out;omega);have K:N+k<(Rn.overlay l N (z.take k)).length:=by have:=I.out;omega
    obtain⟨old,G⟩:∃v:Int,(Rn.overlay l N (z.take k))[N+k]?=some v:=⟨_,sQ K⟩;have hc:=d.out.cell G;have av:=d.out.free (N+k);obtain⟨y0,y2⟩:=HX.out wr (r.out.mono fun q hq=>by have:=R.out;omega);have y3:∀v,(wr.setCell ⟨y,N+k,none⟩ v).cell? ⟨w.heap.size+1,0,none⟩=some (.bool x.p):=fun v=>(World.cell?_setCell_far _ ⟨y,N+k,none⟩ ⟨w.heap.size+1,0,none⟩ v (by show y≠w.heap.size+1;have:=R.out;omega)).trans y0;obtain⟨m,hm⟩:∃m,m=8*k:=⟨_,rfl⟩;have aw:8*(k:Int)=(m:Int):=by omega
    have ao:m<32:=by omega
    have HM:=dJ hm;have Y:=ad.out k ak;have ac:=Rn.overlay_step (l:=l) (a:=N) (by rw[ah];exact I.out) Y;have g:=dJ ac;have J:=dJ K;have ai:bits .and .u32 (x.n / 2 ^ m) 255=x.n / 256 ^ k%256:=ae.out k m hm;obtain⟨yb,O⟩:=xJ (x.n / 256 ^ k%256);have am:0<=yb/\yb<256:=by rw[<-O];exact⟨Int.emod_nonneg _ (by decide),Int.emod_lt_of_pos _ (by decide)⟩
    obtain⟨az,aA⟩:=am;rw[O]at ai g;clear hm Y ac O G K al
    cases hxp:x.p with
    | true =>
     rw[hxp,tB rfl]at g;rw[hxp]at y0;simp only[hxp]at y3;clear hxp;go_wp2;refine⟨⟨k+1,by omega,by go_num,?_,?_⟩,by simp[intOf];omega⟩
     ·show RowIs _ _ _;rw[g.out];have r1:=d.out.set J.out yb;have r2:=r1.set (i:=N+k) (by rw[List.length_set];exact J.out) (-1)
      rwa [List.set_set]at r2
     ·exact(r.out.setCell (p:=⟨y,N+k,none⟩) rfl _).setCell (p:=⟨y,N+k,none⟩) rfl _
    | false =>
     rw[hxp,tC (by decide)]at g;rw[hxp]at y0;simp only[hxp]at y3;clear hxp;go_wp2;refine⟨⟨k+1,by omega,by go_num,?_,?_⟩,by simp[intOf];omega⟩
     ·show RowIs _ _ _;rw[g.out];exact d.out.set J.out yb
     ·exact r.out.setCell (p:=⟨y,N+k,none⟩) rfl _
   ·have aj:k=n:=by omega
    subst aj;go_wp2;go_ret;unfold ja;rw[U.out];have e:z.take k=z:=tm (by omega);rw[e]at d;obtain⟨r1,r2⟩:=F.out _ d.out r.out;exact⟨rfl,r1,r2⟩
theorem gY (o n l a b:Int)(w:World)(ho:o=19\/o=20)(hn:Wd.Wid n)(ha:Wd.Word n a)(hb:Wd.Word n b)(hl1:1<=l)(hl2:l<n)(hl3:n%l=0):Calls prog 195 #[.int .i64 o,.int .i64 n,.int .i64 l,.int .u32 a,.int .u32 b] w (RG (.tuple #[.int .u32 (Wd.lanes o l (n / l).toNat a b),.int .i64 0]) w):=by
 have Y:=dJ (rH n a b hn ha hb);have p:Wd.Wid l:=⟨hl1,by have:=hn.2;omega⟩;have B:=dJ fun M=>dy l M p;obtain⟨n1,n2⟩:=id hn;obtain⟨s,H⟩:=xJ (Wd.sz l-1);obtain⟨L,Z⟩:=tb (show 0<=l by omega);have u:=dJ Z;clear Z;obtain⟨K,E⟩:=xJ ((n / l).toNat);rw[H]at B;rw[E];have aa:(n.tmod l != 0)=false:=by rw[Int.tmod_eq_emod_of_nonneg (by omega),hl3];rfl
 have U:(n%l != 0)=false:=by rw[hl3];rfl
 have c0:(l == 0)=false:=by simp;omega
 have C:Hid (n=L*K):=by
  show _=_;have q:=Int.mul_ediv_add_emod n l;have N:0<=n / l:=tQ (by omega) (by omega);have J:((K:Nat):Int)=n / l:=by omega
  rw[J,<-u.out];omega
 have E:=dJ E;have H:=dJ H;have r:0<=a/\a<4294967296:=⟨ha.1,by have:=Wd.sz_32 hn;have:=ha.2;omega⟩;have t:0<=b/\b<4294967296:=⟨hb.1,by have:=Wd.sz_32 hn;have:=hb.2;omega⟩;rcases ho with rfl|rfl
 ·have D:=dJ fun m=>qR p m r t;have Q:=dJ fun(k m:Nat)(x v:Int)=>jz (o:=19) (a:=a) (b:=b) (x:=x) (v:=v) (k:=k) (m:=m) hn hl1 u.out E.out hl3;rw[H.out]at D;clear hn ha hb p hl3 r t
  go_enter func195, ntmps195
  go_wp2_with (go_at_call 210;refine(Y.out _ _ (by simp) (by simp)).mono ?_;rintro e M ⟨rfl,rfl⟩);have O:=dJ ((tX w).alloc (.cells #[.int .u32 a,.int .u32 b] 22))
  go_loopw [12,13] (fun A g wr=>∃(k m:Nat)(x:Int),k<=K/\Hid (m=k*L)/\Hid (x=Wd.lanes 19 l k a b)/\A=.int .u32 x/\g=.int .i64 (m:Int)/\Hid (Gr w wr)) (fun _ g _=>n.toNat-(intOf g).toNat)
  case atStart=>exact⟨0,0,0,tR _,by (show _=_;omega),rfl,rfl,rfl,O⟩
  case round =>
   obtain⟨k,m,x,hk,G,I,rfl,rfl,F⟩:=hrel;by_cases j:(m:Int)<n
   ·have W:m<32:=by omega
    have d:=dJ j;go_wp2;go_quiet ((go_at_call 147;exact dj (B.out _)));all_goals go_wp2_with (go_at_call 147;refine(B.out _).mono ?_;rintro e M ⟨rfl,rfl⟩)
    all_goals
     obtain⟨X,N,J⟩:=Q.out k m x _ G.out I.out d.out (D.out m);have y:=u.out;refine⟨⟨k+1,m+L,_,N,J,X,rfl,?_,F.out.drewN _⟩,?_⟩
     ·rw[y];simp
     ·simp[intOf];omega
   ·have d:=dJ j;go_wp2;go_ret2
    have e:k=K:=by
     have R:=C.out;have S:=G.out;have T:¬(m:Int)<n:=by have:=d.out;omega
     rcases tF k K with h|h
     ·exfalso;apply T;rw[R,S];have:(k:Int)<K:=by omega
      have z:(0:Int)<(L:Int):=by have:=u.out;omega
      have:=Int.mul_lt_mul_of_pos_left this z;rw[Int.natCast_mul,Int.mul_comm];exact this
     ·omega
    subst e;exact⟨by rw[<-I.out];rfl,F.out⟩
 ·have D:=dJ fun m=>qS p m r t;have Q:=dJ fun(k m:Nat)(x v:Int)=>jz (o:=20) (a:=a) (b:=b) (x:=x) (v:=v) (k:=k) (m:=m) hn hl1 u.out E.out hl3;rw[H.out]at D;clear hn ha hb p hl3 r t
  go_enter func195, ntmps195
  go_wp2_with (go_at_call 210;refine(Y.out _ _ (by simp) (by simp)).mono ?_;rintro e M ⟨rfl,rfl⟩);have O:=dJ ((tX w).alloc (.cells #[.int .u32 a,.int .u32 b] 22))
  go_loopw [12,13] (fun A g wr=>∃(k m:Nat)(x:Int),k<=K/\Hid (m=k*L)/\Hid (x=Wd.lanes 20 l k a b)/\A=.int .u32 x/\g=.int .i64 (m:Int)/\Hid (Gr w wr)) (fun _ g _=>n.toNat-(intOf g).toNat)
  case atStart=>exact⟨0,0,0,tR _,by (show _=_;omega),rfl,rfl,rfl,O⟩
  case round =>
   obtain⟨k,m,x,hk,G,I,rfl,rfl,F⟩:=hrel;by_cases j:(m:Int)<n
   ·have W:m<32:=by omega
    have d:=dJ j;go_wp2;go_quiet ((go_at_call 147;exact dj (B.out _)));all_goals go_wp2_with (go_at_call 147;refine(B.out _).mono ?_;rintro e M ⟨rfl,rfl⟩)
    all_goals
     obtain⟨X,N,J⟩:=Q.out k m x _ G.out I.out d.out (D.out m);have y:=u.out;refine⟨⟨k+1,m+L,_,N,J,X,rfl,?_,F.out.drewN _⟩,?_⟩
     ·rw[y];simp
     ·simp[intOf];omega
   ·have d:=dJ j;go_wp2;go_ret2
    have e:k=K:=by
     have R:=C.out;have S:=G.out;have T:¬(m:Int)<n:=by have:=d.out;omega
     rcases tF k K with h|h
     ·exfalso;apply T;rw[R,S];have:(k:Int)<K:=by omega
      have z:(0:Int)<(L:Int):=by have:=u.out;omega
      have:=Int.mul_lt_mul_of_pos_left this z;rw[Int.natCast_mul,Int.mul_comm];exact this
     ·omega
    subst e;exact⟨by rw[<-I.out];rfl,F.out⟩
theorem dg {P:Program}{id:Nat}{Q:Exit->Act->World->Prop}{a:Act}{w:World}{l:List Oper}(hm:P.follows .mixedOrders=true)(hB:Region.lexB .any l.toArray=true)
  (h:wpQuiet P l.toArray (fun w'=>∃u:GrW w,w'=u.val) (fun a'=>∀w',(∃u:GrW w,w'=u.val)->Q .normal a' w') l a):(Code.region id l.toArray true).wp P Q a w :=
 wp_region_quiet (C:=fun w'=>∃u:GrW w,w'=u.val) hm hB ⟨⟨w.drew,(tX w).drew⟩,rfl⟩ (by simpa using h)
instance (w:World):Nonempty (GrW w):=⟨⟨w,tX w⟩⟩
theorem dt {P:Program}{f:FuncId}{args:Array Value}{w:World}{v:Value}(u:GrW w)
  (h:Calls P f args u.val (RG v u.val)):Calls P f args u.val fun e w''=>e=.returned v/\∃u':GrW w,w''=u'.val :=
 h.mono fun _ w' ⟨d,g⟩=>⟨d,⟨w',u.gr.trans g⟩,rfl⟩
def LAt (w:World)(vl:Value)(l:List Rn.V):Prop:=∃bl,vl=.slice (some ⟨bl,0,none⟩) l.length l.length/\w.heap[bl]?=some (.cells (dF l).toArray 24 (0,0))
theorem LAt.gr {w w':World}{vl:Value}{l:List Rn.V}(h:LAt w vl l)(g:Gr w w'):LAt w' vl l:=by obtain⟨d,e,h⟩:=h;exact⟨d,e,(g.heap _ (cX h)).trans h⟩
theorem LAt.cells {w:World}{bl:Nat}{l:List Rn.V}(h:w.heap[bl]?=some (.cells (dF l).toArray 24 (0,0))){k:Nat}{v:Rn.V}(hv:l[k]?=some v) :
  w.cell? ⟨bl,3*k,none⟩=some (.bool v.p)/\w.cell? ⟨bl,3*k+1,none⟩=some (.int .i64 v.s)/\w.cell? ⟨bl,3*k+2,none⟩=some (.int .u32 v.n):=by
 obtain⟨d,g,j⟩:=eH l k v hv;refine⟨?_,?_,?_⟩
 ·rw[tv _ _ _ _ _ _ h];simpa using d
 ·rw[tv _ _ _ _ _ _ h];simpa using g
 ·rw[tv _ _ _ _ _ _ h];simpa using j
def eU (w:World)(x:Ins)(va vt:Value):World:=w.alloc (.cells #[.int .i64 x.op,.int .i64 x.width,.int .i64 x.flags,va,.int .u32 x.imm,vt] 68)
theorem dn {w:World}{x:Ins}{va vt:Value}{w':World}(g:Gr (eU w x va vt) w') :
  w'.cell? ⟨w.heap.size,0,none⟩=some (.int .i64 x.op)/\w'.cell? ⟨w.heap.size,1,none⟩=some (.int .i64 x.width)/\w'.cell? ⟨w.heap.size,2,none⟩=some (.int .i64 x.flags)/\w'.cell? ⟨w.heap.size,3,none⟩=some va/\w'.cell? ⟨w.heap.size,4,none⟩=some (.int .u32 x.imm)/\w'.cell? ⟨w.heap.size,5,none⟩=some vt :=
 ⟨da _ _ 0 g rfl,da _ _ 1 g rfl,da _ _ 2 g rfl,da _ _ 3 g rfl,da _ _ 4 g rfl,da _ _ 5 g rfl⟩
section
variable {c:Cfg}{w:World}{s:Rn.St}{b frm:Int}{vt:Value}
theorem oq (h:PS c w s b frm vt)(hf:VFn c.f)(x:Ins)(va vt':Value)(hx:IntsAt c.n₀ w va x.args)(vl:Value)(l0 l1:Rn.V)(hl:LAt w vl [l0,l1])(o:x.op=14)(a d:Int)(ha:x.args=[a,d])(hk:Wd.Wid (Ref.kind c.f a))(hi:0<=x.imm/\x.imm<=9)(h0:Wd.Word (Ref.kind c.f a) l0.n)(h1:Wd.Word (Ref.kind c.f a) l1.n) :
  Calls prog 173 #[.pointer (some ⟨c.Bs,0,none⟩),du x va vt',vl] w (RG (vI (Rn.truth (Wd.cmp x.imm (Ref.kind c.f a) l0.n l1.n))) w):=by
 obtain⟨W,m⟩:=xJ (eU w x va vt');have g:Gr w W:=by rw[<-m];exact(tX w).alloc _
 have J:Gr (eU w x va vt') W:=by rw[m];exact tX _
 have p:=Rn.kind_pos (f:=c.f) (v:=a) (by have:=hk.1;omega);have E:=dJ fun(u:GrW W)=>ep (h.gr (g.trans u.gr)) hf a p.1 p.2;obtain⟨k,q⟩:=xJ (Ref.kind c.f a);rw[q]at E hk h0 h1 ⊢;have D:=dJ fun(w1:World)=>jg x.imm k l0.n l1.n w1 hi hk h0 h1;obtain⟨t,K⟩:=xJ (Wd.cmp x.imm k l0.n l1.n);rw[K]at D ⊢;have m0:=hi.1;have m1:x.imm<4294967296:=by omega
 obtain⟨y,rfl,j⟩:=hl;obtain⟨Aa,ca,rfl,a1,a2,a3⟩:=hx;rw[ha]at a1 a3;obtain⟨r,C,rfl,aa,a4⟩:=a3 (by simp);have l:r<w.heap.size:=by have:=h.n₀;omega
 have H:=a4 0 a rfl;have I:=a4 1 d rfl;have X:=fun(u:GrW W)=>dn (J.trans u.gr);have G:∀u:GrW W,u.val.cell? ⟨w.heap.size,0,none⟩=some (.int .i64 14):=fun u=>by rw[<-o];exact(X u).1
 have U:W.cell? ⟨w.heap.size,0,none⟩=some (.int .i64 14):=G ⟨W,tX _⟩;have Y:∀u:GrW W,u.val.cell? ⟨w.heap.size,1,none⟩=some (.int .i64 x.width):=fun u=>(X u).2.1;have Z:∀u:GrW W,u.val.cell? ⟨w.heap.size,2,none⟩=some (.int .i64 x.flags):=fun u=>(X u).2.2.1;have V3:∀u:GrW W,u.val.cell? ⟨w.heap.size,3,none⟩=some (.slice (some ⟨r,C,none⟩) 2 ca):=fun u=>by have:=(X u).2.2.2.1;rw[ha]at this;exact this
 have V4:∀u:GrW W,u.val.cell? ⟨w.heap.size,4,none⟩=some (.int .u32 x.imm):=fun u=>(X u).2.2.2.2.1;have L:∀u:GrW W,u.val.cell? ⟨r,C,none⟩=some (.int .i64 a):=fun u=>((g.trans u.gr).cell _ _ l).trans H;have M:∀u:GrW W,u.val.cell? ⟨r,C+1,none⟩=some (.int .i64 d):=fun u=>((g.trans u.gr).cell _ _ l).trans I;have Q:∀u:GrW W,u.val.cell? ⟨y,2,none⟩=some (.int .u32 l0.n):=fun u=>(LAt.cells (((g.trans u.gr).heap _ (cX j)).trans j) (k:=0) rfl).2.2;have S:∀u:GrW W,u.val.cell? ⟨y,1,none⟩=some (.int .i64 l0.s):=fun u=>(LAt.cells (((g.trans u.gr).heap _ (cX j)).trans j) (k:=0) rfl).2.1;have R:∀u:GrW W,u.val.cell? ⟨y,5,none⟩=some (.int .u32 l1.n):=fun u=>(LAt.cells (((g.trans u.gr).heap _ (cX j)).trans j) (k:=1) rfl).2.2;have T:∀u:GrW W,u.val.cell? ⟨y,4,none⟩=some (.int .i64 l1.s):=fun u=>(LAt.cells (((g.trans u.gr).heap _ (cX j)).trans j) (k:=1) rfl).2.1;have N:=dJ g;unfold eU at m;rw[ha,show ([a,d]:List Int).length=2 from rfl]at m ⊢;unfold du;rw[o]at m ⊢;clear h hf q hk h0 h1 K a3 a4 H I j X J g hi
 go_enter func173, ntmps173
 go_wp2;refine dg (by kernel_rfl) (by kernel_rfl) ?_;repeat (go_big_quiet_step ((rename_i u;first|(go_at_call 170;exact dt u (E.out u))|(go_at_call 192;exact dt u (D.out u.val)))))
 refine wpQuiet_nil ?_;intro w9 A;obtain⟨u9,rfl⟩:=A;clear G Y Z V3 V4 L M Q R S T;have F:=dJ fun w1=>mF t w1;obtain⟨z,B⟩:∃z:Int,(if t=true then 1 else 0)=z:=⟨_,rfl⟩;rw[B]at F;have O:=dJ B;clear B;go_wp2_with (go_at_call 193;refine(F.out _).mono ?_;rintro e w8 ⟨rfl,g8⟩);go_ret;exact⟨by unfold Rn.truth;rw[O.out];rfl,(N.out.trans u9.gr).trans g8⟩
theorem kL (h:PS c w s b frm vt)(hf:VFn c.f)(x:Ins)(va vt':Value)(hx:IntsAt c.n₀ w va x.args)(vl:Value)(l0:Rn.V)(hl:LAt w vl [l0])(o:x.op=16)(a:Int)(ha:x.args=[a])(hk:Wd.Wid (Ref.kind c.f a))(hw:Wd.Wid x.width)(hd:Ref.kind c.f a<x.width)(h0:Wd.Word (Ref.kind c.f a) l0.n) :
  Calls prog 173 #[.pointer (some ⟨c.Bs,0,none⟩),du x va vt',vl] w (RG (vI (Rn.word (Wd.ext 16 (Ref.kind c.f a) x.width l0.n))) w):=by
 obtain⟨W,j⟩:=xJ (eU w x va vt');have d:Gr w W:=by rw[<-j];exact(tX w).alloc _
 have D:Gr (eU w x va vt') W:=by rw[j];exact tX _
 have m:=Rn.kind_pos (f:=c.f) (v:=a) (by have:=hk.1;omega);have z:=dJ fun(u:GrW W)=>ep (h.gr (d.trans u.gr)) hf a m.1 m.2;obtain⟨k,p⟩:=xJ (Ref.kind c.f a);rw[p]at z hk h0 hd ⊢;have y:=dJ fun(w1:World)=>fd 16 k x.width l0.n w1 (by decide) hk hw h0 (by rw[tC (by decide)];exact hd);obtain⟨t,E⟩:=xJ (Wd.ext 16 k x.width l0.n);rw[E]at y ⊢;obtain⟨B,rfl,g⟩:=hl;obtain⟨T,ca,rfl,Q,U,a3⟩:=hx;rw[ha]at Q a3;obtain⟨q,F,rfl,R,a4⟩:=a3 (by simp);have l:q<w.heap.size:=by have:=h.n₀;omega
 have C:=a4 0 a rfl;have X:=fun(u:GrW W)=>dn (D.trans u.gr);have A:∀u:GrW W,u.val.cell? ⟨w.heap.size,0,none⟩=some (.int .i64 16):=fun u=>by rw[<-o];exact(X u).1
 have K:W.cell? ⟨w.heap.size,0,none⟩=some (.int .i64 16):=A ⟨W,tX _⟩;have L:∀u:GrW W,u.val.cell? ⟨w.heap.size,1,none⟩=some (.int .i64 x.width):=fun u=>(X u).2.1;have M:∀u:GrW W,u.val.cell? ⟨w.heap.size,2,none⟩=some (.int .i64 x.flags):=fun u=>(X u).2.2.1;have N:∀u:GrW W,u.val.cell? ⟨w.heap.size,3,none⟩=some (.slice (some ⟨q,F,none⟩) 1 ca):=fun u=>by have:=(X u).2.2.2.1;rw[ha]at this;exact this
 have O:∀u:GrW W,u.val.cell? ⟨w.heap.size,4,none⟩=some (.int .u32 x.imm):=fun u=>(X u).2.2.2.2.1;have G:∀u:GrW W,u.val.cell? ⟨q,F,none⟩=some (.int .i64 a):=fun u=>((d.trans u.gr).cell _ _ l).trans C;have I:∀u:GrW W,u.val.cell? ⟨B,2,none⟩=some (.int .u32 l0.n):=fun u=>(LAt.cells (((d.trans u.gr).heap _ (cX g)).trans g) (k:=0) rfl).2.2;have J:∀u:GrW W,u.val.cell? ⟨B,1,none⟩=some (.int .i64 l0.s):=fun u=>(LAt.cells (((d.trans u.gr).heap _ (cX g)).trans g) (k:=0) rfl).2.1;have H:=dJ d;unfold eU at j;rw[ha,show ([a]:List Int).length=1 from rfl]at j ⊢;unfold du;rw[o]at j ⊢;clear h hf p hk h0 hw hd E a3 a4 C g X D d
 go_enter func173, ntmps173
 go_wp2;refine dg (by kernel_rfl) (by kernel_rfl) ?_;repeat (go_big_quiet_step ((rename_i u;first|(go_at_call 170;exact dt u (z.out u))|(go_at_call 194;exact dt u (y.out u.val)))))
 refine wpQuiet_nil ?_;intro Y r;obtain⟨S,rfl⟩:=r;clear A L M N O G I J;go_wp2;go_ret;exact⟨rfl,H.out.trans S.gr⟩
theorem kM (h:PS c w s b frm vt)(hf:VFn c.f)(x:Ins)(va vt':Value)(hx:IntsAt c.n₀ w va x.args)(vl:Value)(l0:Rn.V)(hl:LAt w vl [l0])(o:x.op=17)(a:Int)(ha:x.args=[a])(hk:Wd.Wid (Ref.kind c.f a))(hw:Wd.Wid x.width)(hd:Ref.kind c.f a<x.width)(h0:Wd.Word (Ref.kind c.f a) l0.n) :
  Calls prog 173 #[.pointer (some ⟨c.Bs,0,none⟩),du x va vt',vl] w (RG (vI (Rn.word (Wd.ext 17 (Ref.kind c.f a) x.width l0.n))) w):=by
 obtain⟨W,j⟩:=xJ (eU w x va vt');have d:Gr w W:=by rw[<-j];exact(tX w).alloc _
 have D:Gr (eU w x va vt') W:=by rw[j];exact tX _
 have m:=Rn.kind_pos (f:=c.f) (v:=a) (by have:=hk.1;omega);have z:=dJ fun(u:GrW W)=>ep (h.gr (d.trans u.gr)) hf a m.1 m.2;obtain⟨k,p⟩:=xJ (Ref.kind c.f a);rw[p]at z hk h0 hd ⊢;have y:=dJ fun(w1:World)=>fd 17 k x.width l0.n w1 (by decide) hk hw h0 (by rw[tC (by decide)];exact hd);obtain⟨t,E⟩:=xJ (Wd.ext 17 k x.width l0.n);rw[E]at y ⊢;obtain⟨B,rfl,g⟩:=hl;obtain⟨T,ca,rfl,Q,U,a3⟩:=hx;rw[ha]at Q a3;obtain⟨q,F,rfl,R,a4⟩:=a3 (by simp);have l:q<w.heap.size:=by have:=h.n₀;omega
 have C:=a4 0 a rfl;have X:=fun(u:GrW W)=>dn (D.trans u.gr);have A:∀u:GrW W,u.val.cell? ⟨w.heap.size,0,none⟩=some (.int .i64 17):=fun u=>by rw[<-o];exact(X u).1
 have K:W.cell? ⟨w.heap.size,0,none⟩=some (.int .i64 17):=A ⟨W,tX _⟩;have L:∀u:GrW W,u.val.cell? ⟨w.heap.size,1,none⟩=some (.int .i64 x.width):=fun u=>(X u).2.1;have M:∀u:GrW W,u.val.cell? ⟨w.heap.size,2,none⟩=some (.int .i64 x.flags):=fun u=>(X u).2.2.1;have N:∀u:GrW W,u.val.cell? ⟨w.heap.size,3,none⟩=some (.slice (some ⟨q,F,none⟩) 1 ca):=fun u=>by have:=(X u).2.2.2.1;rw[ha]at this;exact this
 have O:∀u:GrW W,u.val.cell? ⟨w.heap.size,4,none⟩=some (.int .u32 x.imm):=fun u=>(X u).2.2.2.2.1;have G:∀u:GrW W,u.val.cell? ⟨q,F,none⟩=some (.int .i64 a):=fun u=>((d.trans u.gr).cell _ _ l).trans C;have I:∀u:GrW W,u.val.cell? ⟨B,2,none⟩=some (.int .u32 l0.n):=fun u=>(LAt.cells (((d.trans u.gr).heap _ (cX g)).trans g) (k:=0) rfl).2.2;have J:∀u:GrW W,u.val.cell? ⟨B,1,none⟩=some (.int .i64 l0.s):=fun u=>(LAt.cells (((d.trans u.gr).heap _ (cX g)).trans g) (k:=0) rfl).2.1;have H:=dJ d;unfold eU at j;rw[ha,show ([a]:List Int).length=1 from rfl]at j ⊢;unfold du;rw[o]at j ⊢;clear h hf p hk h0 hw hd E a3 a4 C g X D d
 go_enter func173, ntmps173
 go_wp2;refine dg (by kernel_rfl) (by kernel_rfl) ?_;repeat (go_big_quiet_step ((rename_i u;first|(go_at_call 170;exact dt u (z.out u))|(go_at_call 194;exact dt u (y.out u.val)))))
 refine wpQuiet_nil ?_;intro Y r;obtain⟨S,rfl⟩:=r;clear A L M N O G I J;go_wp2;go_ret;exact⟨rfl,H.out.trans S.gr⟩
theorem kN (h:PS c w s b frm vt)(hf:VFn c.f)(x:Ins)(va vt':Value)(hx:IntsAt c.n₀ w va x.args)(vl:Value)(l0:Rn.V)(hl:LAt w vl [l0])(o:x.op=18)(a:Int)(ha:x.args=[a])(hk:Wd.Wid (Ref.kind c.f a))(hw:Wd.Wid x.width)(hd:x.width<Ref.kind c.f a)(h0:Wd.Word (Ref.kind c.f a) l0.n) :
  Calls prog 173 #[.pointer (some ⟨c.Bs,0,none⟩),du x va vt',vl] w (RG (vI (Rn.word (Wd.ext 18 (Ref.kind c.f a) x.width l0.n))) w):=by
 obtain⟨W,j⟩:=xJ (eU w x va vt');have d:Gr w W:=by rw[<-j];exact(tX w).alloc _
 have D:Gr (eU w x va vt') W:=by rw[j];exact tX _
 have m:=Rn.kind_pos (f:=c.f) (v:=a) (by have:=hk.1;omega);have z:=dJ fun(u:GrW W)=>ep (h.gr (d.trans u.gr)) hf a m.1 m.2;obtain⟨k,p⟩:=xJ (Ref.kind c.f a);rw[p]at z hk h0 hd ⊢;have y:=dJ fun(w1:World)=>fd 18 k x.width l0.n w1 (by decide) hk hw h0 (by rw[tB rfl];exact hd);obtain⟨t,E⟩:=xJ (Wd.ext 18 k x.width l0.n);rw[E]at y ⊢;obtain⟨B,rfl,g⟩:=hl;obtain⟨T,ca,rfl,Q,U,a3⟩:=hx;rw[ha]at Q a3;obtain⟨q,F,rfl,R,a4⟩:=a3 (by simp);have l:q<w.heap.size:=by have:=h.n₀;omega
 have C:=a4 0 a rfl;have X:=fun(u:GrW W)=>dn (D.trans u.gr);have A:∀u:GrW W,u.val.cell? ⟨w.heap.size,0,none⟩=some (.int .i64 18):=fun u=>by rw[<-o];exact(X u).1
 have K:W.cell? ⟨w.heap.size,0,none⟩=some (.int .i64 18):=A ⟨W,tX _⟩;have L:∀u:GrW W,u.val.cell? ⟨w.heap.size,1,none⟩=some (.int .i64 x.width):=fun u=>(X u).2.1;have M:∀u:GrW W,u.val.cell? ⟨w.heap.size,2,none⟩=some (.int .i64 x.flags):=fun u=>(X u).2.2.1;have N:∀u:GrW W,u.val.cell? ⟨w.heap.size,3,none⟩=some (.slice (some ⟨q,F,none⟩) 1 ca):=fun u=>by have:=(X u).2.2.2.1;rw[ha]at this;exact this
 have O:∀u:GrW W,u.val.cell? ⟨w.heap.size,4,none⟩=some (.int .u32 x.imm):=fun u=>(X u).2.2.2.2.1;have G:∀u:GrW W,u.val.cell? ⟨q,F,none⟩=some (.int .i64 a):=fun u=>((d.trans u.gr).cell _ _ l).trans C;have I:∀u:GrW W,u.val.cell? ⟨B,2,none⟩=some (.int .u32 l0.n):=fun u=>(LAt.cells (((d.trans u.gr).heap _ (cX g)).trans g) (k:=0) rfl).2.2;have J:∀u:GrW W,u.val.cell? ⟨B,1,none⟩=some (.int .i64 l0.s):=fun u=>(LAt.cells (((d.trans u.gr).heap _ (cX g)).trans g) (k:=0) rfl).2.1;have H:=dJ d;unfold eU at j;rw[ha,show ([a]:List Int).length=1 from rfl]at j ⊢;unfold du;rw[o]at j ⊢;clear h hf p hk h0 hw hd E a3 a4 C g X D d
 go_enter func173, ntmps173
 go_wp2;refine dg (by kernel_rfl) (by kernel_rfl) ?_;repeat (go_big_quiet_step ((rename_i u;first|(go_at_call 170;exact dt u (z.out u))|(go_at_call 194;exact dt u (y.out u.val)))))
 refine wpQuiet_nil ?_;intro Y r;obtain⟨S,rfl⟩:=r;clear A L M N O G I J;go_wp2;go_ret;exact⟨rfl,H.out.trans S.gr⟩
theorem iQ (h:PS c w s b frm vt)(hf:VFn c.f)(x:Ins)(va vt':Value)(hx:IntsAt c.n₀ w va x.args)(vl:Value)(l0 l1:Rn.V)(hl:LAt w vl [l0,l1])(o:x.op=19)(a d:Int)(ha:x.args=[a,d])(hw:Wd.Wid x.width)(h0:Wd.Word x.width l0.n)(h1:Wd.Word x.width l1.n)(i1:1<=x.imm)(i2:x.imm<x.width)(i3:x.width%x.imm=0) :
  Calls prog 173 #[.pointer (some ⟨c.Bs,0,none⟩),du x va vt',vl] w (RG (vI (Rn.word (Wd.lanes 19 x.imm (x.width / x.imm).toNat l0.n l1.n))) w):=by
 obtain⟨W,m⟩:=xJ (eU w x va vt');have j:Gr w W:=by rw[<-m];exact(tX w).alloc _
 have D:Gr (eU w x va vt') W:=by rw[m];exact tX _
 have z:=dJ fun(w1:World)=>gY 19 x.width x.imm l0.n l1.n w1 (by decide) hw h0 h1 i1 i2 i3;obtain⟨t,E⟩:=xJ (Wd.lanes 19 x.imm (x.width / x.imm).toNat l0.n l1.n);rw[E]at z ⊢;have m0:0<=x.imm:=by omega
 have m1:x.imm<4294967296:=by have:=hw.2;omega
 obtain⟨q,rfl,g⟩:=hl;obtain⟨Y,ca,rfl,S,Z,a3⟩:=hx;rw[ha]at S a3;obtain⟨p,y,rfl,T,a4⟩:=a3 (by simp);have l:p<w.heap.size:=by have:=h.n₀;omega
 have B:=a4 0 a rfl;have C:=a4 1 d rfl;have X:=fun(u:GrW W)=>dn (D.trans u.gr);have A:∀u:GrW W,u.val.cell? ⟨w.heap.size,0,none⟩=some (.int .i64 19):=fun u=>by rw[<-o];exact(X u).1
 have M:W.cell? ⟨w.heap.size,0,none⟩=some (.int .i64 19):=A ⟨W,tX _⟩;have N:∀u:GrW W,u.val.cell? ⟨w.heap.size,1,none⟩=some (.int .i64 x.width):=fun u=>(X u).2.1;have O:∀u:GrW W,u.val.cell? ⟨w.heap.size,2,none⟩=some (.int .i64 x.flags):=fun u=>(X u).2.2.1;have Q:∀u:GrW W,u.val.cell? ⟨w.heap.size,3,none⟩=some (.slice (some ⟨p,y,none⟩) 2 ca):=fun u=>by have:=(X u).2.2.2.1;rw[ha]at this;exact this
 have R:∀u:GrW W,u.val.cell? ⟨w.heap.size,4,none⟩=some (.int .u32 x.imm):=fun u=>(X u).2.2.2.2.1;have F:∀u:GrW W,u.val.cell? ⟨p,y,none⟩=some (.int .i64 a):=fun u=>((j.trans u.gr).cell _ _ l).trans B;have G:∀u:GrW W,u.val.cell? ⟨p,y+1,none⟩=some (.int .i64 d):=fun u=>((j.trans u.gr).cell _ _ l).trans C;have I:∀u:GrW W,u.val.cell? ⟨q,2,none⟩=some (.int .u32 l0.n):=fun u=>(LAt.cells (((j.trans u.gr).heap _ (cX g)).trans g) (k:=0) rfl).2.2;have K:∀u:GrW W,u.val.cell? ⟨q,1,none⟩=some (.int .i64 l0.s):=fun u=>(LAt.cells (((j.trans u.gr).heap _ (cX g)).trans g) (k:=0) rfl).2.1;have J:∀u:GrW W,u.val.cell? ⟨q,5,none⟩=some (.int .u32 l1.n):=fun u=>(LAt.cells (((j.trans u.gr).heap _ (cX g)).trans g) (k:=1) rfl).2.2;have L:∀u:GrW W,u.val.cell? ⟨q,4,none⟩=some (.int .i64 l1.s):=fun u=>(LAt.cells (((j.trans u.gr).heap _ (cX g)).trans g) (k:=1) rfl).2.1;have H:=dJ j;unfold eU at m;rw[ha,show ([a,d]:List Int).length=2 from rfl]at m ⊢;unfold du;rw[o]at m ⊢;clear h hf h0 h1 hw i1 i2 i3 E a3 a4 B C g X D j
 go_enter func173, ntmps173
 go_wp2;refine dg (by kernel_rfl) (by kernel_rfl) ?_;repeat (go_big_quiet_step ((rename_i u;(go_at_call 195;exact dt u (z.out u.val)))))
 refine wpQuiet_nil ?_;intro w9 r;obtain⟨U,rfl⟩:=r;clear A N O Q R F G I J K L;go_wp2;go_ret;exact⟨rfl,H.out.trans U.gr⟩
theorem iR (h:PS c w s b frm vt)(hf:VFn c.f)(x:Ins)(va vt':Value)(hx:IntsAt c.n₀ w va x.args)(vl:Value)(l0 l1:Rn.V)(hl:LAt w vl [l0,l1])(o:x.op=20)(a d:Int)(ha:x.args=[a,d])(hw:Wd.Wid x.width)(h0:Wd.Word x.width l0.n)(h1:Wd.Word x.width l1.n)(i1:1<=x.imm)(i2:x.imm<x.width)(i3:x.width%x.imm=0) :
  Calls prog 173 #[.pointer (some ⟨c.Bs,0,none⟩),du x va vt',vl] w (RG (vI (Rn.word (Wd.lanes 20 x.imm (x.width / x.imm).toNat l0.n l1.n))) w):=by
 obtain⟨W,m⟩:=xJ (eU w x va vt');have j:Gr w W:=by rw[<-m];exact(tX w).alloc _
 have D:Gr (eU w x va vt') W:=by rw[m];exact tX _
 have z:=dJ fun(w1:World)=>gY 20 x.width x.imm l0.n l1.n w1 (by decide) hw h0 h1 i1 i2 i3;obtain⟨t,E⟩:=xJ (Wd.lanes 20 x.imm (x.width / x.imm).toNat l0.n l1.n);rw[E]at z ⊢;have m0:0<=x.imm:=by omega
 have m1:x.imm<4294967296:=by have:=hw.2;omega
 obtain⟨q,rfl,g⟩:=hl;obtain⟨Y,ca,rfl,S,Z,a3⟩:=hx;rw[ha]at S a3;obtain⟨p,y,rfl,T,a4⟩:=a3 (by simp);have l:p<w.heap.size:=by have:=h.n₀;omega
 have B:=a4 0 a rfl;have C:=a4 1 d rfl;have X:=fun(u:GrW W)=>dn (D.trans u.gr);have A:∀u:GrW W,u.val.cell? ⟨w.heap.size,0,none⟩=some (.int .i64 20):=fun u=>by rw[<-o];exact(X u).1
 have M:W.cell? ⟨w.heap.size,0,none⟩=some (.int .i64 20):=A ⟨W,tX _⟩;have N:∀u:GrW W,u.val.cell? ⟨w.heap.size,1,none⟩=some (.int .i64 x.width):=fun u=>(X u).2.1;have O:∀u:GrW W,u.val.cell? ⟨w.heap.size,2,none⟩=some (.int .i64 x.flags):=fun u=>(X u).2.2.1;have Q:∀u:GrW W,u.val.cell? ⟨w.heap.size,3,none⟩=some (.slice (some ⟨p,y,none⟩) 2 ca):=fun u=>by have:=(X u).2.2.2.1;rw[ha]at this;exact this
 have R:∀u:GrW W,u.val.cell? ⟨w.heap.size,4,none⟩=some (.int .u32 x.imm):=fun u=>(X u).2.2.2.2.1;have F:∀u:GrW W,u.val.cell? ⟨p,y,none⟩=some (.int .i64 a):=fun u=>((j.trans u.gr).cell _ _ l).trans B;have G:∀u:GrW W,u.val.cell? ⟨p,y+1,none⟩=some (.int .i64 d):=fun u=>((j.trans u.gr).cell _ _ l).trans C;have I:∀u:GrW W,u.val.cell? ⟨q,2,none⟩=some (.int .u32 l0.n):=fun u=>(LAt.cells (((j.trans u.gr).heap _ (cX g)).trans g) (k:=0) rfl).2.2;have K:∀u:GrW W,u.val.cell? ⟨q,1,none⟩=some (.int .i64 l0.s):=fun u=>(LAt.cells (((j.trans u.gr).heap _ (cX g)).trans g) (k:=0) rfl).2.1;have J:∀u:GrW W,u.val.cell? ⟨q,5,none⟩=some (.int .u32 l1.n):=fun u=>(LAt.cells (((j.trans u.gr).heap _ (cX g)).trans g) (k:=1) rfl).2.2;have L:∀u:GrW W,u.val.cell? ⟨q,4,none⟩=some (.int .i64 l1.s):=fun u=>(LAt.cells (((j.trans u.gr).heap _ (cX g)).trans g) (k:=1) rfl).2.1;have H:=dJ j;unfold eU at m;rw[ha,show ([a,d]:List Int).length=2 from rfl]at m ⊢;unfold du;rw[o]at m ⊢;clear h hf h0 h1 hw i1 i2 i3 E a3 a4 B C g X D j
 go_enter func173, ntmps173
 go_wp2;refine dg (by kernel_rfl) (by kernel_rfl) ?_;repeat (go_big_quiet_step ((rename_i u;(go_at_call 195;exact dt u (z.out u.val)))))
 refine wpQuiet_nil ?_;intro w9 r;obtain⟨U,rfl⟩:=r;clear A N O Q R F G I J K L;go_wp2;go_ret;exact⟨rfl,H.out.trans U.gr⟩
end
end
