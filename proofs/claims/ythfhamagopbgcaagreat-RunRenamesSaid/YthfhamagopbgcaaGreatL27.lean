/- Parts. -/
import Derived.Test.YthfhamagopbgcaaGreatL26
set_option linter.unusedSimpArgs false
set_option linter.unusedVariables false
set_option maxRecDepth 100000
set_option maxHeartbeats 16000000
open Go.Proofs.Tryz
namespace Go.Proofs.YthfhamagopbgcaaGreat
section
open Go.RowKit Go.Maps
open Ops
theorem gG {o:Int}(W G:Nat)(n a b:Int)(ho:1<=o/\o<=3)(hn:Wd.Wid n)(ha:Wd.Word n a)(hb:Wd.Word n b)(hv:∀B,opV o B=.agg #[boxV 247 B,fnV W,.nilFunc])(hg:boxOf o=G)(w1:World) :
  Calls prog 208 #[.int .i64 o,.int .i64 n,.int .u32 a,.int .u32 b] w1 fun e w'=>∃B,e=.returned (.tuple #[.agg #[boxV 247 B,fnV W,.nilFunc],.bool true])/\(B<w'.heap.size/\w'.cell? ⟨B,0,none⟩=some (fnV G))/\Gr w1 w':=by
 refine(asked_any o n a b w1 (by omega) hn ha hb).mono ?_;rintro e w' ⟨v,rfl,⟨B,rfl,d⟩,g⟩;refine⟨B,by rw[hv],?_,g⟩;have:=d (.inl ho.2)
 rwa [hg]at this
theorem fS {o:Int}(G:Nat)(n a b:Int)(ho:8<=o/\o<=10)(hn:Wd.Wid n)(ha:Wd.Word n a)(hb:Wd.Word n b)(hv:∀B,opV o B=.agg #[boxV 248 B,.nilFunc,.nilFunc])(hg:boxOf o=G)(w1:World) :
  Calls prog 208 #[.int .i64 o,.int .i64 n,.int .u32 a,.int .u32 b] w1 fun e w'=>∃B,e=.returned (.tuple #[.agg #[boxV 248 B,.nilFunc,.nilFunc],.bool true])/\(B<w'.heap.size/\w'.cell? ⟨B,0,none⟩=some (fnV G))/\Gr w1 w':=by
 refine(asked_any o n a b w1 (by omega) hn ha hb).mono ?_;rintro e w' ⟨v,rfl,⟨B,rfl,d⟩,g⟩;refine⟨B,by rw[hv],?_,g⟩;have:=d (by unfold boxed;omega)
 rwa [hg]at this
theorem fC {o:Int}(v:Value)(n a b:Int)(ho:1<=o/\o<=13)(hn:Wd.Wid n)(ha:Wd.Word n a)(hb:Wd.Word n b)(hv:∀B,opV o B=v)(w1:World) :
  Calls prog 208 #[.int .i64 o,.int .i64 n,.int .u32 a,.int .u32 b] w1 (RG (.tuple #[v,.bool true]) w1):=by
 refine(asked_any o n a b w1 ho hn ha hb).mono ?_;rintro e w' ⟨_,rfl,⟨B,rfl,-⟩,g⟩;exact⟨by rw[hv],g⟩
theorem gR {o n a b:Int}{w w':World}{e:Ending}(h:DoPost o n a b w e w'):(∃y,e=.returned (.tuple #[.int .u32 y,.bool (Wd.op o n a b).isSome]))/\Gr w w':=⟨h.1.imp fun z h=>h.1,h.2⟩
theorem mW {o n a b:Int}(ho:o=12\/o=13)(hn:Wd.Wid n)(h:(Wd.op o n a b).isSome=true):b<32:=by have:=hn.2;rcases ho with rfl|rfl<;>(simp[Wd.op]at h;omega)
theorem lC (o fl n a b:Int)(w:World)(ho:1<=o/\o<=13)(hf:0<=fl/\fl<=7)(hn:Wd.Wid n)(ha:Wd.Word n a)(hb:Wd.Word n b):Calls prog 185 #[.int .i64 o,.int .i64 fl,.int .i64 n,.int .u32 a,.int .u32 b] w (RG (.tuple #[.bool (Wd.broken o fl n a b),.int .i64 0]) w):=by
 have l:=words hn ha;have m:=words hn hb;have p:=sg_bd hn ha;have r:=sg_bd hn hb;have g:∀o,Wd.op o n a b=some (((Wd.op o n a b)).getD 0)->Wd.broken o fl n a b=Wd.brk o fl n a b:=fun o h=>by unfold Wd.broken;rw[h];rfl
 rcases (by omega:o=1\/o=2\/o=3\/o=4\/o=5\/o=6\/o=7\/o=8\/o=9\/o=10\/o=11\/o=12\/o=13) with rfl|rfl|rfl|rfl|rfl|rfl|rfl|rfl|rfl|rfl|rfl|rfl|rfl
 ·exact brkW 1 222 223 (enters_of func222 (by kernel_rfl) rfl) fl n a b _ _ w hf hn ha hb (by decide) (dJ fun d=>gG _ _ n a b (by decide) hn ha hb (fun B=>rfl) rfl d)
   (dJ fun B d j=>(dofn1 n a b B d hn ha hb j).mono fun e w' h=>gR h) (dJ fun d=>pX a b d ⟨by omega,by omega⟩ ⟨by omega,by omega⟩) (dJ fun d=>pX _ _ d ⟨by omega,by omega⟩ ⟨by omega,by omega⟩) (dJ ((g 1 rfl).trans (brk1_eq fl hn ha hb)))
 ·exact brkW 2 224 225 (enters_of func224 (by kernel_rfl) rfl) fl n a b _ _ w hf hn ha hb (by decide) (dJ fun d=>gG _ _ n a b (by decide) hn ha hb (fun B=>rfl) rfl d)
   (dJ fun B d j=>(dofn2 n a b B d hn ha hb j).mono fun e w' h=>gR h) (dJ fun d=>pY a b d ⟨by omega,by omega⟩ ⟨by omega,by omega⟩) (dJ fun d=>pY _ _ d ⟨by omega,by omega⟩ ⟨by omega,by omega⟩) (dJ ((g 2 rfl).trans (brk2_eq fl hn ha hb)))
 ·exact brkW 3 226 228 (enters_of func226 (by kernel_rfl) rfl) fl n a b _ _ w hf hn ha hb (by decide) (dJ fun d=>gG _ _ n a b (by decide) hn ha hb (fun B=>rfl) rfl d)
   (dJ fun B d j=>(dofn3 n a b B d hn ha hb j).mono fun e w' h=>gR h) (dJ fun d=>pZ a b d ⟨by omega,by omega⟩ ⟨by omega,by omega⟩) (dJ fun d=>pZ _ _ d ⟨by omega,by omega⟩ ⟨by omega,by omega⟩) (dJ ((g 3 rfl).trans (brk3_eq fl hn ha hb)))
 ·exact brkF 4 229 230 (enters_of func229 (by kernel_rfl) rfl) (enters_of func230 (by kernel_rfl) rfl) true (Wd.op 4 n a b).isSome (decide (a%b≠0)) fl n a b w hf (dJ fun d=>fC _ n a b ho hn ha hb (fun B=>rfl) d)
   (dJ fun d=>(dofn4 n a b 0 d hn ha hb).mono fun e w' h=>gR h) (dJ fun _ hs d=>(tA n a b d l ⟨by simp[Wd.op]at hs;have:=hb.1;omega,m.2⟩).mono fun _ _ h=>⟨h.1,h.2 ▸ wL _⟩) (dJ rfl)
 ·exact brkF 5 231 231 (enters_of func231 (by kernel_rfl) rfl) (enters_of func231 (by kernel_rfl) rfl) false (Wd.op 5 n a b).isSome false fl n a b w hf (dJ fun d=>fC _ n a b ho hn ha hb (fun B=>rfl) d)
   (dJ fun d=>(dofn5 n a b 0 d hn ha hb).mono fun e w' h=>gR h) (dJ fun q=>by cases q) (dJ rfl)
 ·exact brkF 6 232 234 (enters_of func232 (by kernel_rfl) rfl) (enters_of func234 (by kernel_rfl) rfl) true (Wd.op 6 n a b).isSome (decide ((Wd.sg n a).tmod (Wd.sg n b)≠0)) fl n a b w hf (dJ fun d=>fC _ n a b ho hn ha hb (fun B=>rfl) d)
   (dJ fun d=>(dofn6 n a b 0 d hn ha hb).mono fun e w' h=>gR h) (dJ fun _ hs d=>rK n a b d hn ha hb (fun q=>by rw[show Wd.op 6 n a b=if b=0\/(Wd.sg n a=-Wd.sz (n-1)/\Wd.sg n b=-1) then none else some ((Wd.sg n a).tdiv (Wd.sg n b)%Wd.sz n) from rfl,wa (show b=0\/_ from q)]at hs;cases hs)) (dJ rfl)
 ·exact brkF 7 235 235 (enters_of func235 (by kernel_rfl) rfl) (enters_of func235 (by kernel_rfl) rfl) false (Wd.op 7 n a b).isSome false fl n a b w hf (dJ fun d=>fC _ n a b ho hn ha hb (fun B=>rfl) d)
   (dJ fun d=>(dofn7 n a b 0 d hn ha hb).mono fun e w' h=>gR h) (dJ fun q=>by cases q) (dJ rfl)
 ·exact brkP 8 237 fl n a b w hf (dJ fun d=>fS _ n a b (by decide) hn ha hb (fun B=>rfl) rfl d) (dJ fun B d j=>(dofn8 n a b B d hn ha hb j).mono fun e w' h=>gR h) (dJ (g 8 rfl))
 ·exact brkP 9 238 fl n a b w hf (dJ fun d=>fS _ n a b (by decide) hn ha hb (fun B=>rfl) rfl d) (dJ fun B d j=>(dofn9 n a b B d hn ha hb j).mono fun e w' h=>gR h) (dJ (g 9 rfl))
 ·exact brkP 10 239 fl n a b w hf (dJ fun d=>fS _ n a b (by decide) hn ha hb (fun B=>rfl) rfl d) (dJ fun B d j=>(dofn10 n a b B d hn ha hb j).mono fun e w' h=>gR h) (dJ (g 10 rfl))
 ·exact brk11 fl n a b w hf hn ha hb
 ·exact brkF 12 242 243 (enters_of func242 (by kernel_rfl) rfl) (enters_of func243 (by kernel_rfl) rfl) true (Wd.op 12 n a b).isSome (decide (a%2 ^ b.toNat≠0)) fl n a b w hf (dJ fun d=>fC _ n a b ho hn ha hb (fun B=>rfl) d)
   (dJ fun d=>(dofn12 n a b 0 d hn ha hb).mono fun e w' h=>gR h) (dJ fun _ hs d=>(rR n a b d l ⟨hb.1,mW (.inl rfl) hn hs⟩).mono fun _ _ h=>⟨h.1,h.2 ▸ wL _⟩) (dJ rfl)
 ·exact brkF 13 244 246 (enters_of func244 (by kernel_rfl) rfl) (enters_of func246 (by kernel_rfl) rfl) true (Wd.op 13 n a b).isSome (decide (a%2 ^ b.toNat≠0)) fl n a b w hf (dJ fun d=>fC _ n a b ho hn ha hb (fun B=>rfl) d)
   (dJ fun d=>(dofn13 n a b 0 d hn ha hb).mono fun e w' h=>gR h) (dJ fun _ hs d=>(rT n a b d l ⟨hb.1,mW (.inr rfl) hn hs⟩).mono fun _ _ h=>⟨h.1,h.2 ▸ wL _⟩) (dJ rfl)
end
section
open Go.RowKit
abbrev AF (k:Nat)(x:Ins)(ap bp:Bool)(an bn:Int)(w:World):Prop :=
 w.cell? ⟨k,0,none⟩=some (.int .i64 x.op)/\w.cell? ⟨k,1,none⟩=some (.int .i64 x.width)/\w.cell? ⟨k,2,none⟩=some (.int .i64 x.flags)/\w.cell? ⟨k+1,0,none⟩=some (.bool ap)/\w.cell? ⟨k+1,2,none⟩=some (.int .u32 an)/\w.cell? ⟨k+2,0,none⟩=some (.bool bp)/\w.cell? ⟨k+2,2,none⟩=some (.int .u32 bn)
theorem AF.gr {k:Nat}{x:Ins}{ap bp:Bool}{an bn:Int}{w w':World}(h:AF k x ap bp an bn w)(hk:k+2<w.heap.size)(g:Gr w w'):AF k x ap bp an bn w':=by obtain⟨d,j,l,m,p,q,r⟩:=h;exact⟨(g.cell _ _ (by omega)).trans d,(g.cell _ _ (by omega)).trans j,(g.cell _ _ (by omega)).trans l,(g.cell _ _ (by omega)).trans m,(g.cell _ _ (by omega)).trans p,(g.cell _ _ (by omega)).trans q,(g.cell _ _ (by omega)).trans r⟩
theorem jC (w:World)(c d e:Obj):(((w.alloc c).alloc d).alloc e).heap.size=w.heap.size+3:=by show (((w.heap.push c).push d).push e).size=_;simp
theorem AF.boxes (w:World)(x:Ins)(va vt:Value)(a b:Rn.V)(t u:TypeId):AF w.heap.size x a.p b.p a.n b.n (((w.alloc (.cells #[.int .i64 x.op,.int .i64 x.width,.int .i64 x.flags,va,.int .u32 x.imm,vt] t)).alloc (.cells #[.bool a.p,.int .i64 a.s,.int .u32 a.n] u)).alloc (.cells #[.bool b.p,.int .i64 b.s,.int .u32 b.n] u)):=by have d:=((wL (w.alloc (.cells #[.int .i64 x.op,.int .i64 x.width,.int .i64 x.flags,va,.int .u32 x.imm,vt] t))).alloc (.cells #[.bool a.p,.int .i64 a.s,.int .u32 a.n] u)).alloc (.cells #[.bool b.p,.int .i64 b.s,.int .u32 b.n] u);have g:=(wL ((w.alloc (.cells #[.int .i64 x.op,.int .i64 x.width,.int .i64 x.flags,va,.int .u32 x.imm,vt] t)).alloc (.cells #[.bool a.p,.int .i64 a.s,.int .u32 a.n] u))).alloc (.cells #[.bool b.p,.int .i64 b.s,.int .u32 b.n] u);exact⟨cW _ _ 0 d rfl,cW _ _ 1 d rfl,cW _ _ 2 d rfl,cW _ _ 0 g (by simp),cW _ _ 2 g (by simp),cW _ _ 0 (wL _) (by simp),cW _ _ 2 (wL _) (by simp)⟩
theorem sd {n:Int}(hn:Wd.Wid n):Wd.sg n (Wd.sz (n-1))=-Wd.sz (n-1):=by unfold Wd.sg;rw[wa (Int.le_refl _),Wd.sz_half hn];omega
theorem nW {n:Int}(hn:Wd.Wid n):Wd.Word n (Wd.sz (n-1)):=⟨Int.le_of_lt (Wd.sz_pos _),by rw[Wd.sz_half hn];have:=Wd.sz_pos (n-1);omega⟩
theorem le {o n a b:Int}(ho:4<=o/\o<=7):Wd.op o n a b=none↔(b=0\/(o=6\/o=7)/\Wd.sg n b=-1/\Wd.sg n a=-Wd.sz (n-1)):=by
 rcases (by omega:o=4\/o=5\/o=6\/o=7) with rfl|rfl|rfl|rfl
 ·show (if b=0 then none else some (a / b))=none↔_;split<;>simp_all
 ·show (if b=0 then none else some (a%b))=none↔_;split<;>simp_all
 ·show (if b=0\/(Wd.sg n a=-Wd.sz (n-1)/\Wd.sg n b=-1) then none else some ((Wd.sg n a).tdiv (Wd.sg n b)%Wd.sz n))=none↔_;split;next h=>simp only[true_iff];rcases h with h|h;exact .inl h;exact .inr ⟨by simp,h.2,h.1⟩
  next h=>simp only[reduceCtorEq,false_iff];intro q;apply h;rcases q with q|q;exact .inl q;exact .inr ⟨q.2.2,q.2.1⟩
 ·show (if b=0\/(Wd.sg n a=-Wd.sz (n-1)/\Wd.sg n b=-1) then none else some ((Wd.sg n a).tmod (Wd.sg n b)%Wd.sz n))=none↔_;split;next h=>simp only[true_iff];rcases h with h|h;exact .inl h;exact .inr ⟨by simp,h.2,h.1⟩
  next h=>simp only[reduceCtorEq,false_iff];intro q;apply h;rcases q with q|q;exact .inl q;exact .inr ⟨q.2.2,q.2.1⟩
def eQ (o fl n:Int)(a b:Rn.V):Value:=match Rn.arith o fl n a b with|none=>oK|some v=>vI v
theorem gt {o fl n:Int}{a b:Rn.V}(ho:4<=o/\o<=7)(h:b.p=true\/b.n=0):eQ o fl n a b=oK:=by unfold eQ Rn.arith;rw[wa ⟨ho,.inl h⟩]
theorem nl {o fl n:Int}{a b:Rn.V}(ho:4<=o/\o<=7)(hn:Wd.Wid n)(ha:a.p=true)(h:Wd.op o n (Wd.sz (n-1)) b.n=none):eQ o fl n a b=oK:=by
 rcases (le ho).1 h with h|h
 ·exact gt ho (.inr h)
 ·unfold eQ Rn.arith;rw[wa ⟨ho,.inr ⟨h.1,h.2.1,.inl ha⟩⟩]
theorem nm {o fl n:Int}{a b:Rn.V}(ho:4<=o/\o<=7)(h:Wd.op o n a.n b.n=none):eQ o fl n a b=oK:=by
 rcases (le ho).1 h with h|h
 ·exact gt ho (.inr h)
 ·unfold eQ Rn.arith;rw[wa ⟨ho,.inr ⟨h.1,h.2.1,.inr h.2.2⟩⟩]
theorem nn {o fl n:Int}{a b:Rn.V}(h0:¬((4<=o/\o<=7)/\((b.p=true\/b.n=0)\/(o=6\/o=7)/\Wd.sg n b.n=-1/\(a.p=true\/Wd.sg n a.n=-Wd.sz (n-1)))))(h:a.p=true\/b.p=true):eQ o fl n a b=vI Rn.poison:=by unfold eQ Rn.arith;rw[yD h0,wa h]
theorem pc {o fl n:Int}{a b:Rn.V}(h0:(4<=o/\o<=7)->Wd.op o n a.n b.n≠none)(ha:a.p=false)(hb:b.p=false) :
  eQ o fl n a b=match Wd.op o n a.n b.n with|none=>vI Rn.poison|some z=>if Wd.broken o fl n a.n b.n=true then vI Rn.poison else vI (Rn.word z):=by
 have l:¬((4<=o/\o<=7)/\((b.p=true\/b.n=0)\/(o=6\/o=7)/\Wd.sg n b.n=-1/\(a.p=true\/Wd.sg n a.n=-Wd.sz (n-1)))):=by
  rintro⟨j,q⟩;apply h0 j;refine(le j).2 ?_;rcases q with (q|q)|⟨m,r,g|g⟩
  ·rw[hb]at q;cases q
  ·exact .inl q
  ·rw[ha]at g;cases g
  ·exact .inr ⟨m,r,g⟩
 unfold eQ Rn.arith;rw[yD l,yD (by simp[ha,hb])]
 cases hz:Wd.op o n a.n b.n with
 | none=>rfl
 | some z =>
  have:Wd.broken o fl n a.n b.n=Wd.brk o fl n a.n b.n:=by unfold Wd.broken;rw[hz];rfl
  rw[this];dsimp only;by_cases d:Wd.brk o fl n a.n b.n=true
  ·rw[wa d,wa d]
  ·rw[yD d,yD d]
theorem od (x:Ins)(va vt:Value)(a b:Rn.V)(w:World)(ho:1<=x.op/\x.op<=13)(hn:Wd.Wid x.width)(hf:0<=x.flags/\x.flags<=7)(ha:Wd.Word x.width a.n)(hb:Wd.Word x.width b.n) :
  Calls prog 163 #[df x va vt,vv a,vv b] w (RG (eQ x.op x.flags x.width a b) w):=by
 have G:=dJ fun d=>Ops.bDo_any x.op x.width a.n b.n d ho hn ha hb;have CL:=dJ fun d=>Ops.bDo_any x.op x.width (Wd.sz (x.width-1)) b.n d ho hn (nW hn) hb;have M:=dJ fun d=>lC x.op x.flags x.width a.n b.n d ho hf hn ha hb;have CM:=dJ fun d=>pQ x.width d hn;have CI:=dJ fun d=>pN x.op d;have j:=dJ (AF.boxes w x va vt a b 67 37);have D1:=dJ fun(h:4<=x.op/\x.op<=7)(q:b.p=true\/b.n=0)=>gt (fl:=x.flags) (n:=x.width) (a:=a) h q;have D2:=dJ fun(h:4<=x.op/\x.op<=7)(q:a.p=true) r=>nl (fl:=x.flags) (b:=b) h hn q r;have D3:=dJ fun(h:4<=x.op/\x.op<=7) r=>nm (fl:=x.flags) (n:=x.width) (a:=a) (b:=b) h r;have D4:=dJ fun q r=>nn (o:=x.op) (fl:=x.flags) (n:=x.width) (a:=a) (b:=b) q r;have S:=dJ fun q r s=>pc (o:=x.op) (fl:=x.flags) (n:=x.width) (a:=a) (b:=b) q r s;have OD:=dJ fun(h:4<=x.op/\x.op<=7) c=>le (n:=x.width) (a:=c) (b:=b.n) h;obtain⟨z,hz⟩:=xJ (Wd.op x.op x.width a.n b.n);obtain⟨zl,L⟩:=xJ (Wd.op x.op x.width (Wd.sz (x.width-1)) b.n);obtain⟨Y,ab⟩:=xJ (Wd.broken x.op x.flags x.width a.n b.n);have X:=dJ (sd hn);obtain⟨sl,O⟩:=xJ (Wd.sz (x.width-1));rw[hz]at G D3 S;rw[L]at CL D2;rw[ab]at M S;rw[O]at CL CM;obtain⟨R,hR⟩:=xJ (eQ x.op x.flags x.width a b);rw[hR]at D1 D2 D3 D4 S ⊢;rw[O]at L OD X;have HZ:=dJ hz;have ac:=dJ L;clear ho hn hf ha hb hz L ab O hR;obtain⟨W,hW⟩:=xJ (((w.alloc (.cells #[.int .i64 x.op,.int .i64 x.width,.int .i64 x.flags,va,.int .u32 x.imm,vt] 67)).alloc (.cells #[.bool a.p,.int .i64 a.s,.int .u32 a.n] 37)).alloc (.cells #[.bool b.p,.int .i64 b.s,.int .u32 b.n] 37));have aa:W.heap.size=w.heap.size+3:=by rw[<-hW];exact jC _ _ _ _
 have Z:Gr w W:=by rw[<-hW];exact(((wL w).alloc _).alloc _).alloc _
 rw[hW]at j;have D:=dJ Z;have A:=dJ aa;obtain⟨ap,ae,an⟩:=a;obtain⟨bp,af,bn⟩:=b;dsimp only at *;obtain⟨k0,k1,k2,k3,k4,k5,k6⟩:=j.out;have f4:W.frozen? ⟨w.heap.size+1,2,none⟩=false:=by rw[<-hW];exact(World.frozen?_alloc_past _ _ _ (by simp)).trans (World.frozen?_alloc_at _ _ _ _ (by simp))
 clear Z aa;unfold df vv;by_cases hd:4<=x.op/\x.op<=7
 ·have B:Hid (∀d,Calls prog 182 #[.int .i64 x.op] d (RS (.bool true) d)):=fun d=>by
   have:=CI.out d
   rwa [show (decide (4<=x.op) && decide (x.op<=7))=true by simp[hd]]at this
  have J:=dJ hd;clear CI hd;cases bp
  case true =>
   have l:Hid (oK=R):=(D1.out J.out (.inl rfl)).symm
   go_enter func163, ntmps163
   go_wp2_with (first|(go_at_call 182;refine(B.out _).mono ?_;rintro e d ⟨rfl,rfl⟩)|(go_at_call 158;refine(dF _).mono ?_;rintro e d ⟨rfl,rfl⟩)|(go_at_call 162;refine(du _).mono ?_;rintro e F ⟨rfl,u⟩))
   go_ret;exact⟨by rw[<-l.out];rfl,D.out⟩
  case false =>
  by_cases K:bn=0
  ·subst K;have l:Hid (oK=R):=(D1.out J.out (.inr rfl)).symm
   go_enter func163, ntmps163
   go_wp2_with (first|(go_at_call 182;refine(B.out _).mono ?_;rintro e d ⟨rfl,rfl⟩)|(go_at_call 158;refine(dF _).mono ?_;rintro e d ⟨rfl,rfl⟩)|(go_at_call 162;refine(du _).mono ?_;rintro e F ⟨rfl,u⟩))
   go_ret;exact⟨by rw[<-l.out];rfl,D.out⟩
  ·have c0:(bn == 0)=false:=by simpa using K
   have ad:=dJ K;clear K;cases ap
   case true =>
    have U:Hid ((W.setCell ⟨w.heap.size+1,2,none⟩ (.int .u32 sl)).cell? ⟨w.heap.size+1,0,none⟩=some (.bool true)):=(World.cell?_setCell_other (a:=⟨w.heap.size+1,2,none⟩) (b:=⟨w.heap.size+1,0,none⟩) _ _ (fun e=>by injection e with _ e2;cases e2)).trans k3;have T:=dJ (D.out.setCell (p:=⟨w.heap.size+1,2,none⟩) (by simp) (.int .u32 sl));obtain _|y:=zl
    ·have l:Hid (oK=R):=(D2.out J.out rfl rfl).symm
     go_enter func163, ntmps163
     go_wp2_with (first|(go_at_call 182;refine(B.out _).mono ?_;rintro e d ⟨rfl,rfl⟩)|(go_at_call 158;refine(dF _).mono ?_;rintro e d ⟨rfl,rfl⟩)|(go_at_call 162;refine(du _).mono ?_;rintro e F ⟨rfl,u⟩)|(go_at_call 183;refine(CM.out _).mono ?_;rintro e d ⟨rfl,rfl⟩)|(go_at_call 184;refine(CL.out _).mono ?_;rintro e I ⟨rfl,g⟩;have Q:=(g.cell (w.heap.size+1) 0 (by simp;have:=A.out;omega)).trans U.out))
     go_ret;exact⟨by rw[<-l.out];rfl,T.out.trans g⟩
    ·have l:Hid (vI Rn.poison=R):=by
      refine(D4.out ?_ (.inl rfl)).symm;rintro⟨q0,q⟩
      have:Wd.op x.op x.width sl bn=none:=(OD.out q0 sl).2 (by
        rcases q with (q|q)|⟨q1,q2,q3⟩
        · cases q
        · exact .inl q
        · exact .inr ⟨q1,q2,X.out⟩)
      rw[ac.out]at this;cases this
     go_enter func163, ntmps163
     go_wp2_with (first|(go_at_call 182;refine(B.out _).mono ?_;rintro e d ⟨rfl,rfl⟩)|(go_at_call 158;refine(dF _).mono ?_;rintro e d ⟨rfl,rfl⟩)|(go_at_call 162;refine(du _).mono ?_;rintro e F ⟨rfl,u⟩)|(go_at_call 183;refine(CM.out _).mono ?_;rintro e d ⟨rfl,rfl⟩)|(go_at_call 184;refine(CL.out _).mono ?_;rintro e I ⟨rfl,g⟩;have Q:=(g.cell (w.heap.size+1) 0 (by simp;have:=A.out;omega)).trans U.out))
     go_ret;exact⟨by rw[<-l.out];rfl,(T.out.trans g).trans u⟩
   case false =>
    have m:=True.intro;have t:=True.intro;obtain _|y:=z
    ·have l:Hid (oK=R):=(D3.out J.out rfl).symm
     go_enter func163, ntmps163
     go_wp2_with (first|(go_at_call 182;refine(B.out _).mono ?_;rintro e d ⟨rfl,rfl⟩)|(go_at_call 158;refine(dF _).mono ?_;rintro e d ⟨rfl,rfl⟩)|(go_at_call 162;refine(du _).mono ?_;rintro e F ⟨rfl,u⟩)|(go_at_call 184;have _t:=m;(with_reducible refine(G.out _).mono ?_);rintro e I ⟨rfl,g⟩;clear _t m;obtain⟨l0,l1,l2,Q,l4,l5,l6⟩:=AF.gr j.out (by have:=A.out;omega) g;have E:=dJ (show w.heap.size+2<I.heap.size by have:=A.out;have:=g.size;omega);have C:=dJ (AF.gr j.out (by have:=A.out;omega) g))|(go_at_call 184;have _t:=t;(with_reducible refine(G.out _).mono ?_);rintro e w6 ⟨rfl,N⟩;clear _t t;obtain⟨m0,m1,m2,m3,m4,m5,m6⟩:=AF.gr C.out E.out N)|(go_at_call 185;refine(M.out _).mono ?_;rintro e w7 ⟨rfl,H⟩))
     go_ret;exact⟨by rw[<-l.out];rfl,D.out.trans g⟩
    ·have l:Hid ((if Y=true then vI Rn.poison else vI (Rn.word y))=R):=(S.out (fun _=>by simp) rfl rfl).symm;cases Y
     case false =>
      go_enter func163, ntmps163
      go_wp2_with (first|(go_at_call 182;refine(B.out _).mono ?_;rintro e d ⟨rfl,rfl⟩)|(go_at_call 158;refine(dF _).mono ?_;rintro e d ⟨rfl,rfl⟩)|(go_at_call 162;refine(du _).mono ?_;rintro e F ⟨rfl,u⟩)|(go_at_call 184;have _t:=m;(with_reducible refine(G.out _).mono ?_);rintro e I ⟨rfl,g⟩;clear _t m;obtain⟨l0,l1,l2,Q,l4,l5,l6⟩:=AF.gr j.out (by have:=A.out;omega) g;have E:=dJ (show w.heap.size+2<I.heap.size by have:=A.out;have:=g.size;omega);have C:=dJ (AF.gr j.out (by have:=A.out;omega) g))|(go_at_call 184;have _t:=t;(with_reducible refine(G.out _).mono ?_);rintro e w6 ⟨rfl,N⟩;clear _t t;obtain⟨m0,m1,m2,m3,m4,m5,m6⟩:=AF.gr C.out E.out N)|(go_at_call 185;refine(M.out _).mono ?_;rintro e w7 ⟨rfl,H⟩))
      go_ret;exact⟨by rw[<-l.out];rfl,((D.out.trans g).trans N).trans H⟩
     case true =>
      go_enter func163, ntmps163
      go_wp2_with (first|(go_at_call 182;refine(B.out _).mono ?_;rintro e d ⟨rfl,rfl⟩)|(go_at_call 158;refine(dF _).mono ?_;rintro e d ⟨rfl,rfl⟩)|(go_at_call 162;refine(du _).mono ?_;rintro e F ⟨rfl,u⟩)|(go_at_call 184;have _t:=m;(with_reducible refine(G.out _).mono ?_);rintro e I ⟨rfl,g⟩;clear _t m;obtain⟨l0,l1,l2,Q,l4,l5,l6⟩:=AF.gr j.out (by have:=A.out;omega) g;have E:=dJ (show w.heap.size+2<I.heap.size by have:=A.out;have:=g.size;omega);have C:=dJ (AF.gr j.out (by have:=A.out;omega) g))|(go_at_call 184;have _t:=t;(with_reducible refine(G.out _).mono ?_);rintro e w6 ⟨rfl,N⟩;clear _t t;obtain⟨m0,m1,m2,m3,m4,m5,m6⟩:=AF.gr C.out E.out N)|(go_at_call 185;refine(M.out _).mono ?_;rintro e w7 ⟨rfl,H⟩))
      go_ret;exact⟨by rw[<-l.out];rfl,(((D.out.trans g).trans N).trans H).trans u⟩
 ·have B:Hid (∀d,Calls prog 182 #[.int .i64 x.op] d (RS (.bool false) d)):=fun d=>by
   have:=CI.out d
   rwa [show (decide (4<=x.op) && decide (x.op<=7))=false by simp;omega]at this
  have J:=dJ hd;clear CI hd;cases ap
  case true =>
   have l:Hid (vI Rn.poison=R):=(D4.out (fun q=>J.out q.1) (.inl rfl)).symm
   go_enter func163, ntmps163
   go_wp2_with (first|(go_at_call 182;refine(B.out _).mono ?_;rintro e d ⟨rfl,rfl⟩)|(go_at_call 158;refine(dF _).mono ?_;rintro e d ⟨rfl,rfl⟩)|(go_at_call 162;refine(du _).mono ?_;rintro e F ⟨rfl,u⟩))
   go_ret;exact⟨by rw[<-l.out];rfl,D.out.trans u⟩
  case false =>
  cases bp
  case true =>
   have l:Hid (vI Rn.poison=R):=(D4.out (fun q=>J.out q.1) (.inr rfl)).symm
   go_enter func163, ntmps163
   go_wp2_with (first|(go_at_call 182;refine(B.out _).mono ?_;rintro e d ⟨rfl,rfl⟩)|(go_at_call 158;refine(dF _).mono ?_;rintro e d ⟨rfl,rfl⟩)|(go_at_call 162;refine(du _).mono ?_;rintro e F ⟨rfl,u⟩))
   go_ret;exact⟨by rw[<-l.out];rfl,D.out.trans u⟩
  case false =>
   obtain _|y:=z
   ·have l:Hid (vI Rn.poison=R):=(S.out (fun q=>absurd q J.out) rfl rfl).symm;cases Y
    all_goals
     go_enter func163, ntmps163
     go_wp2_with (first|(go_at_call 182;refine(B.out _).mono ?_;rintro e d ⟨rfl,rfl⟩)|(go_at_call 158;refine(dF _).mono ?_;rintro e d ⟨rfl,rfl⟩)|(go_at_call 162;refine(du _).mono ?_;rintro e F ⟨rfl,u⟩)|(go_at_call 184;refine(G.out _).mono ?_;rintro e I ⟨rfl,g⟩;obtain⟨l0,l1,l2,Q,l4,l5,l6⟩:=AF.gr j.out (by have:=A.out;omega) g)|(go_at_call 185;refine(M.out _).mono ?_;rintro e w7 ⟨rfl,H⟩))
     go_ret;exact⟨by rw[<-l.out];rfl,((D.out.trans g).trans H).trans u⟩
   ·have l:Hid ((if Y=true then vI Rn.poison else vI (Rn.word y))=R):=(S.out (fun q=>absurd q J.out) rfl rfl).symm;cases Y
    case false =>
     go_enter func163, ntmps163
     go_wp2_with (first|(go_at_call 182;refine(B.out _).mono ?_;rintro e d ⟨rfl,rfl⟩)|(go_at_call 158;refine(dF _).mono ?_;rintro e d ⟨rfl,rfl⟩)|(go_at_call 162;refine(du _).mono ?_;rintro e F ⟨rfl,u⟩)|(go_at_call 184;refine(G.out _).mono ?_;rintro e I ⟨rfl,g⟩;obtain⟨l0,l1,l2,Q,l4,l5,l6⟩:=AF.gr j.out (by have:=A.out;omega) g)|(go_at_call 185;refine(M.out _).mono ?_;rintro e w7 ⟨rfl,H⟩))
     go_ret;exact⟨by rw[<-l.out];rfl,(D.out.trans g).trans H⟩
    case true =>
     go_enter func163, ntmps163
     go_wp2_with (first|(go_at_call 182;refine(B.out _).mono ?_;rintro e d ⟨rfl,rfl⟩)|(go_at_call 158;refine(dF _).mono ?_;rintro e d ⟨rfl,rfl⟩)|(go_at_call 162;refine(du _).mono ?_;rintro e F ⟨rfl,u⟩)|(go_at_call 184;refine(G.out _).mono ?_;rintro e I ⟨rfl,g⟩;obtain⟨l0,l1,l2,Q,l4,l5,l6⟩:=AF.gr j.out (by have:=A.out;omega) g)|(go_at_call 185;refine(M.out _).mono ?_;rintro e w7 ⟨rfl,H⟩))
     go_ret;exact⟨by rw[<-l.out];rfl,((D.out.trans g).trans H).trans u⟩
def dy:List Rn.V->List Value
 | []=>[]
 | v::r=>.bool v.p::.int .i64 v.s::.int .u32 v.n::dy r
theorem kF:∀l:List Rn.V,(dy l).length=3*l.length
 | []=>rfl
 | v::r=>by simp[dy,kF r];omega
theorem dZ:∀(l:List Rn.V)(k:Nat)(v:Rn.V),l[k]?=some v->(dy l)[3*k]?=some (.bool v.p)/\(dy l)[3*k+1]?=some (.int .i64 v.s)/\(dy l)[3*k+2]?=some (.int .u32 v.n)
 | [],k,v,h=>by simp at h
 | u::r,0,v,h=>by simp at h;subst h;exact⟨rfl,rfl,rfl⟩
 | u::r,k+1,v,h=>by
  obtain⟨d,g,j⟩:=dZ r k v (by simpa using h)
  refine⟨?_,?_,?_⟩
  ·rw[show 3*(k+1)=(3*k)+1+1+1 by omega];simpa[dy] using d
  ·rw[show 3*(k+1)+1=(3*k+1)+1+1+1 by omega];simpa[dy] using g
  ·rw[show 3*(k+1)+2=(3*k+2)+1+1+1 by omega];simpa[dy] using j
theorem kG:∀(l:List Rn.V)(k:Nat)(v:Rn.V),(((dy l).set (3*k) (.bool v.p)).set (3*k+1) (.int .i64 v.s)).set (3*k+2) (.int .u32 v.n)=dy (l.set k v)
 | [],k,v=>by simp[dy]
 | u::r,0,v=>rfl
 | u::r,k+1,v=>by
  have:=kG r k v
  rw[show 3*(k+1)=(3*k)+1+1+1 by omega,show 3*k+1+1+1+1=(3*k+1)+1+1+1 by omega,show 3*k+1+1+1+2=(3*k+2)+1+1+1 by omega];simp only[dy,List.set_cons_succ];rw[this]
structure Cfg where
 n₀:Nat
 f:Fn
 vp:Value
 vs:Value
 vb:Value
 ch:Value
 Bf:Nat
 cf:Nat
 Am:Option Addr
 Bm:Nat
 cm:Nat
 us:List (Nat × Nat)
 Bs:Nat
 Bv:Nat
 Bh:Nat
def Cfg.mv (c:Cfg):Value:=.slice c.Am c.us.length c.cm
def Cfg.first (c:Cfg):Value:=.slice (some ⟨c.Bf,0,none⟩) c.f.blocks.length c.cf
def oE (c:Cfg)(n:Nat)(b frm:Int)(k:Nat)(vt:Value):Array Value :=
 #[c.vp,.int .i64 c.f.ret,c.vs,c.vb,c.ch,.slice (some ⟨c.Bv,0,none⟩) n n,.slice (some ⟨c.Bh,0,none⟩) n n,c.first,c.mv,.int .i64 b,.int .i64 frm,.int .i64 k,vt]
def tP (c:Cfg)(w:World)(mem:List (List Int)):Prop :=
 mem.length=c.us.length/\∀(j b cp:Nat)(l:List Int),c.us[j]?=some (b,cp)->mem[j]?=some l->l.length<=cp/\cp<=9223372036854775807/\∃cur:Array Value,w.heap[b]?=some (.cells cur 3 (0,0))/\∀(i:Nat)(z:Int),l[i]?=some z->cur[i]?=some (.int .i64 z)
def oV (c:Cfg)(w:World):Prop :=
 c.us.length<=c.cm/\c.cm<=9223372036854775807/\(0<c.us.length->c.Am=some ⟨c.Bm,0,none⟩/\∃cur:Array Value,w.heap[c.Bm]?=some (.cells cur 22 (0,0))/\∀(j b cp:Nat)(n:Int),c.us[j]?=some (b,cp)->c.f.slots[j]?=some n->cur[j]?=some (.slice (some ⟨b,0,none⟩) n.toNat cp))
structure PS (c:Cfg)(w:World)(s:Rn.St)(b frm:Int)(vt:Value):Prop where
 st:w.heap[c.Bs]?=some (.cells (oE c s.vals.length b frm s.steps vt) 100 (0,0))
 vals:w.heap[c.Bv]?=some (.cells (dy s.vals).toArray 37 (0,0))
 had:w.heap[c.Bh]?=some (.cells (s.had.map Value.bool).toArray 4 (0,0))
 hlen:s.had.length=s.vals.length
 mem:tP c w s.mem
 slots:oV c w
 fn:FnAt c.n₀ w (.agg #[c.vp,.int .i64 c.f.ret,c.vs,c.vb]) c.f
 first:c.f.blocks.length<=c.cf/\c.cf<=9223372036854775807/\∃cur:Array Value,w.heap[c.Bf]?=some (.cells cur 3 (0,0))/\∀j:Nat,j<c.f.blocks.length->cur[j]?=some (.int .i64 (Ref.number c.f j:Nat))
 old:c.n₀<=c.Bs/\c.n₀<=c.Bv/\c.n₀<=c.Bh/\c.n₀<=c.Bf/\c.n₀<=c.Bm/\∀(j b cp:Nat),c.us[j]?=some (b,cp)->c.n₀<=b/\b≠c.Bf
 apart:(c.us.map (·.1)).Nodup
section
variable {c:Cfg}{w w':World}{s:Rn.St}{b frm:Int}{vt:Value}
theorem PS.cell (h:PS c w s b frm vt)(i:Nat):w.cell? ⟨c.Bs,i,none⟩=(oE c s.vals.length b frm s.steps vt)[i]?:=vX _ _ i _ _ _ h.st
theorem cY {w:World}{k:Nat}{o:Obj}(h:w.heap[k]?=some o):k<w.heap.size:=(vE.1 h).1
theorem PS.n₀ (h:PS c w s b frm vt):c.n₀<=w.heap.size:=by have:=cY h.st;have:=h.old.1;omega
theorem PS.gr (h:PS c w s b frm vt)(g:Gr w w'):PS c w' s b frm vt where
 st:=(g.heap _ (cY h.st)).trans h.st
 vals:=(g.heap _ (cY h.vals)).trans h.vals
 had:=(g.heap _ (cY h.had)).trans h.had
 hlen:=h.hlen
 mem:=⟨h.mem.1,fun j b t l u y=>by
   obtain⟨q,p,d,m,r⟩:=h.mem.2 j b t l u y
   exact⟨q,p,d,(g.heap _ (cY m)).trans m,r⟩⟩
 slots:=⟨h.slots.1,h.slots.2.1,fun z=>by
   obtain⟨q,d,p,m⟩:=h.slots.2.2 z
   exact⟨q,d,(g.heap _ (cY p)).trans p,m⟩⟩
 fn:=h.fn.below (Below.mono g h.n₀)
 first:=by obtain⟨q,p,d,m,r⟩:=h.first;exact⟨q,p,d,(g.heap _ (cY m)).trans m,r⟩
 old:=h.old
 apart:=h.apart
theorem PS.firstAt (h:PS c w s b frm vt)(j:Nat)(hj:j<c.f.blocks.length):w.cell? ⟨c.Bf,j,none⟩=some (.int .i64 (Ref.number c.f j:Nat)):=by obtain⟨m,p,d,g,l⟩:=h.first;exact(vX _ _ j _ _ _ g).trans (l j hj)
end
structure VFn (f:Fn):Prop where
 val:Ref.Val f
 im:Rn.Im f
theorem kZ (f:Fn)(hv:Ref.Val f){j k i:Nat}{l:List Ins}(hl:f.blocks[j]?=some l)(hi:i<l.length)(hk:j<k):Ref.number f j+i<Ref.number f k:=by have:=Ref.number_le f hl hk;omega
theorem eX {c:Cfg}{w:World}{s:Rn.St}{b frm:Int}{vt:Value}(h:PS c w s b frm vt)(hf:VFn c.f)(v:Int)(h0:0<=v)(h1:v<Ref.count c.f) :
  Calls prog 161 #[.pointer (some ⟨c.Bs,0,none⟩),.int .i64 v] w (RG (.int .i64 (Ref.kind c.f v)) w):=by
 have c0:w.cell? ⟨c.Bs,0,none⟩=some c.vp:=h.cell 0;have c3:w.cell? ⟨c.Bs,3,none⟩=some c.vb:=h.cell 3;have c7:w.cell? ⟨c.Bs,7,none⟩=some c.first:=h.cell 7;have K:=dJ fun j hj=>h.firstAt j hj;have G:=h.fn;have A:=hf.val.size;obtain⟨af,ag,ae,e,S,-,O⟩:=G;injection e with e;injection e with e;injection e with D e;injection e with _ e;injection e with _ e;injection e with E _;rw[D]at c0;rw[E]at c3;obtain⟨f1,f2,-⟩:=h.first;unfold Cfg.first at c7;rcases Ref.home_of c.f h0 h1 with ⟨-,g⟩|⟨j,i,l,x,hl,C,rfl⟩
 ·obtain⟨k,rfl⟩:=vF h0;obtain⟨Z,cp,rfl,p1,p2,X⟩:=S;obtain⟨bp,op,rfl,-,Y⟩:=X (by omega);obtain⟨z,J⟩:∃z,c.f.params[k]?=some z:=⟨_,vu (by omega)⟩;have hc:=Y k z J
  have m:Hid (Ref.kind c.f (k:Int)=z):=by show _=_;unfold Ref.kind;rw[yD (by omega),wa g,vG,vA,J];rfl
  have R:k<c.f.params.length:=by omega
  clear X Y J O K h hf h0 h1 D E
  go_enter func161, ntmps161
  go_wp2;go_ret;exact⟨de m.out.symm,wL _⟩
 ·have aa:j<c.f.blocks.length:=(yC.1 hl).1;have H:i<l.length:=(yC.1 C).1;have m:Hid (Ref.kind c.f ((Ref.number c.f j+i:Nat):Int)=x.width):=Ref.kind_at c.f hl C;have L:Hid (∀k,j<k->k<c.f.blocks.length->Ref.number c.f j+i<Ref.number c.f k):=fun k R _=>kZ c.f hf.val hl H R;have y:(c.f.params.length:Int)<=((Ref.number c.f j+i:Nat):Int):=by unfold Ref.number;omega
  obtain⟨Ab,cb,rfl,b1,b2,M⟩:=O;obtain⟨bb,ob,rfl,-,N⟩:=M (by omega);obtain⟨u,hu,F⟩:=N j l hl;obtain⟨Al,cl,rfl,l1,l2,U⟩:=F;obtain⟨bl,ol,rfl,-,W⟩:=U (by omega);obtain⟨-,-,-,hw,-⟩:=W i x C;obtain⟨Z,cp,rfl,p1,p2,-⟩:=S
  have d:((Ref.number c.f j+i:Nat):Int)<100:=by
   have e:Ref.count c.f=c.f.params.length+Ref.total c.f.blocks:=by unfold Ref.count Ref.number;rw[wg]
   omega
  obtain⟨q,I⟩:=xJ (Ref.number c.f j);have HQ:=dJ I;rw[I]at y d m L ⊢;obtain⟨v,hv⟩:∃v:Int,((q+i:Nat):Int)=v:=⟨_,rfl⟩;rw[hv]at y d m ⊢;have B:=dJ hv;have v0:0<=v:=by omega
  have Q:c.f.blocks.length<=10:=A.2.2.2.1;clear I hv M N U W hl C h hf h0 h1 D E A
  go_enter func161, ntmps161
  go_wp2
  go_loop [5] (fun s5=>∃k:Nat,j<=k/\k<c.f.blocks.length/\s5=.int .i64 (k:Int)) (fun s5=>(intOf s5).toNat)
  case atStart=>exact⟨c.f.blocks.length-1,by omega,by omega,by congr 1;omega⟩
  case round =>
   obtain⟨k,ab,t,rfl⟩:=hrel;have p:=K.out k t;by_cases he:j=k
   ·subst he;rw[HQ.out]at p;have ac:((q:Nat):Int)<=v:=by have:=B.out;omega
    have ad:IntKind.i64.wrap (v-(q:Int))=(i:Int):=by rw[IntWalk.i64_in _ (by have:=B.out;omega)];have:=B.out;omega
    go_wp2;go_quiet ((fail));all_goals go_wp2
    all_goals go_ret
    all_goals exact⟨de m.out.symm,(wL w).drewN _⟩
   ·have g:v<((Ref.number c.f k:Nat):Int):=by have:=L.out k (by omega) t;have:=B.out;omega
    obtain⟨r,T⟩:∃r:Int,((Ref.number c.f k:Nat):Int)=r:=⟨_,rfl⟩;rw[T]at p g;clear T;go_wp2;go_round;case rel=>exact⟨k-1,by omega,by omega,by congr 1;omega⟩
    case measure=>simp[intOf];omega
theorem PS.slot {c:Cfg}{w:World}{s:Rn.St}{b frm:Int}{vt:Value}(h:PS c w s b frm vt)(hf:VFn c.f)(hi:Rn.Inv c.f s){p:Rn.V}(h1:1<=p.s)(h2:p.s<=c.f.slots.length) :
  ∃(bj cp:Nat)(l:List Int),c.us[(p.s-1).toNat]?=some (bj,cp)/\s.mem[(p.s-1).toNat]?=some l/\s.mem.getD (p.s-1).toNat []=l/\l.length<=cp/\cp<=9223372036854775807/\(p.s-1).toNat<c.us.length/\c.us.length<=c.cm/\c.cm<=9223372036854775807 /\
   c.Am=some ⟨c.Bm,0,none⟩/\w.cell? ⟨c.Bm,(p.s-1).toNat,none⟩=some (.slice (some ⟨bj,0,none⟩) l.length cp)/\l.length<=8 /\
   ∃cur:Array Value,w.heap[bj]?=some (.cells cur 3 (0,0))/\∀(i:Nat)(z:Int),l[i]?=some z->cur[i]?=some (.int .i64 z):=by
 have y:=hi.mem;have hlen:s.mem.length=c.f.slots.length:=by rw[<-y];simp
 have B:s.mem.length=c.us.length:=h.mem.1;obtain⟨j,A⟩:=xJ ((p.s-1).toNat);have d:j<c.us.length:=by omega
 obtain⟨⟨bj,cp⟩,r⟩:∃u,c.us[j]?=some u:=⟨_,vu d⟩;obtain⟨l,hl⟩:∃l,s.mem[j]?=some l:=⟨_,vu (by omega)⟩;obtain⟨n,m⟩:∃n,c.f.slots[j]?=some n:=⟨_,vu (by omega)⟩
 have g:(l.length:Int)=n:=by have:=congrArg (fun q=>q[j]?) y;simp only[vH,hl,m,Option.map_some]at this;injection this
 obtain⟨C,D,cur,E,F⟩:=h.mem.2 j bj cp l r hl;obtain⟨s1,s2,s3⟩:=h.slots;obtain⟨s4,t,s5,s6⟩:=s3 (by omega);rw[A];refine⟨bj,cp,l,r,hl,by rw[vA,hl];rfl,C,D,d,s1,s2,s4,?_,?_,cur,E,F⟩
 ·rw[vX _ _ j _ _ _ s5,s6 j bj cp n r m,<-g];rfl
 ·have:=vT.1 hf.val.head.2 n (vz m);unfold Ref.isSlot at this;simp at this;omega
theorem iM {c:Cfg}{w:World}{s:Rn.St}{b frm:Int}{vt:Value}(h:PS c w s b frm vt)(hf:VFn c.f)(hi:Rn.Inv c.f s)(p:Rn.V)(hp:Rn.VOK c.f 33 p)(n:Nat)(hn:n<=4)(hb:Rn.bytesAt s.mem p n=none) :
  Calls prog 181 #[.pointer (some ⟨c.Bs,0,none⟩),vv p,.int .i64 n] w (RG (.tuple #[.slice none 0 0,.bool false]) w):=by
 have d:Gr w (w.alloc (.cells #[.bool p.p,.int .i64 p.s,.int .u32 p.n] 37)):=(wL w).alloc _;have t:=dJ d
 cases hpp:p.p with
 | true =>
  clear hb hp hi h d;unfold vv;rw[hpp]at t;rw[hpp]
  go_enter func181, ntmps181
  go_wp2;go_ret2;exact⟨rfl,t.out⟩
 | false =>
  obtain⟨I,J,R,T⟩:=hp.ptr hpp;obtain⟨L,O,l,-,-,hl,F,C,D,H,B,y,g,E,-⟩:=h.slot hf hi I J
  have r:l.length<p.n.toNat+n:=by
   unfold Rn.bytesAt at hb;rw[hl,hpp]at hb;split at hb;next hc=>simpa using hc
   next hc=>cases hb
  have M:w.cell? ⟨c.Bs,8,none⟩=some (.slice (some ⟨c.Bm,0,none⟩) c.us.length c.cm):=by have:w.cell? ⟨c.Bs,8,none⟩=some c.mv:=h.cell 8;rw[this];unfold Cfg.mv;rw[y]
  have G:=cY h.st
  have z:c.Bm<w.heap.size:=by obtain⟨-,-,q⟩:=h.slots;obtain⟨-,A,K,-⟩:=q (by omega);exact cY K
  unfold vv;obtain⟨U,S,N⟩:=p;dsimp only at *;subst hpp;obtain⟨j,m⟩:=xJ ((S-1).toNat);rw[m]at D g;have Q:S-1=(j:Int):=by omega
  have u:(l.length:Int)<N+n:=by omega
  clear hb hp hi h d hl r m y
  go_enter func181, ntmps181
  go_wp2;go_quiet ((fail));all_goals go_wp2
  all_goals go_ret2
  all_goals exact⟨rfl,t.out.drewN _⟩
theorem iN {c:Cfg}{w:World}{s:Rn.St}{b frm:Int}{vt:Value}(h:PS c w s b frm vt)(hf:VFn c.f)(hi:Rn.Inv c.f s)(p:Rn.V)(hp:Rn.VOK c.f 33 p)(n:Nat)(hn1:1<=n)(hn:n<=4)(hb:Rn.bytesAt s.mem p n≠none) :
  ∃(bj cp:Nat),c.us[(p.s-1).toNat]?=some (bj,cp)/\p.n.toNat+n<=cp/\cp<=9223372036854775807/\Calls prog 181 #[.pointer (some ⟨c.Bs,0,none⟩),vv p,.int .i64 n] w (RG (.tuple #[.slice (some ⟨bj,p.n.toNat,none⟩) n (cp-p.n.toNat),.bool true]) w):=by
 have g:Gr w (w.alloc (.cells #[.bool p.p,.int .i64 p.s,.int .u32 p.n] 37)):=(wL w).alloc _;have D:=dJ g
 have r:p.p=false:=by
  cases h:p.p with
  | false=>rfl
  | true=>exact absurd (by unfold Rn.bytesAt;rw[wa (.inl h)]) hb
 obtain⟨M,O,W,X⟩:=hp.ptr r;obtain⟨bj,cp,l,t,-,hl,J,u,H,L,G,z,d,I,-⟩:=h.slot hf hi M O
 have y:p.n.toNat+n<=l.length:=by
  rcases wh l.length (p.n.toNat+n) with q|q
  ·exact absurd (by unfold Rn.bytesAt;rw[hl,wa (.inr q)]) hb
  ·exact q
 refine⟨bj,cp,t,by omega,u,?_⟩
 have R:w.cell? ⟨c.Bs,8,none⟩=some (.slice (some ⟨c.Bm,0,none⟩) c.us.length c.cm):=by have:w.cell? ⟨c.Bs,8,none⟩=some c.mv:=h.cell 8;rw[this];unfold Cfg.mv;rw[z]
 have K:=cY h.st
 have C:c.Bm<w.heap.size:=by obtain⟨-,-,q⟩:=h.slots;obtain⟨-,F,Q,-⟩:=q (by omega);exact cY Q
 unfold vv;obtain⟨Y,S,N⟩:=p;dsimp only at *;subst r;obtain⟨j,m⟩:=xJ ((S-1).toNat);rw[m]at H d;have T:S-1=(j:Int):=by omega
 have A:N+n<=(l.length:Int):=by omega
 have B:N+n<=(cp:Int):=by omega
 have U:0<=(n:Int):=by omega
 have E:Hid ((N+(n:Int)).toNat-N.toNat=n):=by show _=_;omega
 clear hb hp hi h g hl m z t y
 go_enter func181, ntmps181
 go_wp2;go_quiet ((fail));all_goals go_wp2
 all_goals go_ret2
 all_goals exact⟨by show Ending.returned (.tuple #[.slice _ ((N+(n:Int)).toNat-N.toNat) _,.bool true])=_;rw[E.out],D.out.drewN _⟩
theorem qb {x v:Int}{i:Nat}(h0:0<=x)(h1:x<2 ^ i)(h2:0<=v)(h3:v*2 ^ i+x<4294967296):bits .or .u32 x (v*2 ^ i)=x+v*2 ^ i:=by
 obtain⟨a,rfl⟩:=vF h0;obtain⟨b,rfl⟩:=vF h2;have g:((b:Int)*2 ^ i)=((b*2 ^ i:Nat):Int):=by simp
 have d:a<2 ^ i:=by
  have e:((2:Int) ^ i)=((2 ^ i:Nat):Int):=by simp
  rw[e]at h1
  exact_mod_cast h1
 rw[g]at h3 ⊢;generalize hm:b*2 ^ i=m at h3 ⊢;show IntKind.u32.wrap (((BitVec.ofInt 32 (a:Int) ||| BitVec.ofInt 32 (m:Int)).toNat:Nat):Int)=_;rw[BitVec.toNat_or,Wd.ofInt_nat _ (by omega),Wd.ofInt_nat _ (by omega)]
 have e:a ||| m=m+a:=by rw[<-hm,<-Nat.shiftLeft_eq,Nat.or_comm];exact(Nat.shiftLeft_add_eq_or_of_lt d b).symm
 rw[e,Wd.wrap_in _ (by omega) (by omega)];omega
theorem rI {n x y:Int}(hn:Wd.Wid n):bits .and .u32 ((x+-y)%4294967296) (Wd.sz n-1)=(x-y)%Wd.sz n:=by rw[show x+-y=x-y by omega];exact Wd.wrap_mask _ hn
theorem kV {o l n a b x v:Int}{k m L K:Nat}(hn:Wd.Wid n)(hl1:1<=l)(hL:l=L)(hK:(n / l).toNat=K)(hl3:n%l=0)(hm:m=k*L)(hx:x=Wd.lanes o l k a b)(hlt:(m:Int)<n)(hv:v=Wd.lane1 o (Wd.sz l) (a / 2 ^ m) (b / 2 ^ m)) :
  bits .or .u32 x (v*2 ^ m%4294967296)=Wd.lanes o l (k+1) a b/\k+1<=K/\m+L=(k+1)*L:=by
 have u:Wd.sz l ^ k=2 ^ m:=by subst hL;rw[Wd.sz_pow];unfold Wd.sz;rw[vG,hm,Nat.mul_comm]
 have t:=Wd.lanes_range o l k a b;have g:=Wd.lane1_range o (Wd.sz l) (a / 2 ^ m) (b / 2 ^ m) (Wd.sz_pos l);rw[<-hv]at g;rw[<-hx,u]at t
 have d:n=l*K:=by
  have q:=Int.mul_ediv_add_emod n l;have C:0<=n / l:=wD (by have:=hn.1;omega) (by omega);have z:((K:Nat):Int)=n / l:=by omega
  rw[z];omega
 have j:k<K:=by
  rw[hL]at d;have e:(m:Int)=(L:Int)*k:=by rw[hm];simp[Int.mul_comm]
  rw[e,d]at hlt;have:=Int.lt_of_mul_lt_mul_left hlt (by omega);omega
 have p:m+L=(k+1)*L:=by rw[hm,Nat.add_mul];omega
 have y:v*2 ^ m+x<4294967296:=by
  have A:v*2 ^ m+x<Wd.sz l*2 ^ m:=by have:v*2 ^ m<=(Wd.sz l-1)*2 ^ m:=Int.mul_le_mul_of_nonneg_right (by omega) (Int.le_of_lt (Int.pow_pos (by decide)));rw[Int.sub_mul]at this;omega
  have B:Wd.sz l*2 ^ m<=4294967296:=by
   have e:Wd.sz l*2 ^ m=Wd.sz ((m+L:Nat):Int):=by unfold Wd.sz;rw[hL,vG,vG,Nat.add_comm m L,Int.pow_add]
   rw[e];refine Int.le_trans (Wd.sz_le ?_) (Wd.sz_32 hn);rw[vG,p,d,hL];have:(((L:Nat):Int)*((K:Nat):Int)).toNat=L*K:=by rw[<-Int.natCast_mul,vG]
   rw[this,Nat.mul_comm L K];exact Nat.mul_le_mul_right _ j
  omega
 have r:0<=v*2 ^ m:=Int.mul_nonneg g.1 (Int.le_of_lt (Int.pow_pos (by decide)));refine⟨?_,j,p⟩;rw[Int.emod_eq_of_lt r (by omega),qb t.1 t.2 g.1 y,Wd.lanes_step,<-hx,u,<-hv]
theorem gm {l a:Int}(hl:Wd.Wid l)(m:Nat)(h0:0<=a)(h1:a<4294967296):bits .and .u32 (a / 2 ^ m) (Wd.sz l-1)=a / 2 ^ m%Wd.sz l:=by have d:(0:Int)<=2 ^ m:=Int.le_of_lt (Int.pow_pos (by decide));exact Wd.mask_and hl (wD h0 d) (Int.lt_of_le_of_lt (Int.ediv_le_self _ h0) h1)
theorem td {l a b:Int}(hl:Wd.Wid l)(m:Nat)(ha:0<=a/\a<4294967296)(hb:0<=b/\b<4294967296) :
  bits .and .u32 ((bits .and .u32 (a / 2 ^ m) (Wd.sz l-1)+bits .and .u32 (b / 2 ^ m) (Wd.sz l-1))%4294967296) (Wd.sz l-1)=Wd.lane1 19 (Wd.sz l) (a / 2 ^ m) (b / 2 ^ m):=by
 rw[Wd.wrap_mask _ hl,gm hl m ha.1 ha.2,gm hl m hb.1 hb.2];rfl
theorem te {l a b:Int}(hl:Wd.Wid l)(m:Nat)(ha:0<=a/\a<4294967296)(hb:0<=b/\b<4294967296) :
  bits .and .u32 ((bits .and .u32 (a / 2 ^ m) (Wd.sz l-1)+-bits .and .u32 (b / 2 ^ m) (Wd.sz l-1))%4294967296) (Wd.sz l-1)=Wd.lane1 20 (Wd.sz l) (a / 2 ^ m) (b / 2 ^ m):=by
 rw[rI hl,gm hl m ha.1 ha.2,gm hl m hb.1 hb.2];rfl
namespace Rn
theorem numB_snoc:∀(l:List Int)(b:Int),numB (l++[b])=numB l+b*256 ^ l.length
 | [],b=>by simp[numB]
 | a::r,b=>by
  rw[List.cons_append,numB,numB,numB_snoc r b,List.length_cons,Int.pow_succ,Int.mul_add,<-Int.add_assoc]
  congr 1
  rw[Int.mul_left_comm,Int.mul_comm 256]
theorem pow_256 (k m:Nat)(h:m=8*k):(256:Int) ^ k=2 ^ m:=by subst h;rw[Int.pow_mul];rfl
theorem num_step {bs:List Int}{k m:Nat}{b x:Int}(hm:m=8*k)(hk:bs[k]?=some b)(hx:x=numB (bs.take k))(hn:∀z∈bs.take k,0<=z/\z<=255)(h0:0<=b)(h1:b<=255)(h4:k<4) :
  bits .or .u32 x (b*2 ^ m%4294967296)=numB (bs.take (k+1)):=by
 have l:=(yC.1 hk).1;have hl:(bs.take k).length=k:=by rw[List.length_take];omega
 obtain⟨g,j⟩:=numB_range _ hn;rw[hl,pow_256 k m hm,<-hx]at j;rw[<-hx]at g
 have r:(2:Int) ^ m<=16777216:=by rcases (by omega:k=0\/k=1\/k=2\/k=3) with rfl|rfl|rfl|rfl<;>subst hm<;>decide
 have p:(0:Int)<2 ^ m:=Int.pow_pos (by decide);have q:b*2 ^ m<=255*2 ^ m:=Int.mul_le_mul_of_nonneg_right h1 (by omega);have d:0<=b*2 ^ m:=Int.mul_nonneg h0 (by omega);rw[Int.emod_eq_of_lt d (by omega),qb g j h0 (by omega),List.take_add_one,hk];show _=numB (bs.take k++[b]);rw[numB_snoc,hl,pow_256 k m hm,<-hx]
end Rn
def kW (mem:List (List Int))(p:Rn.V)(n:Nat):Value:=match Rn.load mem p n with|none=>oK|some v=>vI v
theorem qq {c:Cfg}{w:World}{s:Rn.St}{b frm:Int}{vt:Value}(h:PS c w s b frm vt)(hf:VFn c.f)(hi:Rn.Inv c.f s)(p:Rn.V)(hp:Rn.VOK c.f 33 p)(n:Nat)(hn1:1<=n)(hn:n<=4) :
  Calls prog 159 #[.pointer (some ⟨c.Bs,0,none⟩),vv p,.int .i64 n] w (RG (kW s.mem p n) w):=by
 have t:Gr w (w.alloc (.cells #[.bool p.p,.int .i64 p.s,.int .u32 p.n] 37)):=(wL w).alloc _;have HB:=dJ t;by_cases E:Rn.bytesAt s.mem p n=none
 ·have Z:=dJ (iM (h.gr t) hf hi p hp n hn E);have I:Hid (kW s.mem p n=oK):=by show _=_;unfold kW Rn.load;rw[E];rfl
  clear h hi hp E t;unfold vv at Z ⊢
  go_enter func159, ntmps159
  go_wp2_with (first|(go_at_call 181;refine Z.out.mono ?_;rintro e H ⟨rfl,J⟩)|(go_at_call 158;refine(dF _).mono ?_;rintro e w2 ⟨rfl,rfl⟩))
  go_ret;exact⟨by rw[I.out];rfl,HB.out.trans J⟩
 ·obtain⟨bj,cp,M,K,ae,CS⟩:=iN (h.gr t) hf hi p hp n hn1 hn E
  obtain⟨j,A⟩:∃j,Rn.bytesAt s.mem p n=some j:=by
   cases q:Rn.bytesAt s.mem p n with
   | none=>exact absurd q E
   | some j=>exact⟨j,rfl⟩
  obtain⟨bl,br⟩:=Rn.bytesAt_range hi.bytes A
  have L:p.p=false:=by
   cases q:p.p with
   | false=>rfl
   | true=>exact absurd (by unfold Rn.bytesAt;rw[wa (.inl q)]) E
  obtain⟨p1,p2,p3,p4⟩:=hp.ptr L;obtain⟨ab,ac,l,g,-,hl,-,-,-,-,-,-,-,-,ad,u,d⟩:=h.slot hf hi p1 p2;rw[M]at g;injection g with g;injection g with e1 e2;subst e1;subst e2
  have HC:Hid (∀H,Gr w H->∀k z,j[k]?=some z->H.cell? ⟨bj,p.n.toNat+k,none⟩=some (.int .i64 z)):=by
   intro H J k z r;have hr:=(J.heap _ (cY u)).trans u;rw[vX _ _ _ _ _ _ hr];refine d _ _ ?_;have:=A;unfold Rn.bytesAt at this;split at this
   ·cases this
   ·injection this with this;rw[<-this,hl]at r;rw[vL]at r;split at r
    ·rwa [List.getElem?_drop]at r
    ·cases r
  have I:Hid (kW s.mem p n=if j.any (fun b=>decide (b<0))=true then vI Rn.poison else vI (Rn.word (Rn.numB j))):=by show _=_;unfold kW Rn.load;rw[A];simp only[Option.map_some];split<;>rfl
  have S:=dJ br;have C:=dJ CS;obtain⟨R,hR⟩:=xJ (kW s.mem p n);rw[hR]at I ⊢;obtain⟨N,hN⟩:=xJ p.n.toNat;rw[hN]at HC K C;clear E CS A br hp hi h M hl d u t hR hN p1 p2 p3 p4 L;unfold vv at C ⊢
  go_enter func159, ntmps159
  go_wp2_with (first|(go_at_call 181;refine C.out.mono ?_;rintro e H ⟨rfl,J⟩;have D:=dJ (HB.out.trans J)))
  go_loop [9,24] (fun s9 G=>∃k:Nat,k<=n/\G=.int .i64 (k:Int)/\∃x:Int,s9=.int .u32 x/\Hid (x=Rn.numB (j.take k)/\∀z∈j.take k,0<=z/\z<=255)) (fun _ G=>n-(intOf G).toNat)
  case atStart=>exact⟨0,vU _,rfl,0,rfl,rfl,fun z r=>by simp at r⟩
  case round =>
   obtain⟨k,hk,rfl,x,rfl,O⟩:=hrel;by_cases af:k<n
   ·obtain⟨z,r⟩:∃z,j[k]?=some z:=⟨_,vu (by omega)⟩;have hc:=HC.out H D.out k z r;have Y:=S.out z (vz r);obtain⟨z1,z2⟩:=Y;have U:=dJ r;clear r;by_cases B:z<0
    ·have T:Hid (vI Rn.poison=R):=by
      show _=_;rw[I.out,wa];rw[wC];exact⟨z,vz U.out,by simpa using B⟩
     go_wp2_with (go_at_call 162;refine(du _).mono ?_;rintro e w8 ⟨rfl,g8⟩);go_ret;exact⟨by rw[<-T.out];rfl,D.out.trans g8⟩
    ·obtain⟨m,hm⟩:∃m,m=8*k:=⟨_,rfl⟩;have ag:8*(k:Int)=(m:Int):=by omega
     have aa:m<32:=by omega
     have HM:=dJ hm;have Q:0<=z:=by omega
     clear B hm;go_wp2;refine⟨⟨k+1,by omega,by go_num,_,rfl,?_,?_⟩,?_⟩
     ·exact Rn.num_step HM.out U.out O.out.1 O.out.2 Q z2 (by omega)
     ·intro y F;rw[List.take_add_one,U.out]at F;simp at F;rcases F with F|rfl
      ·exact O.out.2 y F
      ·exact⟨Q,z2⟩
     ·simp[intOf];omega
   ·have W:k=n:=by omega
    have T:Hid (vI (Rn.word x)=R):=by show _=_;have e:j.take k=j:=vO (by omega);rw[I.out,O.out.1,e,yD];rw[wC];rintro⟨y,F,X⟩;have:=O.out.2 y (by rw[e];exact F);simp at X;omega
    subst W;go_wp2;go_ret;exact⟨by rw[<-T.out];rfl,D.out⟩
structure FrS (S:Nat->Prop)(w w':World):Prop where
 os:w'.os=w.os
 tape:w'.tape=w.tape
 output:w'.output=w.output
 size:w.heap.size<=w'.heap.size
 block:∀k,k<w.heap.size->¬S k->w'.heap[k]?=w.heap[k]?
section
variable {S S':Nat->Prop}{w w' w'' a b:World}
theorem FrS.refl (S:Nat->Prop)(w:World):FrS S w w:=⟨rfl,rfl,rfl,vV _,fun _ _ _=>rfl⟩
theorem FrS.trans (h:FrS S w w')(k:FrS S w' w''):FrS S w w'' :=
 ⟨k.os.trans h.os,k.tape.trans h.tape,k.output.trans h.output,Nat.le_trans h.size k.size,fun j g d=>(k.block j (by have:=h.size;omega) d).trans (h.block j g d)⟩
theorem FrS.of_gr (g:Gr w w'):FrS S w w':=⟨g.os,g.tape,g.output,g.size,fun k d _=>g.heap k d⟩
theorem FrS.mono (h:FrS S w w')(hs:∀k,S k->S' k):FrS S' w w':=⟨h.os,h.tape,h.output,h.size,fun k d g=>h.block k d fun q=>g (hs k q)⟩
theorem FrS.below {n:Nat}(h:FrS S w w')(hS:∀k,S k->n<=k)(hn:n<=w.heap.size):Below n w w':=⟨h.os,h.tape,h.output,h.size,fun k d=>h.block k (by omega) fun q=>by have:=hS k q;omega⟩
theorem FrS.setCell (h:FrS S w a){p:Addr}(hp:S p.block)(u:Value):FrS S w (a.setCell p u) :=
 ⟨h.os,h.tape,h.output,by have:=h.size;simp;omega,fun k g d=>(wk _ _ _ _ (fun e=>d (by rw[e];exact hp))).trans (h.block k g d)⟩
theorem FrS.alloc (h:FrS S w a)(o:Obj):FrS S w (a.alloc o):=h.trans (FrS.of_gr ((wL a).alloc o))
theorem FrS.drewN (h:FrS S w a)(n:Nat):FrS S w (a.drewN n):=⟨h.os,h.tape,h.output,h.size,h.block⟩
theorem FrS.drew (h:FrS S w a):FrS S w a.drew:=⟨h.os,h.tape,h.output,h.size,h.block⟩
end
def Mut (c:Cfg)(k:Nat):Prop:=k=c.Bs\/k=c.Bv\/k=c.Bh\/∃j cp:Nat,c.us[j]?=some (k,cp)
theorem PS.mut {c:Cfg}{w:World}{s:Rn.St}{b frm:Int}{vt:Value}(h:PS c w s b frm vt){k:Nat}(hk:Mut c k):c.n₀<=k:=by
 obtain⟨l,m,p,r,t,q⟩:=h.old;rcases hk with rfl|rfl|rfl|⟨j,d,g⟩
 ·exact l
 ·exact m
 ·exact p
 ·exact(q j k d g).1
section
variable {c:Cfg}{w w':World}{s:Rn.St}{b frm:Int}{vt:Value}
theorem dn {w:World}{i j:Nat}{x y:Array Value}{t u:TypeId}{fx fy:Nat × Nat}(h1:w.heap[i]?=some (.cells x t fx))(h2:w.heap[j]?=some (.cells y u fy))(hn:t≠u):i≠j:=by intro e;subst e;rw[h1]at h2;injection h2 with h2;injection h2 with _ h2;exact hn h2
theorem fW {us:List (Nat × Nat)}(h:(us.map (·.1)).Nodup){i j b x y:Nat}(hij:i<j)(h1:us[i]?=some (b,x))(h2:us[j]?=some (b,y)):False:=by obtain⟨l,d⟩:=yC.1 h1;obtain⟨m,g⟩:=yC.1 h2;have:=List.pairwise_iff_getElem.1 h i j (by simpa using l) (by simpa using m) hij;simp[d,g]at this
theorem PS.memSet (h:PS c w s b frm vt){j bj cp:Nat}{l l':List Int}{cur:Array Value}(hus:c.us[j]?=some (bj,cp))(hl:s.mem[j]?=some l)(hll:l'.length=l.length)(hF:FrS (·=bj) w w')(hb:w'.heap[bj]?=some (.cells cur 3 (0,0)))
  (hc:∀(i:Nat)(z:Int),l'[i]?=some z->cur[i]?=some (.int .i64 z)):PS c w' {s with mem:=s.mem.set j l' } b frm vt:=by
 obtain⟨Y,R,F,y,Z⟩:=h.mem.2 j bj cp l hus hl;have L:=dn h.st y (by decide);have M:=dn h.vals y (by decide);have N:=dn h.had y (by decide);obtain⟨S,T,U,W,X,O⟩:=h.old;obtain⟨P,Q⟩:=O j bj cp hus
 exact {
   st:=(hF.block _ (cY h.st) L).trans h.st
   vals:=(hF.block _ (cY h.vals) M).trans h.vals
   had:=(hF.block _ (cY h.had) N).trans h.had
   hlen:=h.hlen
   mem:=⟨by rw[List.length_set];exact h.mem.1,fun G E A m g t=>by
     by_cases e:j=G
     · subst e
       rw[hus]at g
       injection g with g
       injection g with g I
       subst g;subst I
       have B:=(yC.1 hl).1
       rw[ww B]at t
       injection t with t
       subst t
       exact⟨by omega,R,cur,hb,hc⟩
     · rw[List.getElem?_set_ne e]at t
       obtain⟨u,p,d,r,D⟩:=h.mem.2 G E A m g t
       have C:E≠bj:=by
         intro H;subst H
         rcases Nat.lt_or_gt_of_ne e with q|q
         · exact fW h.apart q hus g
         · exact fW h.apart q g hus
       exact⟨u,p,d,(hF.block _ (cY r) C).trans r,D⟩⟩
   slots:=⟨h.slots.1,h.slots.2.1,fun K=>by
     obtain⟨u,d,p,r⟩:=h.slots.2.2 K
     exact⟨u,d,(hF.block _ (cY p) (dn p y (by decide))).trans p,r⟩⟩
   fn:=h.fn.below (hF.below (fun k J=>by rw[J];exact P) h.n₀)
   first:=by
     obtain⟨u,p,d,r,D⟩:=h.first
     exact⟨u,p,d,(hF.block _ (cY r) (fun e=>Q e.symm)).trans r,D⟩
   old:=h.old
   apart:=h.apart}
end
section
variable {c:Cfg}{w w':World}{s:Rn.St}{b frm:Int}{vt:Value}
theorem PS.setVal (h:PS c w s b frm vt){v:Nat}{x:Rn.V}(hF:FrS (fun k=>k=c.Bv\/k=c.Bh) w w')(hv:w'.heap[c.Bv]?=some (.cells (dy (s.vals.set v x)).toArray 37 (0,0)))
  (hh:w'.heap[c.Bh]?=some (.cells ((s.had.set v true).map Value.bool).toArray 4 (0,0))):PS c w' (s.set v x) b frm vt:=by
 obtain⟨E,C,D,F,G,H⟩:=h.old
 have keep:∀{k:Nat} {d:Array Value} {t:TypeId} {fr:Nat × Nat},w.heap[k]?=some (.cells d t fr)->t≠37->t≠4->w'.heap[k]?=some (.cells d t fr):=fun g r u =>
  (hF.block _ (cY g) (by
    rintro (rfl|rfl)
    · exact dn g h.vals r rfl
    · exact dn g h.had u rfl)).trans g
 exact {
   st:=by
     have:=keep h.st (by decide) (by decide)
     show w'.heap[c.Bs]?=some (.cells (oE c (s.vals.set v x).length b frm s.steps vt) _ _)
     rw[List.length_set];exact this
   vals:=hv
   had:=hh
   hlen:=by show (s.had.set v true).length=(s.vals.set v x).length;rw[List.length_set,List.length_set];exact h.hlen
   mem:=⟨h.mem.1,fun j z A m r u=>by
     obtain⟨l,p,d,q,y⟩:=h.mem.2 j z A m r u
     exact⟨l,p,d,keep q (by decide) (by decide),y⟩⟩
   slots:=⟨h.slots.1,h.slots.2.1,fun B=>by
     obtain⟨l,d,p,q⟩:=h.slots.2.2 B
     exact⟨l,d,keep p (by decide) (by decide),q⟩⟩
   fn:=h.fn.below (hF.below (fun k g=>g.elim (fun e=>by rw[e];exact C) (fun e=>by rw[e];exact D)) h.n₀)
   first:=by
     obtain⟨l,p,d,q,y⟩:=h.first
     exact⟨l,p,d,keep q (by decide) (by decide),y⟩
   old:=h.old
   apart:=h.apart}
theorem gp (l:List Rn.V)(v:Nat)(x:Rn.V):(((dy l).toArray.setIfInBounds (v*3) (.bool x.p)).setIfInBounds (v*3+1) (.int .i64 x.s)).setIfInBounds (v*3+2) (.int .u32 x.n)=(dy (l.set v x)).toArray:=by rw[wB,wB,wB,Nat.mul_comm v 3,kG]
theorem jY (l:List Bool)(v:Nat):((l.map Value.bool).toArray.setIfInBounds v (.bool true))=((l.set v true).map Value.bool).toArray:=by rw[wB,List.map_set]
theorem rY (h:PS c w s b frm vt)(v:Nat)(hv:v<s.vals.length)(hn:s.vals.length<=1000)(x:Rn.V) :
  Calls prog 130 #[.pointer (some ⟨c.Bs,0,none⟩),.int .i64 v,vv x] w fun e w'=>e=.returned (.tuple #[])/\PS c w' (s.set v x) b frm vt/\FrS (Mut c) w w':=by
 obtain⟨W,B⟩:=xJ (w.alloc (.cells #[.bool x.p,.int .i64 x.s,.int .u32 x.n] 37));have d:Gr w W:=by rw[<-B];exact(wL w).alloc _
 have hh:=h.gr d;have K:W.cell? ⟨c.Bs,5,none⟩=some (.slice (some ⟨c.Bv,0,none⟩) s.vals.length s.vals.length):=hh.cell 5;have L:W.cell? ⟨c.Bs,6,none⟩=some (.slice (some ⟨c.Bh,0,none⟩) s.vals.length s.vals.length):=hh.cell 6;have x0:W.cell? ⟨w.heap.size,0,none⟩=some (.bool x.p):=cW _ _ 0 (by rw[B];exact wL W) rfl;have x1:W.cell? ⟨w.heap.size,1,none⟩=some (.int .i64 x.s):=cW _ _ 1 (by rw[B];exact wL W) rfl;have x2:W.cell? ⟨w.heap.size,2,none⟩=some (.int .u32 x.n):=cW _ _ 2 (by rw[B];exact wL W) rfl;obtain⟨y,I⟩:∃y,s.vals[v]?=some y:=⟨_,vu hv⟩;obtain⟨z,J⟩:∃z,s.had[v]?=some z:=⟨_,vu (by rw[h.hlen];exact hv)⟩;obtain⟨E,F,G⟩:=dZ _ _ _ I;rw[Nat.mul_comm]at E F G;have M:W.cell? ⟨c.Bv,v*3,none⟩=some (.bool y.p):=(vX _ _ _ _ _ _ hh.vals).trans (by simpa using E);have d1:W.cell? ⟨c.Bv,v*3+1,none⟩=some (.int .i64 y.s):=(vX _ _ _ _ _ _ hh.vals).trans (by simpa using F);have d2:W.cell? ⟨c.Bv,v*3+2,none⟩=some (.int .u32 y.n):=(vX _ _ _ _ _ _ hh.vals).trans (by simpa using G);have N:W.cell? ⟨c.Bh,v,none⟩=some (.bool z):=(vX _ _ _ _ _ _ hh.had).trans (by simp[J]);have A:∀i,W.frozen? ⟨c.Bv,i,none⟩=false:=fun i=>by unfold World.frozen?;simp[hh.vals]
 have H:∀i,W.frozen? ⟨c.Bh,i,none⟩=false:=fun i=>by unfold World.frozen?;simp[hh.had]
 have O:=A (v*3);have Q:=A (v*3+1);have R:=A (v*3+2);have T:=H v;have U:c.Bs≠c.Bv:=dn h.st h.vals (by decide);have X:c.Bs≠c.Bh:=dn h.st h.had (by decide);have C:c.Bv≠c.Bh:=dn h.vals h.had (by decide);have Y:c.Bv≠w.heap.size:=by have:=cY h.vals;omega
 have Z:c.Bh≠w.heap.size:=by have:=cY h.had;omega
 have q:=cX (i:=v*3) (.bool x.p) hh.vals;have r:=cX (i:=v*3+1) (.int .i64 x.s) q;have g:=cX (i:=v*3+2) (.int .u32 x.n) r;rw[gp]at g;have u:=((wk ((W.setCell ⟨c.Bv,v*3,none⟩ (.bool x.p)).setCell ⟨c.Bv,v*3+1,none⟩ (.int .i64 x.s)) ⟨c.Bv,v*3+2,none⟩ (.int .u32 x.n) c.Bh C.symm).trans ((wk (W.setCell ⟨c.Bv,v*3,none⟩ (.bool x.p)) ⟨c.Bv,v*3+1,none⟩ (.int .i64 x.s) c.Bh C.symm).trans (wk W ⟨c.Bv,v*3,none⟩ (.bool x.p) c.Bh C.symm))).trans hh.had;have j:=cX (i:=v) (.bool true) u;rw[jY]at j;have t:=(wk (((W.setCell ⟨c.Bv,v*3,none⟩ (.bool x.p)).setCell ⟨c.Bv,v*3+1,none⟩ (.int .i64 x.s)).setCell ⟨c.Bv,v*3+2,none⟩ (.int .u32 x.n)) ⟨c.Bh,v,none⟩ (.bool true) c.Bv C).trans g
 have D:FrS (fun k=>k=c.Bv\/k=c.Bh) W ((((W.setCell ⟨c.Bv,v*3,none⟩ (.bool x.p)).setCell ⟨c.Bv,v*3+1,none⟩ (.int .i64 x.s)).setCell ⟨c.Bv,v*3+2,none⟩ (.int .u32 x.n)).setCell ⟨c.Bh,v,none⟩ (.bool true)).drew :=
  (((((FrS.refl _ W).setCell (p:=⟨c.Bv,v*3,none⟩) (.inl rfl) _).setCell (p:=⟨c.Bv,v*3+1,none⟩) (.inl rfl) _).setCell (p:=⟨c.Bv,v*3+2,none⟩) (.inl rfl) _).setCell (p:=⟨c.Bh,v,none⟩) (.inr rfl) _).drew
 have l:=dJ (And.intro (hh.setVal D t j) ((FrS.of_gr (S:=Mut c) d).trans (D.mono fun k hk=>hk.elim (fun e=>.inr (.inl e)) (fun e=>.inr (.inr (.inl e))))));obtain⟨n,m⟩:=xJ s.vals.length;rw[m]at hv hn K L;clear h hh d q r g t u j D A H E F G I J m;unfold vv
 go_enter func130, ntmps130
 go_wp2
 go_region_with (fail)
 all_goals go_wp2
 all_goals go_end0
 all_goals exact⟨rfl,l.out⟩
end
def Kept (c:Cfg)(k:Nat):Prop:=Mut c k\/k=c.Bf\/k=c.Bm
section
variable {c:Cfg}{w w' w'':World}{s s' s'':Rn.St}{b frm b' frm' b'' frm'':Int}{vt vt' vt'':Value}{S:Nat->Prop}
theorem PS.away (h:PS c w s b frm vt)(hS:∀k,S k->c.n₀<=k/\¬Kept c k)(hF:FrS S w w'):PS c w' s b frm vt:=by
 have keep:∀{k:Nat} {o:Obj},w.heap[k]?=some o->Kept c k->w'.heap[k]?=some o:=fun r hK=>(hF.block _ (cY r) (fun q=>(hS _ q).2 hK)).trans r
 exact {
   st:=keep h.st (.inl (.inl rfl))
   vals:=keep h.vals (.inl (.inr (.inl rfl)))
   had:=keep h.had (.inl (.inr (.inr (.inl rfl))))
   hlen:=h.hlen
   mem:=⟨h.mem.1,fun j z u m y A=>by
     obtain⟨g,l,d,p,t⟩:=h.mem.2 j z u m y A
     exact⟨g,l,d,keep p (.inl (.inr (.inr (.inr ⟨j,u,y⟩)))),t⟩⟩
   slots:=⟨h.slots.1,h.slots.2.1,fun B=>by
     obtain⟨g,d,l,p⟩:=h.slots.2.2 B
     exact⟨g,d,keep l (.inr (.inr rfl)),p⟩⟩
   fn:=h.fn.below (hF.below (fun k r=>(hS k r).1) h.n₀)
   first:=by
     obtain⟨g,l,d,p,t⟩:=h.first
     exact⟨g,l,d,keep p (.inr (.inl rfl)),t⟩
   old:=h.old
   apart:=h.apart}
end
structure eD (c:Cfg)(pick:Rn.Pick)(fin:List Int) where
 ty:TypeId
 ptr:Value
 fnum:Nat
 ech:c.ch=.iface ty ptr
 inv:∀w:World,(method 377 ty ptr "backstay/run.choose").run prog w=.ok (fnum,ptr) w
 ent:∀(n:Int)(w:World),(callFunc fnum #[ptr,.int .i64 n]).run prog w=.ok (.enter fnum #[ptr,.int .i64 n]) w
 At:World->List Int->(Nat->Prop)->Prop
 apart:∀{w:World} {ws:List Int} {O:Nat->Prop},At w ws O->∀k,O k->c.n₀<=k/\k<w.heap.size/\¬Kept c k
 keep:∀{w w':World} {ws:List Int} {O S:Nat->Prop},At w ws O->FrS S w w'->(∀k,S k->c.n₀<=k/\¬O k)->At w' ws O
 call:∀{w:World} {ws:List Int} {O:Nat->Prop} (n:Int),At w ws O->Wd.Wid n->(ws++[n]) <+: fin ->
  Calls prog fnum #[ptr,.int .i64 n] w fun e w'=>e=.returned (.int .u32 (pick ws.length n))/\FrS O w w'/\∃O':Nat->Prop,At w' (ws++[n]) O'/\∀k,O' k->O k\/w.heap.size<=k
def Left {c:Cfg}{pick:Rn.Pick}{fin:List Int}(ch:eD c pick fin)(w:World)(O:Nat->Prop)(s':Rn.St)(b' frm':Int)(vt':Value)(w':World):Prop :=
 ∃O':Nat->Prop,PS c w' s' b' frm' vt'/\ch.At w' s'.widths O'/\FrS (fun k=>Mut c k\/O k) w w'/\∀k,O' k->O k\/w.heap.size<=k
section
variable {c:Cfg}{pick:Rn.Pick}{fin:List Int}{ch:eD c pick fin}{w w' w'':World}{s s' s'':Rn.St}{b frm b' frm' b'' frm'':Int}{vt vt' vt'':Value}{O:Nat->Prop}
theorem wG (hA:ch.At w s.widths O)(h:PS c w' s' b' frm' vt')(e:s'.widths=s.widths)(hF:FrS (Mut c) w w')(hm:∀k,Mut c k->c.n₀<=k):Left ch w O s' b' frm' vt' w' :=
 ⟨O,h,by rw[e];exact ch.keep hA hF (fun k d=>⟨hm k d,fun q=>(ch.apart hA k q).2.2 (.inl d)⟩),hF.mono (fun k d=>.inl d),fun k d=>.inl d⟩
theorem Left.of_gr (hA:ch.At w s.widths O)(h:PS c w s b frm vt)(g:Gr w w'):Left ch w O s b frm vt w' :=
 wG hA (h.gr g) rfl (FrS.of_gr g) (fun k d=>h.mut d)
theorem Left.chosen {n:Int}(hA:ch.At w s.widths O)(h:PS c w s b frm vt)(hF:FrS O w w'){O':Nat->Prop}(hA':ch.At w' (s.widths++[n]) O')(hO:∀k,O' k->O k\/w.heap.size<=k):Left ch w O (s.chose n) b frm vt w':=by have d:PS c w' s b frm vt:=h.away (fun k g=>⟨(ch.apart hA k g).1,(ch.apart hA k g).2.2⟩) hF;exact⟨O',⟨d.st,d.vals,d.had,d.hlen,d.mem,d.slots,d.fn,d.first,d.old,d.apart⟩,hA',hF.mono (fun k g=>.inr g),hO⟩
theorem Left.block (h:Left ch w O s' b' frm' vt' w'){r:Nat}(hr:r<w.heap.size)(h1:¬Mut c r)(h2:¬O r):w'.heap[r]?=w.heap[r]?:=by obtain⟨g,-,-,d,-⟩:=h;exact d.block r hr (fun q=>q.elim h1 h2)
theorem dX (hF:FrS (fun k=>Mut c k\/O k) w w'){O':Nat->Prop}(hO:∀k,O' k->O k\/w.heap.size<=k)(h:Left ch w' O' s'' b'' frm'' vt'' w''):Left ch w O s'' b'' frm'' vt'' w'':=by
 obtain⟨d,p,a,f,o⟩:=h;refine⟨d,p,a,⟨f.os.trans hF.os,f.tape.trans hF.tape,f.output.trans hF.output,Nat.le_trans hF.size f.size,fun k g j=>?_⟩,fun k g=>?_⟩
 ·refine(f.block k (by have:=hF.size;omega) fun q=>q.elim (fun q=>j (.inl q)) fun q=>?_).trans (hF.block k g j);rcases hO k q with q|q
  ·exact j (.inr q)
  ·omega
 ·rcases o k g with q|q
  ·exact hO k q
  ·exact .inr (by have:=hF.size;omega)
theorem Left.gr (h:Left ch w O s' b' frm' vt' w')(g:Gr w' w''):Left ch w O s' b' frm' vt' w'':=by obtain⟨d,p,a,f,o⟩:=h;exact dX f o (Left.of_gr a p g)
end
theorem FrS.grown {S:Nat->Prop}{w a b:World}{row:Option Nat}(h:FrS S w a)(g:a.grownBy b row)(hr:∀k,row=some k->S k\/w.heap.size<=k):FrS S w b :=
 ⟨g.os.trans h.os,g.tape.trans h.tape,g.output.trans h.output,Nat.le_trans h.size g.size,fun k j d=>(g.block k (by have:=h.size;omega) (fun e=>by
   rcases hr k e.symm with q|q
   · exact d q
   · omega)).trans (h.block k j d)⟩
theorem rz:(prog.info? 35).map (fun i=>(i.zero,i.size,i.bytes))=some (some (.int .u32 0),1,4):=by kernel_rfl
structure ExAt (B Bg:Nat)(w:World)(p ws:List Int)(u:Nat)(vp vw:Value):Prop where
 st:w.heap[Bg]?=some (.cells #[vp,vw,.int .i64 u] 86 (0,0))
 pth:Own1 B 35 w vp (p.map (Value.int .u32))
 wid:Own1 B 3 w vw (ws.map (Value.int .i64))
 ge:B<=Bg
def exO (Bg:Nat)(vp vw:Value)(k:Nat):Prop:=k=Bg\/vp.ownBlock=some k\/vw.ownBlock=some k
theorem dg {B:Nat}{e:TypeId}{w:World}{v:Value}{xs:List Value}(h:Own1 B e w v xs){k:Nat}(hk:v.ownBlock=some k):B<=k/\k<w.heap.size/\∃cur,w.heap[k]?=some (.cells cur e (0,0)):=by
 rcases h.2 with ⟨rfl,_⟩|⟨g,j,cur,rfl,l,d,_⟩
 ·simp[Value.ownBlock]at hk
 ·simp[Value.ownBlock]at hk;subst hk;exact⟨l,cY d,cur,d⟩
theorem dr {B:Nat}{e:TypeId}{w w':World}{v:Value}{xs:List Value}(h:Own1 B e w v xs)(hw:∀k,v.ownBlock=some k->w'.heap[k]?=w.heap[k]?):Own1 B e w' v xs:=by
 obtain⟨l,j⟩:=h;refine⟨l,?_⟩;rcases j with j|⟨k,d,g,hv,m,p,r⟩
 ·exact .inl j
 ·exact .inr ⟨k,d,g,hv,m,(hw k (by rw[hv];rfl)).trans p,r⟩
theorem ExAt.frs {B Bg:Nat}{w w':World}{p ws:List Int}{u:Nat}{vp vw:Value}{S:Nat->Prop}(h:ExAt B Bg w p ws u vp vw)(hF:FrS S w w')(hS:∀k,exO Bg vp vw k->¬S k):ExAt B Bg w' p ws u vp vw where
 st:=(hF.block Bg (cY h.st) (hS Bg (.inl rfl))).trans h.st
 pth:=dr h.pth fun k d=>hF.block k (dg h.pth d).2.1 (hS k (.inr (.inl d)))
 wid:=dr h.wid fun k d=>hF.block k (dg h.wid d).2.1 (hS k (.inr (.inr d)))
 ge:=h.ge
theorem ExAt.used {B Bg:Nat}{w:World}{p ws:List Int}{u:Nat}{vp vw:Value}(h:ExAt B Bg w p ws u vp vw)(n:Nat):ExAt B Bg (w.setCell ⟨Bg,2,none⟩ (.int .i64 n)) p ws n vp vw where
 st:=cX (i:=2) (.int .i64 n) h.st
 pth:=dr h.pth fun k d=>wk _ _ _ _ (by obtain⟨-,-,cur,q⟩:=dg h.pth d;exact dn q h.st (by decide))
 wid:=dr h.wid fun k d=>wk _ _ _ _ (by obtain⟨-,-,cur,q⟩:=dg h.wid d;exact dn q h.st (by decide))
 ge:=h.ge
theorem sq {B:Nat}{e:TypeId}{w:World}{v:Value}{xs:List Value}(h:Own1 B e w v xs){j:Nat}{x:Value}(hx:xs[j]?=some x):∃b c,v=.slice (some ⟨b,0,none⟩) xs.length c/\xs.length<=c/\c<=17592186044416000000/\w.cell? ⟨b,j,none⟩=some x/\w.frozen? ⟨b,j,none⟩=false/\b<w.heap.size:=by
 have z:=(yC.1 hx).1;rcases h.2 with ⟨rfl,t⟩|⟨g,d,m,rfl,y,l,p,q,u,r⟩
 ·omega
 ·refine⟨g,d,rfl,p,by unfold maxLen at q;omega,?_,vY _ _ _ _ _ l,cY l⟩;rw[vX _ _ _ _ _ _ l,<-hx,<-r];rw[vL,wa (by omega)];simp
theorem lS {B Bg:Nat}{w:World}{p ws:List Int}{u:Nat}{vp vw:Value}(h:ExAt B Bg w p ws u vp vw)(hu:u<p.length)(hp:p.length<=1000000)(n:Int) :
  Calls prog 264 #[.pointer (some ⟨Bg,0,none⟩),.int .i64 n] w fun e w'=>e=.returned (.int .u32 (p.getD u 0))/\ExAt B Bg w' p ws (u+1) vp vw/\FrS (fun k=>k=Bg) w w':=by
 obtain⟨z,l⟩:∃z,p[u]?=some z:=⟨_,vu hu⟩;obtain⟨b,c,rfl,A,C,t,-,I⟩:=sq h.pth (j:=u) (x:=.int .u32 z) (by rw[vH,l];rfl);rw[vS]at A
 have g:b≠Bg:=by obtain⟨-,-,r,q⟩:=dg h.pth (k:=b) rfl;exact dn q h.st (by decide)
 have E:w.cell? ⟨Bg,0,none⟩=some (.slice (some ⟨b,0,none⟩) p.length c):=by have:=vX _ _ 0 _ _ _ h.st;rw[this];simp
 have F:w.cell? ⟨Bg,2,none⟩=some (.int .i64 u):=vX _ _ 2 _ _ _ h.st;have H:w.frozen? ⟨Bg,2,none⟩=false:=vY _ _ 2 _ _ h.st
 have d:Hid (∀k,ExAt B Bg ((w.drewN k).setCell ⟨Bg,2,none⟩ (.int .i64 ((u:Int)+1))) p ws (u+1) (.slice (some ⟨b,0,none⟩) (p.map (Value.int .u32)).length c) vw/\FrS (fun k=>k=Bg) w ((w.drewN k).setCell ⟨Bg,2,none⟩ (.int .i64 ((u:Int)+1)))):=fun k=>by have y:=h.frs (FrS.of_gr (S:=fun _=>False) ((wL w).drewN k)) (fun _ _ q=>q);exact⟨y.used (u+1),((FrS.refl (fun k=>k=Bg) w).drewN k).setCell (p:=⟨Bg,2,none⟩) rfl _⟩
 have D:(u:Int)≠(p.length:Int):=by omega
 have G:∀k v,((w.drewN k).setCell ⟨Bg,2,none⟩ v).cell? ⟨b,u,none⟩=some (.int .u32 z):=fun k v=>(World.cell?_setCell_far _ ⟨Bg,2,none⟩ ⟨b,u,none⟩ v (by exact fun q=>g q.symm)).trans t;have m:Hid (z=p.getD u 0):=by show _=_;rw[vA,l];rfl
 clear h l
 go_enter func264, ntmps264
 go_wp2;go_quiet ((fail));all_goals go_wp2
 all_goals go_quiet ((fail))
 all_goals go_wp2
 all_goals go_ret
 all_goals exact⟨de m.out,(d.out _).1.frs (FrS.of_gr (S:=fun _=>False) ((wL _).drewN _)) (fun _ _ q=>q),(d.out _).2.drewN _⟩
theorem lB {P:Program}{w:World}{ops:Array Oper}{rest:List Oper}{o:Oper}{a:Act}{Q:Exit->Act->World->Prop}{B n:Nat}{t e:TypeId}{i:TypeInfo}{z:Value}{bytes:Nat}
  (ht:P.underlying t=some (.slice e)) (hi:P.info? e=some i) (hz:i.zero=some z) (hsize:i.size=1) (hby:i.bytes=bytes) (hzs:z.cells.size=1) (hbb:bytes<=128)
  (hgd:o.guard=none) (s x:Operand) (ho:o.op=.call {callee:=.builtin .append,args:=#[s,x],argTypes:=#[t,t]})
  {v:Value} {xs:List Value} (hn:xs.length=n) (hs:a.eval s=v) (hown:Own1 B e w v xs) {y:Value} {e':TypeId} (hy:y.oneCell'=true) (hx:a.eval x=.slice (some ⟨w.heap.size,0,none⟩) 1 1) (hlt:n<1099511627776) (hB:B<=w.heap.size)
  (h:∀A c w',Own1 B e w' (.slice A (n+1) c) (xs++[y])->(w.alloc (.cells #[y] e')).grownBy w' v.ownBlock->(∀k,(Value.slice A (n+1) c).ownBlock=some k->v.ownBlock=some k\/w.heap.size<=k)->wpList P ops Q rest (a.put o.dst (.slice A (n+1) c)) w') :
  wpList P ops Q (o::rest) a (w.alloc (.cells #[y] e')):=by
 subst hn;refine dG hgd s x t ho B e i z 1 bytes ht hi hz hsize hby hzs (by omega) v xs.length xs hs (ew hown ((wL _).alloc _)) _ 1 [y] hx (wM _ _ _) ?_ ?_ ?_ ?_ ?_
 ·intro u m;simp at m;subst m;exact hy
 ·simp only[maxLen];omega
 ·have:(xs.length+1)*bytes<=(xs.length+1)*128:=Nat.mul_le_mul_left _ hbb;omega
 ·simp;omega
 ·intro C w' g p l;have d:Own1 B e w' C (xs++[y]):=by unfold Own1;rw[vW];exact g
  obtain⟨A,c,hv⟩:=d.form;rw[vW]at hv;subst hv;refine h A c w' d p fun k j=>?_;rcases l with q|q
  ·exact .inl (q ▸ j)
  ·have r:(Value.slice A (xs.length+1) c).ownBlock=some (w.alloc (.cells #[y] e')).heap.size:=q;rw[r]at j;injection j with j;right;rw[<-j];simp
section
variable {B Bg:Nat}{W w2:World}{p ws:List Int}{u:Nat}{vp vw v':Value}{tmp:Obj}
theorem ExAt.pushP (h:ExAt B Bg W p ws u vp vw){z:Int}(hg:(W.alloc tmp).grownBy w2 vp.ownBlock)(ho:Own1 B 35 w2 v' (p.map (Value.int .u32)++[.int .u32 z]))(hat:∀k,v'.ownBlock=some k->vp.ownBlock=some k\/W.heap.size<=k) :
  w2.heap[Bg]?=some (.cells #[vp,vw,.int .i64 u] 86 (0,0))/\ExAt B Bg (w2.setCell ⟨Bg,0,none⟩ v') (p++[z]) ws u v' vw/\FrS (exO Bg vp vw) W (w2.setCell ⟨Bg,0,none⟩ v')/\∀k,exO Bg v' vw k->exO Bg vp vw k\/W.heap.size<=k:=by
 have m:FrS (exO Bg vp vw) W w2:=((FrS.refl _ W).alloc tmp).grown hg (fun k d=>.inl (.inr (.inl d)))
 have t:∀{k:Nat},vp.ownBlock=some k->k≠Bg:=fun d=>by obtain⟨-,-,j,q⟩:=dg h.pth d;exact dn q h.st (by decide)
 have l:∀{k:Nat},vw.ownBlock=some k->k≠Bg/\vp.ownBlock≠some k:=fun d=>by obtain⟨-,-,j,q⟩:=dg h.wid d;refine⟨dn q h.st (by decide),fun e=>?_⟩;obtain⟨-,-,y,A⟩:=dg h.pth e;exact dn q A (by decide) rfl
 have keep:∀k,k<W.heap.size->vp.ownBlock≠some k->w2.heap[k]?=W.heap[k]?:=fun k d hn=>(hg.block k (by simp;omega) (fun e=>hn e.symm)).trans (((wL W).alloc tmp).heap k d);have g:w2.heap[Bg]?=some (.cells #[vp,vw,.int .i64 u] 86 (0,0)):=(keep Bg (cY h.st) (fun e=>t e rfl)).trans h.st
 have r:∀{k:Nat},v'.ownBlock=some k->k≠Bg:=fun d=>by obtain⟨-,-,j,q⟩:=dg ho d;exact dn q g (by decide)
 refine⟨g,⟨cX (i:=0) v' g,?_,?_,h.ge⟩,m.setCell (p:=⟨Bg,0,none⟩) (.inl rfl) _,fun k d=>?_⟩
 ·rw[List.map_append];exact dr ho fun k d=>wk _ _ _ _ (r d)
 ·exact dr h.wid fun k d=>(wk _ _ _ _ (l d).1).trans (keep k (dg h.wid d).2.1 (l d).2)
 ·rcases d with d|d|d
  ·exact .inl (.inl d)
  ·exact(hat k d).elim (fun q=>.inl (.inr (.inl q))) .inr
  ·exact .inl (.inr (.inr d))
theorem ExAt.pushW (h:ExAt B Bg W p ws u vp vw){z:Int}(hg:(W.alloc tmp).grownBy w2 vw.ownBlock)(ho:Own1 B 3 w2 v' (ws.map (Value.int .i64)++[.int .i64 z]))(hat:∀k,v'.ownBlock=some k->vw.ownBlock=some k\/W.heap.size<=k) :
  w2.heap[Bg]?=some (.cells #[vp,vw,.int .i64 u] 86 (0,0))/\ExAt B Bg (w2.setCell ⟨Bg,1,none⟩ v') p (ws++[z]) u vp v'/\FrS (exO Bg vp vw) W (w2.setCell ⟨Bg,1,none⟩ v')/\∀k,exO Bg vp v' k->exO Bg vp vw k\/W.heap.size<=k:=by
 have m:FrS (exO Bg vp vw) W w2:=((FrS.refl _ W).alloc tmp).grown hg (fun k d=>.inl (.inr (.inr d)))
 have t:∀{k:Nat},vw.ownBlock=some k->k≠Bg:=fun d=>by obtain⟨-,-,j,q⟩:=dg h.wid d;exact dn q h.st (by decide)
 have l:∀{k:Nat},vp.ownBlock=some k->k≠Bg/\vw.ownBlock≠some k:=fun d=>by obtain⟨-,-,j,q⟩:=dg h.pth d;refine⟨dn q h.st (by decide),fun e=>?_⟩;obtain⟨-,-,y,A⟩:=dg h.wid e;exact dn q A (by decide) rfl
 have keep:∀k,k<W.heap.size->vw.ownBlock≠some k->w2.heap[k]?=W.heap[k]?:=fun k d hn=>(hg.block k (by simp;omega) (fun e=>hn e.symm)).trans (((wL W).alloc tmp).heap k d);have g:w2.heap[Bg]?=some (.cells #[vp,vw,.int .i64 u] 86 (0,0)):=(keep Bg (cY h.st) (fun e=>t e rfl)).trans h.st
 have r:∀{k:Nat},v'.ownBlock=some k->k≠Bg:=fun d=>by obtain⟨-,-,j,q⟩:=dg ho d;exact dn q g (by decide)
 refine⟨g,⟨cX (i:=1) v' g,?_,?_,h.ge⟩,m.setCell (p:=⟨Bg,1,none⟩) (.inl rfl) _,fun k d=>?_⟩
 ·exact dr h.pth fun k d=>(wk _ _ _ _ (l d).1).trans (keep k (dg h.pth d).2.1 (l d).2)
 ·rw[List.map_append];exact dr ho fun k d=>wk _ _ _ _ (r d)
 ·rcases d with d|d|d
  ·exact .inl (.inl d)
  ·exact .inl (.inr (.inl d))
  ·exact(hat k d).elim (fun q=>.inl (.inr (.inr q))) .inr
end
theorem kI {B Bg:Nat}{w:World}{p ws:List Int}{vp vw:Value}(h:ExAt B Bg w p ws p.length vp vw)(hl:ws.length=p.length)(hp:p.length<=1000000)(n:Int) :
  Calls prog 264 #[.pointer (some ⟨Bg,0,none⟩),.int .i64 n] w fun e w'=>e=.returned (.int .u32 0)/\∃vp' vw',ExAt B Bg w' (p++[0]) (ws++[n]) (p.length+1) vp' vw'/\FrS (exO Bg vp vw) w w'/\∀k,exO Bg vp' vw' k->exO Bg vp vw k\/w.heap.size<=k:=by
 obtain⟨iu,ad,ae,af,ag⟩:=info_parts rz;obtain⟨i0,hi,ah,ai,aj⟩:=info_parts dR;obtain⟨A,c,rfl⟩:=h.pth.form;obtain⟨C,D,rfl⟩:=h.wid.form;rw[vS]at h;rw[vS]at h;rw[vS,vS];have c0:w.cell? ⟨Bg,0,none⟩=some (.slice A p.length c):=vX _ _ 0 _ _ _ h.st;have G:w.cell? ⟨Bg,2,none⟩=some (.int .i64 p.length):=vX _ _ 2 _ _ _ h.st;have HH:=dJ h;have HB:Hid (B<=w.heap.size):=by show _<=_;have:=h.ge;have:=cY h.st;omega
 have HL:=dJ hl;have al:ws.length<=1000000:=by omega
 clear h hl
 go_enter func264, ntmps264
 go_wp2;go_quiet ((fail));obtain⟨X,u⟩:=xJ (w.drewN nq);have g1:Gr w X:=by rw[<-u];exact(wL w).drewN _
 have T:=HH.out.frs (FrS.of_gr (S:=fun _=>False) g1) (fun _ _ q=>q);have H1:=dJ T;have Q:=dJ g1;have d0:X.cell? ⟨Bg,0,none⟩=some (.slice A p.length c):=vX _ _ 0 _ _ _ T.st;have z0:X.frozen? ⟨Bg,0,none⟩=false:=vY _ _ 0 _ _ T.st;rw[u];clear u T g1
 go_wp2_with (first
   | (at_builtin;refine lB (n:=p.length) (v:=.slice A p.length c) underlying26 ad ae af ag rfl (by omega) rfl (.tmp 19) (.tmp 20) rfl (vS _) rfl H1.out.pth rfl rfl (by omega) (by have:=HB.out;have:=Q.out.size;omega) ?_;intro A2 G w2 L J m;
       obtain⟨y,d,z,N⟩:=H1.out.pushP J L m;have am:w2.cell? ⟨Bg,0,none⟩=some (.slice A p.length c):=vX _ _ 0 _ _ _ y;have y0:w2.frozen? ⟨Bg,0,none⟩=false:=vY _ _ 0 _ _ y;
       obtain⟨W3,ab⟩:=xJ (w2.setCell ⟨Bg,0,none⟩ (.slice A2 (p.length+1) G));rw[ab]at d z;have H3:=dJ d;have U:=dJ z;have W:=dJ N;
       have e1:W3.cell? ⟨Bg,1,none⟩=some (.slice C ws.length D):=(vX _ _ 1 _ _ _ d.st);have e2:W3.frozen? ⟨Bg,1,none⟩=false:=(vY _ _ 1 _ _ d.st);clear y d z N L J m)
   | (at_builtin;refine lB (n:=ws.length) (v:=.slice C ws.length D) underlying22 hi ah ai aj rfl (by omega) rfl (.tmp 28) (.tmp 30) rfl (vS _) rfl H3.out.wid rfl rfl (by omega) (by have:=HB.out;have:=Q.out.size;have:=U.out.size;omega) ?_;intro A4 c4 w4 M K r;
       obtain⟨y,d,z,N⟩:=H3.out.pushW K M r;have an:w4.cell? ⟨Bg,1,none⟩=some (.slice C ws.length D):=vX _ _ 1 _ _ _ y;have y1:w4.frozen? ⟨Bg,1,none⟩=false:=vY _ _ 1 _ _ y;
       obtain⟨F,ac⟩:=xJ (w4.setCell ⟨Bg,1,none⟩ (.slice A4 (ws.length+1) c4));rw[ac]at d z;have H5:=dJ d;have F5:=dJ z;have O5:=dJ N;
       have e3:F.cell? ⟨Bg,2,none⟩=some (.int .i64 p.length):=(vX _ _ 2 _ _ _ d.st);have e4:F.frozen? ⟨Bg,2,none⟩=false:=(vY _ _ 2 _ _ d.st);clear y d z N M K r))
 obtain⟨R,g⟩:=xJ (F.setCell ⟨Bg,2,none⟩ (.int .i64 ((p.length:Int)+1)));have t:=H5.out.used (p.length+1);rw[show ((p.length+1:Nat):Int)=(p.length:Int)+1 from rfl,g]at t;have I:FrS (exO Bg (.slice A2 (p.length+1) G) (.slice A4 (ws.length+1) c4)) F R:=by rw[<-g];exact(FrS.refl _ F).setCell (p:=⟨Bg,2,none⟩) (.inl rfl) _
 obtain⟨b,cc,ev,-,-,q1,-,-⟩:=sq t.pth (j:=p.length) (x:=.int .u32 0) (by rw[vH,vK (vV _)];simp);injection ev with Y Z aa;subst Y;have d1:R.cell? ⟨Bg,0,none⟩=some (.slice (some ⟨b,0,none⟩) (p.length+1) G):=vX _ _ 0 _ _ _ t.st;have d2:R.cell? ⟨Bg,2,none⟩=some (.int .i64 ((p.length:Int)+1)):=vX _ _ 2 _ _ _ t.st
 have ak:p.length+1<=G:=by obtain⟨_,_,ee,hh,_⟩:=dU t.pth;injection ee with _ e1 e2;simp at e1;omega
 have E:Hid (∀O,Gr R O->∃vp' vw',ExAt B Bg O (p++[0]) (ws++[n]) (p.length+1) vp' vw'/\FrS (exO Bg (.slice A p.length c) (.slice C ws.length D)) w O/\∀k,exO Bg vp' vw' k->exO Bg (.slice A p.length c) (.slice C ws.length D) k\/w.heap.size<=k):=fun O g9=>by
  have s1:=Q.out.size;have s3:=U.out.size;have s5:=F5.out.size;refine⟨_,_,t.frs (FrS.of_gr (S:=fun _=>False) g9) (fun _ _ q=>q),?_,?_⟩
  ·have H:FrS (fun k=>exO Bg (.slice A p.length c) (.slice C ws.length D) k\/w.heap.size<=k) w O :=
    ((((FrS.of_gr Q.out).trans (U.out.mono fun k l=>.inl l)).trans (F5.out.mono fun k l=>(W.out k l).imp (fun q=>q) (fun q=>by omega))).trans
      (I.mono fun k l=>(O5.out k l).elim (fun q=>(W.out k q).imp (fun q=>q) (fun q=>by omega)) (fun q=>.inr (by omega)))).trans (FrS.of_gr g9)
   exact⟨H.os,H.tape,H.output,H.size,fun k l hn=>H.block k l (fun q=>q.elim hn (fun q=>by omega))⟩
  ·intro k l;rcases O5.out k l with q|q
   ·exact(W.out k q).imp (fun q=>q) (fun q=>by omega)
   ·exact .inr (by omega)
 rw[g];clear g t I Z aa;go_quiet ((fail));all_goals go_wp2
 all_goals go_ret
 all_goals exact⟨rfl,E.out _ ((wL _).drewN _)⟩
end
