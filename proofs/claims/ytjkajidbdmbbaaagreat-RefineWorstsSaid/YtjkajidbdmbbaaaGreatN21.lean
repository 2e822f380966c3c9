import Derived.Test.YtjkajidbdmbbaaaGreatN20
import Derived.Laws.EntriesVeiled
set_option linter.unusedSimpArgs false
set_option linter.unusedVariables false
set_option maxRecDepth 100000
set_option maxHeartbeats 16000000
open Go.Proofs.Tryz
namespace Go.Proofs.YtjkajidbdmbbaaaGreat
open Ref Rn Wd Ir Rf
section
open Go.RowKit
theorem mh (w:World)(c d:Array Value)(t u:TypeId):((w.alloc (.cells c t)).alloc (.cells d u)).heap[w.heap.size+1]?=some (.cells d u (0,0)):=by
 show ((w.heap.push (.cells c t)).push (.cells d u))[w.heap.size+1]?=_;have e:w.heap.size+1=(w.heap.push (.cells c t)).size:=by simp
 rw[e,Array.getElem?_push,yr rfl]
theorem kQ (w:World)(c d:Obj):((w.alloc c).alloc d).heap.size=w.heap.size+2:=by show ((w.heap.push c).push d).size=_;simp
theorem ov (w:World)(v:Value)(t:TypeId)(d:Obj):((w.alloc (.cells #[v] t)).alloc d).cell? ⟨w.heap.size,0,none⟩=some v:=by rw[World.cell?_alloc_past _ _ _ (by show _<(w.heap.push _).size;simp),World.cell?_alloc_at _ _ _ _ rfl];rfl
def fnV (g:Nat):Value:=.func (.func g) #[] #[]
theorem kg (fn:Func)(tmps:Array Value)(t:Nat)(w:World)(B:Nat)(f0 f1 f2:Value)(fr:Nat × Nat)(h:fn.results=#[.cell t 225])(ht:tmps[t]?.getD undef=.pointer (some ⟨B,0,none⟩))(hb:w.heap[B]?=some (.cells #[f0,f1,f2] 225 fr))
  (o0:f0=.nilFunc\/∃g a b,f0=.func g a b) (o1:f1=.nilFunc\/∃g a b,f1=.func g a b) (o2:f2=.nilFunc\/∃g a b,f2=.func g a b) :
  (results fn tmps).run prog w=.ok (.agg #[f0,f1,f2]) w:=by
 obtain⟨d,j,l⟩:=crw3 hb 0 1 2
 rcases o0 with rfl|⟨y,a0,q,rfl⟩<;>rcases o1 with rfl|⟨z,m,r,rfl⟩<;>rcases o2 with rfl|⟨A,p,u,rfl⟩ <;>
  simp[results,h,ht,go_sem,d,j,l]
theorem oM (F G:Nat)(w:World):Calls prog 219 #[fnV F,fnV G] w fun e w'=>Gr w w'/\e=.returned (.agg #[.func (.func 246) #[] #[.pointer (some ⟨w.heap.size,0,none⟩)],fnV F,.nilFunc])/\w'.cell? ⟨w.heap.size,0,none⟩=some (fnV G)/\w'.heap.size=w.heap.size+2:=by
 unfold fnV
 go_enter func219, ntmps219
 go_wp2;refine yq (kg _ _ 4 _ (w.heap.size+1) _ _ _ (0,0) rfl rfl (mh _ _ _ _ _) (Or.inr ⟨_,_,_,rfl⟩) (Or.inr ⟨_,_,_,rfl⟩) (Or.inl rfl)) rfl ?_;exact⟨((yO _).alloc _).alloc _,rfl,ov _ _ _ _,kQ _ _ _⟩
theorem oL (G:Nat)(w:World):Calls prog 234 #[fnV G] w fun e w'=>Gr w w'/\e=.returned (.agg #[.func (.func 247) #[] #[.pointer (some ⟨w.heap.size,0,none⟩)],.nilFunc,.nilFunc])/\w'.cell? ⟨w.heap.size,0,none⟩=some (fnV G)/\w'.heap.size=w.heap.size+2:=by
 unfold fnV
 go_enter func234, ntmps234
 go_wp2;refine yq (kg _ _ 2 _ (w.heap.size+1) _ _ _ (0,0) rfl rfl (mh _ _ _ _ _) (Or.inr ⟨_,_,_,rfl⟩) (Or.inl rfl) (Or.inl rfl)) rfl ?_;exact⟨((yO _).alloc _).alloc _,rfl,ov _ _ _ _,kQ _ _ _⟩
theorem gj (G:Nat)(eg:∀args w,(callFunc G args).run prog w=.ok (.enter G args) w)(n a b z:Int)(B:Nat)(w:World)(hn:zi n)(hc:w.cell? ⟨B,0,none⟩=some (fnV G))
  (hG:Hid (∀w1,Calls prog G #[.int .u32 a,.int .u32 b] w1 (RS (.int .u32 z) w1))) :
  Calls prog 246 #[.int .i64 n,.int .u32 a,.int .u32 b,.pointer (some ⟨B,0,none⟩)] w (RS (.tuple #[.int .u32 (bits .and .u32 z (m9 n-1)),.bool true]) w):=by
 have d:=dJ fun w1=>dG n w1 hn;unfold fnV at hc;obtain⟨s,g⟩:=xJ (m9 n-1);rw[g]at d ⊢;clear hn g
 go_enter func246, ntmps246
 go_wp2_with (first|(go_at_fn G;(with_reducible refine(hG.out _).mono ?_);rintro e w1 ⟨rfl,rfl⟩)|(go_at_call 147;refine(d.out _).mono ?_;rintro e w1 ⟨rfl,rfl⟩))
 go_ret2;exact⟨rfl,rfl⟩
theorem gi (G:Nat)(eg:∀args w,(callFunc G args).run prog w=.ok (.enter G args) w)(n a b z:Int)(B:Nat)(w:World)(hc:w.cell? ⟨B,0,none⟩=some (fnV G))
  (hG:Hid (∀w1,Calls prog G #[.int .u32 a,.int .u32 b] w1 (RS (.int .u32 z) w1))) :
  Calls prog 247 #[.int .i64 n,.int .u32 a,.int .u32 b,.pointer (some ⟨B,0,none⟩)] w (RS (.tuple #[.int .u32 z,.bool true]) w):=by
 unfold fnV at hc
 go_enter func247, ntmps247
 go_wp2_with (go_at_fn G;(with_reducible refine(hG.out _).mono ?_);rintro e w1 ⟨rfl,rfl⟩);go_ret2;exact⟨rfl,rfl⟩
section
variable (a b:Int)(w:World)
theorem vK:Calls prog 221 #[.int .u32 a,.int .u32 b] w (RS (.int .u32 ((a+b)%4294967296)) w):=by
 go_enter func221, ntmps221
 go_wp2;go_ret;exact⟨jk (fu _),rfl⟩
theorem vL:Calls prog 223 #[.int .u32 a,.int .u32 b] w (RS (.int .u32 ((a-b)%4294967296)) w):=by
 go_enter func223, ntmps223
 go_wp2;go_ret;exact⟨jk (fu _),rfl⟩
theorem vM:Calls prog 226 #[.int .u32 a,.int .u32 b] w (RS (.int .u32 ((a*b)%4294967296)) w):=by
 go_enter func226, ntmps226
 go_wp2;go_ret;exact⟨jk (fu _),rfl⟩
theorem tT:Calls prog 235 #[.int .u32 a,.int .u32 b] w (RS (.int .u32 (bits .and .u32 a b)) w):=by
 go_enter func235, ntmps235
 go_wp2;go_ret;exact⟨rfl,rfl⟩
theorem tU:Calls prog 236 #[.int .u32 a,.int .u32 b] w (RS (.int .u32 (bits .or .u32 a b)) w):=by
 go_enter func236, ntmps236
 go_wp2;go_ret;exact⟨rfl,rfl⟩
theorem tV:Calls prog 237 #[.int .u32 a,.int .u32 b] w (RS (.int .u32 (bits .xor .u32 a b)) w):=by
 go_enter func237, ntmps237
 go_wp2;go_ret;exact⟨rfl,rfl⟩
end
theorem vO (n a b:Int)(w:World)(hn:zi n)(ha:0<=a/\a<4294967296)(hb:0<=b/\b<4294967296):Calls prog 227 #[.int .i64 n,.int .u32 a,.int .u32 b] w (RS (.tuple #[.int .u32 (if b=0 then m9 n-1 else a / b),.bool (decide (b≠0))]) w):=by
 have j:=dJ fun m=>dG n m hn;obtain⟨s,l⟩:=xJ (m9 n-1);rw[l]at j ⊢;clear hn l;obtain⟨g,r⟩:=ha;obtain⟨p,t⟩:=hb;by_cases d:b=0
 ·subst d
  go_enter func227, ntmps227
  go_wp2_with (go_at_call 147;refine(j.out _).mono ?_;rintro e m ⟨rfl,rfl⟩);go_ret2;exact⟨rfl,rfl⟩
 ·have q:=dJ d;have u:(b == 0)=false:=by simpa using d
  have y:0<=a / b:=yH g p;have z:a / b<=a:=Int.ediv_le_self b g;clear d
  go_enter func227, ntmps227
  go_wp2_with (fail);go_ret2;have e:a.tdiv b%4294967296=a / b:=by rw[Int.tdiv_eq_ediv_of_nonneg g];omega
  exact⟨by show Ending.returned (.tuple #[.int .u32 (a.tdiv b%4294967296),.bool true])=_;rw[e],rfl⟩
theorem vQ (n a b:Int)(w:World)(ha:0<=a/\a<4294967296)(hb:0<=b/\b<4294967296):Calls prog 229 #[.int .i64 n,.int .u32 a,.int .u32 b] w (RS (.tuple #[.int .u32 (if b=0 then a else a%b),.bool (decide (b≠0))]) w):=by
 obtain⟨j,l⟩:=ha;obtain⟨m,p⟩:=hb;by_cases d:b=0
 ·subst d
  go_enter func229, ntmps229
  go_wp2_with (fail);go_ret2;exact⟨rfl,rfl⟩
 ·have g:=dJ d;have q:(b == 0)=false:=by simpa using d
  have r:0<=a%b:=Int.emod_nonneg _ d;have t:a%b<b:=Int.emod_lt_of_pos _ (by omega);clear d
  go_enter func229, ntmps229
  go_wp2_with (fail);go_ret2;exact⟨rfl,rfl⟩
theorem qC (n a:Int)(w:World)(hn:zi n)(ha:yX n a):Calls prog 243 #[.int .i64 n,.int .u32 a] w (RS (.int .u32 (if zU n a<0 then m9 n-1 else 0)) w):=by
 have g:=dJ fun d=>dG n d hn;have CS:=dJ fun d=>dA n a d hn ha;obtain⟨s,j⟩:=xJ (m9 n-1);obtain⟨x,l⟩:=xJ (zU n a);rw[j]at g ⊢;rw[l]at CS ⊢;clear hn ha j l;by_cases h:x<0
 ·rw[yr h]
  go_enter func243, ntmps243
  go_wp2_with (first|(go_at_call 208;refine(CS.out _).mono ?_;rintro e d ⟨rfl,rfl⟩)|(go_at_call 147;refine(g.out _).mono ?_;rintro e d ⟨rfl,rfl⟩))
  go_ret;exact⟨rfl,rfl⟩
 ·rw[yt h]
  go_enter func243, ntmps243
  go_wp2_with (first|(go_at_call 208;refine(CS.out _).mono ?_;rintro e d ⟨rfl,rfl⟩))
  go_ret;exact⟨rfl,rfl⟩
theorem vH (n a b:Int)(w:World)(ha:0<=a/\a<4294967296)(hb:0<=b)(hbn:b<n)(hn:n<=32):Calls prog 240 #[.int .i64 n,.int .u32 a,.int .u32 b] w (RS (.tuple #[.int .u32 (a / 2 ^ b.toNat),.bool true]) w):=by
 obtain⟨d,g⟩:=ha;rcases (by omega:b=0\/b=1\/b=2\/b=3\/b=4\/b=5\/b=6\/b=7\/b=8\/b=9\/b=10\/b=11\/b=12\/b=13\/b=14\/b=15\/b=16\/b=17\/b=18\/b=19\/b=20\/b=21\/b=22\/b=23\/b=24\/b=25\/b=26\/b=27\/b=28\/b=29\/b=30\/b=31) with rfl|rfl|rfl|rfl|rfl|rfl|rfl|rfl|rfl|rfl|rfl|rfl|rfl|rfl|rfl|rfl|rfl|rfl|rfl|rfl|rfl|rfl|rfl|rfl|rfl|rfl|rfl|rfl|rfl|rfl|rfl|rfl
 all_goals
  go_enter func240, ntmps240
  go_wp2_with (fail);go_ret2;exact⟨by simp,rfl⟩
theorem tX (n a b:Int)(w:World)(hb:0<=b/\b<4294967296)(hbn:n<=b):Calls prog 240 #[.int .i64 n,.int .u32 a,.int .u32 b] w (RS (.tuple #[.int .u32 0,.bool false]) w):=by
 obtain⟨d,g⟩:=hb
 go_enter func240, ntmps240
 go_wp2_with (fail);go_ret2;exact⟨rfl,rfl⟩
theorem vG (n a b:Int)(w:World)(ha:0<=a/\a<4294967296)(hb:0<=b)(hbn:b<n)(hn:zi n):Calls prog 238 #[.int .i64 n,.int .u32 a,.int .u32 b] w (RS (.tuple #[.int .u32 (a*2 ^ b.toNat%m9 n),.bool true]) w):=by
 have g:=dJ fun m=>dG n m hn;have d:=dJ (EH (a*2 ^ b.toNat) hn);obtain⟨r,t⟩:=id hn;obtain⟨p,q⟩:=ha;obtain⟨s,j⟩:=xJ (m9 n-1);rw[j]at g d;obtain⟨z,l⟩:=xJ (a*2 ^ b.toNat%m9 n);rw[l]at d ⊢;clear hn j l;rcases (by omega:b=0\/b=1\/b=2\/b=3\/b=4\/b=5\/b=6\/b=7\/b=8\/b=9\/b=10\/b=11\/b=12\/b=13\/b=14\/b=15\/b=16\/b=17\/b=18\/b=19\/b=20\/b=21\/b=22\/b=23\/b=24\/b=25\/b=26\/b=27\/b=28\/b=29\/b=30\/b=31) with rfl|rfl|rfl|rfl|rfl|rfl|rfl|rfl|rfl|rfl|rfl|rfl|rfl|rfl|rfl|rfl|rfl|rfl|rfl|rfl|rfl|rfl|rfl|rfl|rfl|rfl|rfl|rfl|rfl|rfl|rfl|rfl
 all_goals
  go_enter func238, ntmps238
  go_wp2_with (go_at_call 147;refine(g.out _).mono ?_;rintro e m ⟨rfl,rfl⟩);go_ret2;refine⟨?_,rfl⟩;rw[<-d.out];simp<;>rw[Int.emod_eq_of_lt p q]
theorem tW (n a b:Int)(w:World)(hb:0<=b/\b<4294967296)(hbn:n<=b):Calls prog 238 #[.int .i64 n,.int .u32 a,.int .u32 b] w (RS (.tuple #[.int .u32 0,.bool false]) w):=by
 obtain⟨d,g⟩:=hb
 go_enter func238, ntmps238
 go_wp2_with (fail);go_ret2;exact⟨rfl,rfl⟩
end
