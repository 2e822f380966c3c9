/- Parts. -/
import Derived.Test.YtjkajidbdmbbaaaGreatI29
import Derived.Laws.MakeOwn
set_option linter.unusedSimpArgs false
set_option linter.unusedVariables false
set_option maxRecDepth 100000
set_option maxHeartbeats 16000000
open Go.Proofs.Tryz
namespace Go.Proofs.YtjkajidbdmbbaaaGreat
section
open Go.RowKit
theorem gq:∀n i:Nat,i<3*n->(dF (List.replicate n Rn.zero))[i]?=(#[Value.bool false,.int .i64 0,.int .u32 0]:Array Value)[i%3]?
 | 0,i,h=>by omega
 | n+1,0,_=>rfl
 | n+1,1,_=>rfl
 | n+1,2,_=>rfl
 | n+1,i+3,h=>by
  have:=gq n i (by omega)
  rw[List.replicate_succ,dF,sV,sV,sV,this,Nat.add_mod_right]
theorem me:((prog).info? 24).map (fun i=>(i.zero,i.size,i.bytes))=some (some (.agg #[.bool false,.int .i64 0,.int .u32 0]),3,24):=by kernel_rfl
theorem kH (n:Nat):madeCells #[Value.bool false,.int .i64 0,.int .u32 0] (n*3)=(dF (List.replicate n Rn.zero)).toArray:=by
 apply Array.ext_getElem?;intro i;rcases tF i (3*n) with h|h
 ·rw[sY (xs:=dF (List.replicate n Rn.zero)),gq n i h];unfold madeCells;rw[Array.getElem?_map,Array.getElem?_range,tB (by omega)];have d:i%3<3:=Nat.mod_lt _ (by decide);rcases (by omega:i%3=0\/i%3=1\/i%3=2) with e|e|e<;>simp[e]
 ·rw[Array.getElem?_eq_none (by rw[size_madeCells];omega),Array.getElem?_eq_none (by simp[jk];omega)]
theorem fg (w:World)(n:Nat)(hn:n<=1000):(Instr.makeSlice 110 (.int .i64 n) (.int .i64 n)).run prog w=.ok (.slice (some ⟨w.heap.size,0,none⟩) n n) (w.alloc (.cells (dF (List.replicate n Rn.zero)).toArray 24)):=by obtain⟨m,g,j,d,l⟩:=info_parts me;have:=run_makeSlice (P:=prog) (w:=w) 110 24 m _ underlying110 g j .i64 .i64 n n (by omega) (by omega) (by rw[d];omega) (by rw[l];omega) (by omega);rw[this,d];simp only[tc];rw[show (Value.agg #[Value.bool false,Value.int .i64 0,Value.int .u32 0]).cells=#[Value.bool false,.int .i64 0,.int .u32 0] from rfl,kH]
def Kept (c:Cfg)(k:Nat):Prop:=Mut c k\/k=c.Bf\/k=c.Bm
section
variable {c:Cfg}{w w' w'':World}{s s' s'':Rn.St}{b frm b' frm' b'' frm'':Int}{vt vt' vt'':Value}{S:Nat->Prop}
theorem PS.away (h:PS c w s b frm vt)(hS:∀k,S k->c.n₀<=k/\¬Kept c k)(hF:FrS S w w'):PS c w' s b frm vt:=by
 have keep:∀{k:Nat} {o:Obj},w.heap[k]?=some o->Kept c k->w'.heap[k]?=some o:=fun r hK=>(hF.block _ (cX r) (fun q=>(hS _ q).2 hK)).trans r
 exact {
   st:=keep h.st (.inl (.inl rfl))
   vals:=keep h.vals (.inl (.inr (.inl rfl)))
   had:=keep h.had (.inl (.inr (.inr (.inl rfl))))
   hlen:=h.hlen
   mem:=⟨h.mem.1,fun j z u m y A=>by
     obtain⟨g,l,d,p,t⟩:=h.mem.2 j z u m y A
     exact⟨g,l,d,keep p (.inl (.inr (.inr (.inr ⟨j,u,y⟩)))),t⟩⟩
   slots:=⟨h.slots.1,h.slots.2.1,fun B=>by
     obtain⟨g,d,l,p⟩:=h.slots.2.2 B
     exact⟨g,d,keep l (.inr (.inr rfl)),p⟩⟩
   fn:=h.fn.below (hF.below (fun k r=>(hS k r).1) h.n₀)
   first:=by
     obtain⟨g,l,d,p,t⟩:=h.first
     exact⟨g,l,d,keep p (.inr (.inl rfl)),t⟩
   old:=h.old
   apart:=h.apart}
end
structure dW (c:Cfg)(pick:Rn.Pick)(fin:List Int) where
 ty:TypeId
 ptr:Value
 fnum:Nat
 ech:c.ch=.iface ty ptr
 inv:∀w:World,(method 360 ty ptr "backstay/run.choose").run prog w=.ok (fnum,ptr) w
 ent:∀(n:Int)(w:World),(callFunc fnum #[ptr,.int .i64 n]).run prog w=.ok (.enter fnum #[ptr,.int .i64 n]) w
 At:World->List Int->(Nat->Prop)->Prop
 apart:∀{w:World} {ws:List Int} {O:Nat->Prop},At w ws O->∀k,O k->c.n₀<=k/\k<w.heap.size/\¬Kept c k
 keep:∀{w w':World} {ws:List Int} {O S:Nat->Prop},At w ws O->FrS S w w'->(∀k,S k->c.n₀<=k/\¬O k)->At w' ws O
 call:∀{w:World} {ws:List Int} {O:Nat->Prop} (n:Int),At w ws O->Wd.Wid n->(ws++[n]) <+: fin ->
  Calls prog fnum #[ptr,.int .i64 n] w fun e w'=>e=.returned (.int .u32 (pick ws.length n))/\FrS O w w'/\∃O':Nat->Prop,At w' (ws++[n]) O'/\∀k,O' k->O k\/w.heap.size<=k
def Left {c:Cfg}{pick:Rn.Pick}{fin:List Int}(ch:dW c pick fin)(w:World)(O:Nat->Prop)(s':Rn.St)(b' frm':Int)(vt':Value)(w':World):Prop :=
 ∃O':Nat->Prop,PS c w' s' b' frm' vt'/\ch.At w' s'.widths O'/\FrS (fun k=>Mut c k\/O k) w w'/\∀k,O' k->O k\/w.heap.size<=k
section
variable {c:Cfg}{pick:Rn.Pick}{fin:List Int}{ch:dW c pick fin}{w w' w'':World}{s s' s'':Rn.St}{b frm b' frm' b'' frm'':Int}{vt vt' vt'':Value}{O:Nat->Prop}
theorem tW (hA:ch.At w s.widths O)(h:PS c w' s' b' frm' vt')(e:s'.widths=s.widths)(hF:FrS (Mut c) w w')(hm:∀k,Mut c k->c.n₀<=k):Left ch w O s' b' frm' vt' w' :=
 ⟨O,h,by rw[e];exact ch.keep hA hF (fun k d=>⟨hm k d,fun q=>(ch.apart hA k q).2.2 (.inl d)⟩),hF.mono (fun k d=>.inl d),fun k d=>.inl d⟩
theorem Left.of_gr (hA:ch.At w s.widths O)(h:PS c w s b frm vt)(g:Gr w w'):Left ch w O s b frm vt w' :=
 tW hA (h.gr g) rfl (FrS.of_gr g) (fun k d=>h.mut d)
theorem Left.chosen {n:Int}(hA:ch.At w s.widths O)(h:PS c w s b frm vt)(hF:FrS O w w'){O':Nat->Prop}(hA':ch.At w' (s.widths++[n]) O')(hO:∀k,O' k->O k\/w.heap.size<=k):Left ch w O (s.chose n) b frm vt w':=by have d:PS c w' s b frm vt:=h.away (fun k g=>⟨(ch.apart hA k g).1,(ch.apart hA k g).2.2⟩) hF;exact⟨O',⟨d.st,d.vals,d.had,d.hlen,d.mem,d.slots,d.fn,d.first,d.old,d.apart⟩,hA',hF.mono (fun k g=>.inr g),hO⟩
theorem Left.block (h:Left ch w O s' b' frm' vt' w'){r:Nat}(hr:r<w.heap.size)(h1:¬Mut c r)(h2:¬O r):w'.heap[r]?=w.heap[r]?:=by obtain⟨g,-,-,d,-⟩:=h;exact d.block r hr (fun q=>q.elim h1 h2)
theorem dH (hF:FrS (fun k=>Mut c k\/O k) w w'){O':Nat->Prop}(hO:∀k,O' k->O k\/w.heap.size<=k)(h:Left ch w' O' s'' b'' frm'' vt'' w''):Left ch w O s'' b'' frm'' vt'' w'':=by
 obtain⟨d,p,a,f,o⟩:=h;refine⟨d,p,a,⟨f.os.trans hF.os,f.tape.trans hF.tape,f.output.trans hF.output,Nat.le_trans hF.size f.size,fun k g j=>?_⟩,fun k g=>?_⟩
 ·refine(f.block k (by have:=hF.size;omega) fun q=>q.elim (fun q=>j (.inl q)) fun q=>?_).trans (hF.block k g j);rcases hO k q with q|q
  ·exact j (.inr q)
  ·omega
 ·rcases o k g with q|q
  ·exact hO k q
  ·exact .inr (by have:=hF.size;omega)
theorem Left.gr (h:Left ch w O s' b' frm' vt' w')(g:Gr w' w''):Left ch w O s' b' frm' vt' w'':=by obtain⟨d,p,a,f,o⟩:=h;exact dH f o (Left.of_gr a p g)
end
end
