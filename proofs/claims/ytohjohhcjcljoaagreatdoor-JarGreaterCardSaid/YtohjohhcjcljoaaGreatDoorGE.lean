/- Several parts of the claim's proof in one text, said short by a program of this session. No condition. -/
import Derived.Test.YtohjohhcjcljoaaGreatDoorGcmp
section
namespace Go.Proofs.YtohjohhcjcljoaaGreatDoor.Print
open RowKit Ak BR BS
set_option linter.unusedVariables false
section
variable {P:Program} {ops:Array Oper} {Q:Exit->Act->World->Prop}
theorem UG {oi:Oper} {N:Option Tmp} {a:Act} {w:World} {K:Act->World->Prop} {f:FuncId} {x:Operand} {as_:Array Operand} {ts:Array TypeId} (hE:∃ fn,P.funcs[f]? =some fn/\(fn.name== "runtime.NumGoroutine")=false/\fn.body.isSome=true) (args:Array Value)
 (hw:Region.wanted oi (yielded ops a.tmps)=true) (hN:oi.dst=N) (hop:oi.op= .call {callee:= .value x,args:=as_,argTypes:=ts}) (hargs:as_.map a.eval=args)
 (h:Calls P f args w λe w'=>∃ v,e= .returned v/\K (a.put N v) w') (hx:a.eval x= .func (.func f) #[] #[]:=by rfl):if Region.wanted oi (yielded ops a.tmps)=true then Oper.wp P oi a w K Q else K (a.put N undef) w:=by
 obtain ⟨fn,hf,hname,hb⟩:=hE;refine call_ f args hw hN ?_ h;have he:=Fg hf hname hb args w;unfold execOp;simp [hop,resolve,Deferred.ofValue,invoke,hargs,he,hx]
theorem Od {oi:Oper} {N:Option Tmp} {a:Act} {w:World} {K:Act->World->Prop} {f:FuncId} {fn:Func} {x:Operand} {name:String} {t:TypeId} {v:Value} {as_:Array Operand} {ts:Array TypeId} (hf:P.funcs[f]? =some fn) (hname:(fn.name== "runtime.NumGoroutine")=false) (hb:fn.body.isSome=true) (args:Array Value)
 (hw:Region.wanted oi (yielded ops a.tmps)=true) (hN:oi.dst=N) (hop:oi.op= .call {callee:= .invoke x name,args:=as_,argTypes:=ts}) (hargs:#[v]++as_.map a.eval=args)
 (h:Calls P f args w λe w'=>∃ v,e= .returned v/\K (a.put N v) w') (hx:a.eval x= .iface t v:=by rfl) (hm:∀ w,(Go.method (P.types.size+Made.depth) t v name).run P w= .ok (f,v) w:=by intro _;kernel_rfl):if Region.wanted oi (yielded ops a.tmps)=true then Oper.wp P oi a w K Q else K (a.put N undef) w:=by
 refine call_ f args hw hN ?_ h;have he:=Fg hf hname hb args w;subst hargs;have hm':(Go.method (P.types.size+100) t v name).run P w= .ok (f,v) w:=hm w;have e1:∀ d:Deferred,d={target:= .fn (.method name) #[],args:=#[.iface t v]++as_.map a.eval}->(invoke d.target d.args).run P w= .ok (.enter f (#[v]++as_.map a.eval)) w:=by
  rintro d rfl;revert he;generalize as_.map a.eval=ar;intro he;obtain ⟨l⟩:=ar;simp [invoke,callMethod,hm',go_sem] at he⊢
  exact he
 have e2:(execOp a.eval oi).run P w=(invoke (.fn (.method name) #[]) (#[.iface t v]++as_.map a.eval)).run P w:=by
  unfold execOp;rw [hop, <-hx];simp [resolve]
 rw [e2];exact e1 _ rfl
end
theorem IQ:∃ fn,Tryz.prog.funcs[46]? =some fn/\(fn.name== "runtime.NumGoroutine")=false/\fn.body.isSome=true:=⟨Tryz.f46,Tryz.func46,by kernel_rfl,rfl⟩
end Go.Proofs.YtohjohhcjcljoaaGreatDoor.Print
end
