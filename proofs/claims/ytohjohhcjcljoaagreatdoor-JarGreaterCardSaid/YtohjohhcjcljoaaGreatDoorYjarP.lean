/- A jar's Find, Drop, Count and Put, and the document's. -/
import Derived.Test.YtohjohhcjcljoaaGreatDoorPrint7
import Derived.Test.YtohjohhcjcljoaaGreatDoorYB
namespace Go.Proofs.YtohjohhcjcljoaaGreatDoor.Y
open RowKit Print Ak BR BS
set_option linter.unusedVariables false
set_option linter.unusedSimpArgs false
theorem O7 {m:List SC} (a:E9) (h:Ct WG kC m) (hb:m.length<=1000):Cv.f (m.map Dx) a.f0 a.f1 a.f2=some (match look kC m a with|some x=>(x.f0,x.f1,x.f2,x.f3,x.f4,x.f5,x.f6,x.f7,x.f8,x.f9,x.f10,true)|none=>(⟨#[]⟩,⟨#[]⟩,⟨#[]⟩,⟨#[]⟩,0,0,0,false,false,false,0,false)):=by
 unfold Cv.f;rw [VM a (KD h) (by rw [List.length_map];exact hb),Rl];cases look kC m a<;>rfl
theorem Rp {m:List SC} (a:E9) (h:Ct WG kC m) (hb:m.length<=1000):Ev (λk=>EE.f k (m.map Dx) a.f0 a.f1 a.f2) ((IG WG kC a m).map Dx, !(atR WG kC a m).isEmpty):=by
 unfold EE.f;refine Az (TV a (KD h) (by rw [List.length_map];exact hb)) (Ba (Ay _) ?_);rw [TK,Ud,List.isEmpty_map]
theorem TM {m:List SC} (d:ByteArray) (hb:m.length<=10000):Ei.f (m.map Dx) d=some (KC d m:Int):=by
 unfold Ei.f WI KC;rw [if_pos (by rw [List.length_map];omega),List.filter_map,List.length_map];rfl
theorem TN {m:List SC} (a:E9):(!(atR WG kC a m).isEmpty)=(look kC m a).isSome:=by
 rw [Bool.eq_iff_iff];cases h:look kC m a with
 |none=>
  have h0:atR WG kC a m=[]:=List.eq_nil_iff_forall_not_mem.2 λx hx=>Ej.1 h x (Iz.1 hx).1 (Iz.1 hx).2
  rw [h0];simp
 |some x=>
  have hx:x∈atR WG kC a m:=by
   unfold look at h;exact Iz.2 ⟨List.mem_of_find?_eq_some h,by simpa using List.find?_some h⟩
  cases h2:atR WG kC a m with
  |nil=>rw [h2] at hx;exact absurd hx List.not_mem_nil
  |cons y l=>simp
theorem Mx (a:E9):∀ m:List SC,(look kC m a=none->O8 a m= -1)/\∀ x,look kC m a=some x->∃ (i:Nat) (h:i<m.length),O8 a m=(i:Int)/\m[i]=x
 |[]=>⟨λ_=>rfl,λx h=>by simp [look] at h⟩
 |y::m=>by
  obtain ⟨h1,h2⟩:=Mx a m;by_cases e:kC y=a
  ·refine ⟨λh=>absurd e (Ej.1 h y List.mem_cons_self),λx h=>⟨0,by simp,?_,?_⟩⟩
   ·unfold O8;rw [List.findIdx?_cons,if_pos (decide_eq_true e)]
   ·unfold look at h;rw [List.find?_cons_of_pos (by simpa using e)] at h;exact Option.some.inj h
  ·have hl:look kC (y::m) a=look kC m a:=by
    unfold look;rw [List.find?_cons_of_neg (by simpa using e)]
   have hi:O8 a (y::m)=match m.findIdx? λx=>decide (kC x=a) with|some i=>((i+1:Nat):Int)|none=> -1:=by
    unfold O8;rw [List.findIdx?_cons,if_neg (by simpa using e)];cases m.findIdx? λx=>decide (kC x=a)<;>rfl
   rw [hl,hi];unfold O8 at h1 h2;cases h3:m.findIdx? λx=>decide (kC x=a) with
   |none=>
    rw [h3] at h1 h2;refine ⟨λ_=>rfl,λx h=>?_⟩;obtain ⟨i,_,h4,_⟩:=h2 x h;exact absurd (show (-1:Int)=(i:Int) from h4) (by omega)
   |some q=>
    rw [h3] at h1 h2;refine ⟨λh=>absurd (show ((q:Nat):Int)= -1 from h1 h) (by omega),λx h=>?_⟩;obtain ⟨i,hlt,h4,h5⟩:=h2 x h;have h6:((q:Nat):Int)=(i:Int):=h4;refine ⟨i+1,by simp;omega,?_,by simpa using h5⟩;show ((q+1:Nat):Int)=((i+1:Nat):Int);omega
def I1 (m:List SC) (c:SC):List SC×Int:=if Fy c=true then (if Gi (Gg c m)=true then ([],152) else (Gg c m,0)) else ([],150)
theorem Qe {m:List SC} {c:SC} (hj:LW m) (hb:m.length<=100) (hf:Gn c):Ev (λk=>DF.f k (m.map Dx) c.f0 c.f1 c.f2 c.f3 c.f4 c.f5 c.f6 c.f7 c.f8 c.f9 c.f10) ((I1 m c).1.map Dx,(I1 m c).2):=by
 unfold DF.f I1;simp only [CQ.Da.f,Option.bind_some];refine Az (OL (by have:=hf.1;omega) (by have:=hf.2.1;omega) (by have:=hf.2.2.1;omega) (by have:=hf.2.2.2;omega)) ?_;by_cases h:Fy c=true
 ·rw [if_pos h];refine AZ h (Az (Pv c hj.rises (by omega)) ?_);have:=IE c hj.rises;simp only [O6 (show Ct WG kC (Gg c m) from E5 hj.rises rfl) (by omega),Option.bind_some];by_cases h2:Gi (Gg c m)=true
  ·simp only [if_pos h2];exact Ba (Ay _) rfl
  ·simp only [if_neg h2];exact Ba (Ay _) rfl
 ·rw [if_neg h];exact Aq h (Ay _)
theorem Rq {m:List SC} {c:SC} (hj:LW m) (hb:m.length<=100) (hf:Gn c) (hm:∀ x∈m,Gn x):Ev (λk=>D5.f k m c.f0 c.f1 c.f2 c.f3 c.f4 c.f5 c.f6 c.f7 c.f8 c.f9 c.f10) (I1 m c):=by
 unfold D5.f I1;refine Az (Jm (by have:=hf.1;omega) (by have:=hf.2.1;omega) (by have:=hf.2.2.1;omega) (by have:=hf.2.2.2;omega)) ?_;by_cases h:Fy c=true
 ·rw [if_pos h];refine AZ h (Az (WX c hj.rises (by omega) hf.sm (λx hx=>(hm x hx).sm)) ?_);have:=IE c hj.rises;refine Az (LV (by have:(Gg c m).length<=1000:=(by omega);exact this)) ?_;by_cases h2:Gi (Gg c m)=true
  ·simp only [if_pos h2];exact Ay _
  ·simp only [if_neg h2];exact Ay _
 ·rw [if_neg h];exact Aq h (Ay _)
theorem Rs {m:List SC} {c:SC} (hj:LW m) (h:(I1 m c).2=0):(I1 m c).1=Gg c m/\LW (Gg c m):=by
 unfold I1 at h⊢
 by_cases h1:Fy c=true
 ·rw [if_pos h1] at h⊢
  by_cases h2:Gi (Gg c m)=true
  ·rw [if_pos h2] at h;exact absurd h (by decide)
  ·rw [if_neg h2];exact ⟨rfl,E5 hj.rises rfl,λx hx=>(Jj hx).elim (λe=>e▸h1) (hj.right x),by simpa using h2⟩
 ·rw [if_neg h1] at h;exact absurd h (by decide)
theorem Rt {m:List SC} (c:SC) (hj:LW m):(I1 m c).1.length<=m.length+1:=by
 unfold I1;split
 ·split
  ·simp
  ·exact IE c hj.rises
 ·simp
theorem Ru {m:List SC} (c:SC) (hj:Ct WG kC m):look kC (Gg c m) (kC c)=some c:=by
 rw [Jo hj rfl,if_pos rfl]
end Go.Proofs.YtohjohhcjcljoaaGreatDoor.Y
