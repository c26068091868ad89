/- Orders: numbers, texts, keys and cookies, by plain functions, and what makes them orders. No condition. -/
import Derived.Test.YtohjohhcjcljoaaGreatDoorGcmp
namespace Go.Proofs.YtohjohhcjcljoaaGreatDoor.Y
set_option linter.unusedVariables false
set_option linter.unusedSimpArgs false
open RowKit Print Ak BR BS
structure Rank {α:Type} (f:α->α->Int):Prop where
 val:∀ a b,f a b= -1\/f a b=0\/f a b=1
 anti:∀ a b,f b a= - f a b
 same:∀ a b,f a b=0↔a=b
 trans:∀ a b c,f a b<=0->f b c<=0->f a c<=0
theorem Et:Rank Eu:=by
 constructor
 ·intro a b;unfold Eu;repeat (first|omega|split)
 ·intro a b;unfold Eu;repeat (first|omega|split)
 ·intro a b;unfold Eu;repeat (first|omega|split)
 ·intro a b c;unfold Eu;repeat (first|omega|split)
def H5 {α β:Type} (f:α->α->Int) (g:β->β->Int) (x y:α×β):Int:=if f x.1 y.1=0 then g x.2 y.2 else f x.1 y.1
theorem Fe {α β:Type} {f:α->α->Int} {g:β->β->Int} (hf:Rank f) (hg:Rank g):Rank (H5 f g):=by
 constructor
 ·intro a b;unfold H5;split
  ·exact hg.val _ _
  ·exact hf.val _ _
 ·intro a b;unfold H5;rw [hf.anti a.1 b.1];by_cases h:f a.1 b.1=0
  ·rw [if_pos (by omega),if_pos h,hg.anti]
  ·rw [if_neg (by omega),if_neg h]
 ·intro a b;unfold H5;by_cases h:f a.1 b.1=0
  ·rw [if_pos h,hg.same,Prod.ext_iff,(hf.same _ _).mp h];simp
  ·rw [if_neg h];refine ⟨λe=>absurd e h,λe=>?_⟩;rw [e];exact (hf.same _ _).mpr rfl
 ·intro a b c;unfold H5;by_cases h:f a.1 b.1=0
  ·rw [if_pos h,(hf.same _ _).mp h];by_cases h':f b.1 c.1=0
   ·rw [if_pos h',if_pos h'];exact hg.trans _ _ _
   ·rw [if_neg h',if_neg h'];exact λ_ e=>e
  ·rw [if_neg h];by_cases h':f b.1 c.1=0
   ·rw [if_pos h', <-(hf.same _ _).mp h',if_neg h];exact λe _=>e
   ·rw [if_neg h'];intro e e';by_cases h2:f a.1 c.1=0
    ·have:=hf.anti a.1 b.1;have e2:=(hf.same _ _).mp h2;rw [<-e2] at e' h';omega
    ·rw [if_neg h2];exact hf.trans _ _ _ e e'
theorem Jk {α β:Type} {f:α->α->Int} (hf:Rank f) (u:β->α) (hu:∀ a b,u a=u b->a=b):Rank λx y=>f (u x) (u y):=
 ⟨λa b=>hf.val _ _,λa b=>hf.anti _ _,λa b=>(hf.same _ _).trans ⟨hu a b,λe=>by rw [e]⟩,λa b c=>hf.trans _ _ _⟩
def M4:List Int->List Int->Bool
 |_,[]=>false
 |[],_::_=>true
 |a::x,b::y=>decide (a<b)||(decide (a=b)&&M4 x y)
def cmpL:List Int->List Int->Int
 |[],[]=>0
 |[],_::_=> -1
 |_::_,[]=>1
 |a::x,b::y=>if Eu a b=0 then cmpL x y else Eu a b
theorem Qf:Rank cmpL:=by
 constructor
 ·intro a;induction a with
  |nil=>intro b;cases b<;>simp [cmpL]
  |cons x a ih=>intro b;cases b with
   |nil=>simp [cmpL]
   |cons y b=>
    simp only [cmpL];split
    ·exact ih b
    ·exact Et.val _ _
 ·intro a;induction a with
  |nil=>intro b;cases b<;>simp [cmpL]
  |cons x a ih=>intro b;cases b with
   |nil=>simp [cmpL]
   |cons y b=>
    simp only [cmpL];rw [Et.anti x y];by_cases h:Eu x y=0
    ·rw [if_pos (by omega),if_pos h,ih]
    ·rw [if_neg (by omega),if_neg h]
 ·intro a;induction a with
  |nil=>intro b;cases b<;>simp [cmpL]
  |cons x a ih=>intro b;cases b with
   |nil=>simp [cmpL]
   |cons y b=>
    simp only [cmpL];by_cases h:Eu x y=0
    ·rw [if_pos h,ih,(Et.same _ _).mp h];simp
    ·rw [if_neg h];refine ⟨λe=>absurd e h,λe=>?_⟩;cases e;exact absurd ((Et.same _ _).mpr rfl) h
 ·intro a;induction a with
  |nil=>intro b c;cases b<;>cases c<;>simp [cmpL]
  |cons x a ih=>intro b c;cases b with
   |nil=>simp [cmpL]
   |cons y b=>cases c with
    |nil=>simp [cmpL]
    |cons z c=>
     simp only [cmpL];by_cases h:Eu x y=0
     ·rw [if_pos h,(Et.same _ _).mp h];by_cases h':Eu y z=0
      ·rw [if_pos h',if_pos h'];exact ih b c
      ·rw [if_neg h',if_neg h'];exact λ_ e=>e
     ·rw [if_neg h];by_cases h':Eu y z=0
      ·rw [if_pos h', <-(Et.same _ _).mp h',if_neg h];exact λe _=>e
      ·rw [if_neg h'];intro e e';by_cases h2:Eu x z=0
       ·have:=Et.anti x y;have e2:=(Et.same _ _).mp h2;rw [<-e2] at e' h';omega
       ·rw [if_neg h2];exact Et.trans _ _ _ e e'
theorem Rx (a b:List Int):cmpL a b=if M4 a b=true then -1 else if M4 b a=true then 1 else 0:=by
 induction a generalizing b with
 |nil=>cases b<;>simp [cmpL,M4]
 |cons x a ih=>cases b with
  |nil=>simp [cmpL,M4]
  |cons y b=>
   simp only [cmpL,M4,ih,Bool.or_eq_true,Bool.and_eq_true,decide_eq_true_iff];unfold Eu;rcases Int.lt_trichotomy x y with h|h|h
   ·have h2:¬y<x:=by omega
    simp [h]
   ·subst h;simp
   ·have h1:¬x<y:=by omega
    have h2:¬x=y:=by omega
    simp [h,h1,h2]
theorem Ih:∀ x y:List UInt8,Op.bytesLess x y=M4 (x.map λb=>(b.toNat:Int)) (y.map λb=>(b.toNat:Int))
 |_,[]=>by cases ‹List UInt8› <;>rfl
 |[],_::_=>rfl
 |a::x,b::y=>by
  simp only [Op.bytesLess,List.map_cons,M4];rw [Ih x y];congr 1
  ·rw [Bool.eq_iff_iff,decide_eq_true_iff,decide_eq_true_iff,UInt8.lt_iff_toNat_lt];omega
  ·congr 1;rw [Bool.eq_iff_iff,beq_iff_eq,decide_eq_true_iff, <-UInt8.toNat_inj];omega
theorem LX (s t:ByteArray):Op.bytesLess s.toList t.toList=M4 (bytesOf s) (bytesOf t):=by
 rw [toList_data,toList_data,Ih];rfl
theorem KF (a b:ByteArray):Gv a b=cmpL (bytesOf a) (bytesOf b):=by
 rw [Rx];unfold Gv;rw [LX,LX]
theorem Gs:Rank Gv:=by
 have h:=Jk Qf bytesOf λ_ _=>Es
 have e:(λx y=>cmpL (bytesOf x) (bytesOf y))=Gv:=by funext a b;rw [KF]
 exact e▸h
theorem KG:Rank λa b:Bool=>Eu (tl a) (tl b):=Jk Et tl (by decide)
abbrev Ug:=ByteArray×ByteArray×ByteArray
def OI:Ug->Ug->Int:=H5 Gv (H5 Gv Gv)
theorem OJ:Rank OI:=Fe Gs (Fe Gs Gs)
theorem Jl (a0 a1 a2 b0 b1 b2:ByteArray):JN a0 a1 a2 b0 b1 b2=OI (a0,a1,a2) (b0,b1,b2):=by
 unfold JN OI H5;simp only [PN];split
 ·split
  ·split
   ·exact Eq.symm ‹_›
   ·rfl
  ·rfl
 ·rfl
abbrev IK:=ByteArray×ByteArray×ByteArray×ByteArray×Int×Int×Int×Bool×Bool×Bool×Int
abbrev Uh:=Ug×Int×Int×ByteArray×Int×Bool×Bool×Bool×Int
def TR:Uh->Uh->Int:=H5 OI (H5 Eu (H5 Eu (H5 Gv (H5 Eu (H5 (λa b=>Eu (tl a) (tl b)) (H5 (λa b=>Eu (tl a) (tl b)) (H5 (λa b=>Eu (tl a) (tl b)) Eu)))))))
theorem Ry:Rank TR:=Fe OJ (Fe Et (Fe Et (Fe Gs (Fe Et (Fe KG (Fe KG (Fe KG Et)))))))
def rowOf (c:IK):Uh:=((c.1,c.2.1,c.2.2.1),c.2.2.2.2.1,c.2.2.2.2.2.1,c.2.2.2.1,c.2.2.2.2.2.2.1,c.2.2.2.2.2.2.2.1,c.2.2.2.2.2.2.2.2.1,c.2.2.2.2.2.2.2.2.2.1,c.2.2.2.2.2.2.2.2.2.2)
def JD (x y:IK):Int:=TR (rowOf x) (rowOf y)
theorem KH:Rank JD:=Jk Ry rowOf (by
 rintro ⟨a0,a1,a2,a3,a4,a5,a6,a7,a8,a9,a10⟩ ⟨b0,b1,b2,b3,b4,b5,b6,b7,b8,b9,b10⟩ h
 simp only [rowOf,Prod.mk.injEq] at h
 obtain ⟨⟨h0,h1,h2⟩,h4,h5,h3,h6,h7,h8,h9,h10⟩:=h
 subst h0 h1 h2 h3 h4 h5 h6 h7 h8 h9 h10
 rfl)
theorem or_cons (x:Int) (l:List Int):PN (x::l)=if x=0 then PN l else x:=rfl
theorem or_one (x:Int):PN [x]=x:=by simp only [PN];split<;>simp_all
theorem H6 (x y:Int) (l m:List Int):Kq (x::l) (y::m)=if Eu x y=0 then Kq l m else Eu x y:=rfl
theorem Rz (x y:Int):Kq [x] [y]=Eu x y:=by rw [H6];simp only [Kq];split<;>simp_all
theorem Qg (a0 a1 a2 a3:ByteArray) (a4 a5 a6:Int) (a7 a8 a9:Bool) (a10:Int) (b0 b1 b2 b3:ByteArray) (b4 b5 b6:Int) (b7 b8 b9:Bool) (b10:Int):UD a0 a1 a2 a3 a4 a5 a6 a7 a8 a9 a10 b0 b1 b2 b3 b4 b5 b6 b7 b8 b9 b10=JD (a0,a1,a2,a3,a4,a5,a6,a7,a8,a9,a10) (b0,b1,b2,b3,b4,b5,b6,b7,b8,b9,b10):=by
 unfold UD JD TR;rw [Jl];rw [or_cons,or_cons,or_cons,or_cons,or_one,H6,H6,H6,H6,Rz];simp only [rowOf,H5];first|done|rfl|(congr;done)
theorem M5 (a0 a1 a2 a3:ByteArray) (a4 a5 a6:Int) (a7 a8 a9:Bool) (a10:Int) (b0 b1 b2 b3:ByteArray) (b4 b5 b6:Int) (b7 b8 b9:Bool) (b10:Int):FE.f a0 a1 a2 a3 a4 a5 a6 a7 a8 a9 a10 b0 b1 b2 b3 b4 b5 b6 b7 b8 b9 b10=some (JD (a0,a1,a2,a3,a4,a5,a6,a7,a8,a9,a10) (b0,b1,b2,b3,b4,b5,b6,b7,b8,b9,b10)):=by
 unfold FE.f;rw [Qg]
end Go.Proofs.YtohjohhcjcljoaaGreatDoor.Y
