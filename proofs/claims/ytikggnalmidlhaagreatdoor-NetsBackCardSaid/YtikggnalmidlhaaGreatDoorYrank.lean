/- Orders: numbers, texts, keys and cookies, by plain functions, and what makes them orders. No condition. -/
import Derived.Test.YtikggnalmidlhaaGreatDoorM6
namespace Go.Proofs.YtikggnalmidlhaaGreatDoor.Y
set_option linter.unusedVariables false
set_option linter.unusedSimpArgs false
open RowKit Print AR Aa Ad
def FZ (a b:Int):Int:=if a<b then -1 else if a>b then 1 else 0
structure Rank {α:Type} (f:α->α->Int):Prop where
 val:∀ a b,f a b= -1\/f a b=0\/f a b=1
 anti:∀ a b,f b a= - f a b
 same:∀ a b,f a b=0↔a=b
 trans:∀ a b c,f a b<=0->f b c<=0->f a c<=0
theorem El:Rank FZ:=by
 constructor
 ·intro a b;unfold FZ;repeat (first|omega|split)
 ·intro a b;unfold FZ;repeat (first|omega|split)
 ·intro a b;unfold FZ;repeat (first|omega|split)
 ·intro a b c;unfold FZ;repeat (first|omega|split)
def KV {α β:Type} (f:α->α->Int) (g:β->β->Int) (x y:α×β):Int:=if f x.1 y.1=0 then g x.2 y.2 else f x.1 y.1
theorem M6 {α β:Type} {f:α->α->Int} {g:β->β->Int} (hf:Rank f) (hg:Rank g):Rank (KV f g):=by
 constructor
 ·intro a b;unfold KV;split
  ·exact hg.val _ _
  ·exact hf.val _ _
 ·intro a b;unfold KV;rw [hf.anti a.1 b.1];by_cases h:f a.1 b.1=0
  ·rw [if_pos (by omega),if_pos h,hg.anti]
  ·rw [if_neg (by omega),if_neg h]
 ·intro a b;unfold KV;by_cases h:f a.1 b.1=0
  ·rw [if_pos h,hg.same,Prod.ext_iff,(hf.same _ _).mp h];simp
  ·rw [if_neg h];refine ⟨λe=>absurd e h,λe=>?_⟩;rw [e];exact (hf.same _ _).mpr rfl
 ·intro a b c;unfold KV;by_cases h:f a.1 b.1=0
  ·rw [if_pos h,(hf.same _ _).mp h];by_cases h':f b.1 c.1=0
   ·rw [if_pos h',if_pos h'];exact hg.trans _ _ _
   ·rw [if_neg h',if_neg h'];exact λ_ e=>e
  ·rw [if_neg h];by_cases h':f b.1 c.1=0
   ·rw [if_pos h', <-(hf.same _ _).mp h',if_neg h];exact λe _=>e
   ·rw [if_neg h'];intro e e';by_cases h2:f a.1 c.1=0
    ·have:=hf.anti a.1 b.1;have e2:=(hf.same _ _).mp h2;rw [<-e2] at e' h';omega
    ·rw [if_neg h2];exact hf.trans _ _ _ e e'
theorem M7 {α β:Type} {f:α->α->Int} (hf:Rank f) (u:β->α) (hu:∀ a b,u a=u b->a=b):Rank λx y=>f (u x) (u y):=
 ⟨λa b=>hf.val _ _,λa b=>hf.anti _ _,λa b=>(hf.same _ _).trans ⟨hu a b,λe=>by rw [e]⟩,λa b c=>hf.trans _ _ _⟩
def Lp:List Int->List Int->Bool
 |_,[]=>false
 |[],_::_=>true
 |a::x,b::y=>decide (a<b)||(decide (a=b)&&Lp x y)
def cmpL:List Int->List Int->Int
 |[],[]=>0
 |[],_::_=> -1
 |_::_,[]=>1
 |a::x,b::y=>if FZ a b=0 then cmpL x y else FZ a b
theorem Pm:Rank cmpL:=by
 constructor
 ·intro a;induction a with
  |nil=>intro b;cases b<;>simp [cmpL]
  |cons x a ih=>intro b;cases b with
   |nil=>simp [cmpL]
   |cons y b=>
    simp only [cmpL];split
    ·exact ih b
    ·exact El.val _ _
 ·intro a;induction a with
  |nil=>intro b;cases b<;>simp [cmpL]
  |cons x a ih=>intro b;cases b with
   |nil=>simp [cmpL]
   |cons y b=>
    simp only [cmpL];rw [El.anti x y];by_cases h:FZ x y=0
    ·rw [if_pos (by omega),if_pos h,ih]
    ·rw [if_neg (by omega),if_neg h]
 ·intro a;induction a with
  |nil=>intro b;cases b<;>simp [cmpL]
  |cons x a ih=>intro b;cases b with
   |nil=>simp [cmpL]
   |cons y b=>
    simp only [cmpL];by_cases h:FZ x y=0
    ·rw [if_pos h,ih,(El.same _ _).mp h];simp
    ·rw [if_neg h];refine ⟨λe=>absurd e h,λe=>?_⟩;cases e;exact absurd ((El.same _ _).mpr rfl) h
 ·intro a;induction a with
  |nil=>intro b c;cases b<;>cases c<;>simp [cmpL]
  |cons x a ih=>intro b c;cases b with
   |nil=>simp [cmpL]
   |cons y b=>cases c with
    |nil=>simp [cmpL]
    |cons z c=>
     simp only [cmpL];by_cases h:FZ x y=0
     ·rw [if_pos h,(El.same _ _).mp h];by_cases h':FZ y z=0
      ·rw [if_pos h',if_pos h'];exact ih b c
      ·rw [if_neg h',if_neg h'];exact λ_ e=>e
     ·rw [if_neg h];by_cases h':FZ y z=0
      ·rw [if_pos h', <-(El.same _ _).mp h',if_neg h];exact λe _=>e
      ·rw [if_neg h'];intro e e';by_cases h2:FZ x z=0
       ·have:=El.anti x y;have e2:=(El.same _ _).mp h2;rw [<-e2] at e' h';omega
       ·rw [if_neg h2];exact El.trans _ _ _ e e'
theorem Q7 (a b:List Int):cmpL a b=if Lp a b=true then -1 else if Lp b a=true then 1 else 0:=by
 induction a generalizing b with
 |nil=>cases b<;>simp [cmpL,Lp]
 |cons x a ih=>cases b with
  |nil=>simp [cmpL,Lp]
  |cons y b=>
   simp only [cmpL,Lp,ih,Bool.or_eq_true,Bool.and_eq_true,decide_eq_true_iff];unfold FZ;rcases Int.lt_trichotomy x y with h|h|h
   ·have h2:¬y<x:=by omega
    simp [h]
   ·subst h;simp
   ·have h1:¬x<y:=by omega
    have h2:¬x=y:=by omega
    simp [h,h1,h2]
theorem Gq:∀ x y:List UInt8,Op.bytesLess x y=Lp (x.map λb=>(b.toNat:Int)) (y.map λb=>(b.toNat:Int))
 |_,[]=>by cases ‹List UInt8› <;>rfl
 |[],_::_=>rfl
 |a::x,b::y=>by
  simp only [Op.bytesLess,List.map_cons,Lp];rw [Gq x y];congr 1
  ·rw [Bool.eq_iff_iff,decide_eq_true_iff,decide_eq_true_iff,UInt8.lt_iff_toNat_lt];omega
  ·congr 1;rw [Bool.eq_iff_iff,beq_iff_eq,decide_eq_true_iff, <-UInt8.toNat_inj];omega
theorem J5 (s t:ByteArray):Op.bytesLess s.toList t.toList=Lp (bytesOf s) (bytesOf t):=by
 rw [toList_data,toList_data,Gq];rfl
theorem Ip (a b:ByteArray):Fv a b=cmpL (bytesOf a) (bytesOf b):=by
 rw [Q7];unfold Fv;rw [J5,J5]
theorem GA:Rank Fv:=by
 have h:=M7 Pm bytesOf λ_ _=>DI
 have e:(λx y=>cmpL (bytesOf x) (bytesOf y))=Fv:=by funext a b;rw [Ip]
 exact e▸h
abbrev U1:=ByteArray×ByteArray×ByteArray
def Ns:U1->U1->Int:=KV Fv (KV Fv Fv)
theorem Q8:Rank Ns:=M6 GA (M6 GA GA)
theorem J6 (a0 a1 a2 b0 b1 b2:ByteArray):JF a0 a1 a2 b0 b1 b2=Ns (a0,a1,a2) (b0,b1,b2):=by
 unfold JF Ns KV;simp only [UX];split
 ·split
  ·split
   ·exact Eq.symm ‹_›
   ·rfl
  ·rfl
 ·rfl
end Go.Proofs.YtikggnalmidlhaaGreatDoor.Y
