/- Orders: numbers, texts, keys and cookies, by plain functions, and what makes them orders. No condition. -/
import Derived.Test.YtccmackhhppbdaaGreatDoorGkey
namespace Go.Proofs.YtccmackhhppbdaaGreatDoor.Y
set_option linter.unusedVariables false
set_option linter.unusedSimpArgs false
open RowKit Print Af BI BM
def FV (a b:Int):Int:=if a<b then -1 else if a>b then 1 else 0
structure Rank {α:Type} (f:α->α->Int):Prop where
 val:∀ a b,f a b= -1\/f a b=0\/f a b=1
 anti:∀ a b,f b a= - f a b
 same:∀ a b,f a b=0↔a=b
 trans:∀ a b c,f a b<=0->f b c<=0->f a c<=0
theorem Ea:Rank FV:=by
 constructor
 ·intro a b;unfold FV;repeat (first|omega|split)
 ·intro a b;unfold FV;repeat (first|omega|split)
 ·intro a b;unfold FV;repeat (first|omega|split)
 ·intro a b c;unfold FV;repeat (first|omega|split)
def JW {α β:Type} (f:α->α->Int) (g:β->β->Int) (x y:α×β):Int:=if f x.1 y.1=0 then g x.2 y.2 else f x.1 y.1
theorem LD {α β:Type} {f:α->α->Int} {g:β->β->Int} (hf:Rank f) (hg:Rank g):Rank (JW f g):=by
 constructor
 ·intro a b;unfold JW;split
  ·exact hg.val _ _
  ·exact hf.val _ _
 ·intro a b;unfold JW;rw [hf.anti a.1 b.1];by_cases h:f a.1 b.1=0
  ·rw [if_pos (by omega),if_pos h,hg.anti]
  ·rw [if_neg (by omega),if_neg h]
 ·intro a b;unfold JW;by_cases h:f a.1 b.1=0
  ·rw [if_pos h,hg.same,Prod.ext_iff,(hf.same _ _).mp h];simp
  ·rw [if_neg h];refine ⟨λe=>absurd e h,λe=>?_⟩;rw [e];exact (hf.same _ _).mpr rfl
 ·intro a b c;unfold JW;by_cases h:f a.1 b.1=0
  ·rw [if_pos h,(hf.same _ _).mp h];by_cases h':f b.1 c.1=0
   ·rw [if_pos h',if_pos h'];exact hg.trans _ _ _
   ·rw [if_neg h',if_neg h'];exact λ_ e=>e
  ·rw [if_neg h];by_cases h':f b.1 c.1=0
   ·rw [if_pos h', <-(hf.same _ _).mp h',if_neg h];exact λe _=>e
   ·rw [if_neg h'];intro e e';by_cases h2:f a.1 c.1=0
    ·have:=hf.anti a.1 b.1;have e2:=(hf.same _ _).mp h2;rw [<-e2] at e' h';omega
    ·rw [if_neg h2];exact hf.trans _ _ _ e e'
theorem LF {α β:Type} {f:α->α->Int} (hf:Rank f) (u:β->α) (hu:∀ a b,u a=u b->a=b):Rank λx y=>f (u x) (u y):=
 ⟨λa b=>hf.val _ _,λa b=>hf.anti _ _,λa b=>(hf.same _ _).trans ⟨hu a b,λe=>by rw [e]⟩,λa b c=>hf.trans _ _ _⟩
def KN:List Int->List Int->Bool
 |_,[]=>false
 |[],_::_=>true
 |a::x,b::y=>decide (a<b)||(decide (a=b)&&KN x y)
def cmpL:List Int->List Int->Int
 |[],[]=>0
 |[],_::_=> -1
 |_::_,[]=>1
 |a::x,b::y=>if FV a b=0 then cmpL x y else FV a b
theorem Na:Rank cmpL:=by
 constructor
 ·intro a;induction a with
  |nil=>intro b;cases b<;>simp [cmpL]
  |cons x a ih=>intro b;cases b with
   |nil=>simp [cmpL]
   |cons y b=>
    simp only [cmpL];split
    ·exact ih b
    ·exact Ea.val _ _
 ·intro a;induction a with
  |nil=>intro b;cases b<;>simp [cmpL]
  |cons x a ih=>intro b;cases b with
   |nil=>simp [cmpL]
   |cons y b=>
    simp only [cmpL];rw [Ea.anti x y];by_cases h:FV x y=0
    ·rw [if_pos (by omega),if_pos h,ih]
    ·rw [if_neg (by omega),if_neg h]
 ·intro a;induction a with
  |nil=>intro b;cases b<;>simp [cmpL]
  |cons x a ih=>intro b;cases b with
   |nil=>simp [cmpL]
   |cons y b=>
    simp only [cmpL];by_cases h:FV x y=0
    ·rw [if_pos h,ih,(Ea.same _ _).mp h];simp
    ·rw [if_neg h];refine ⟨λe=>absurd e h,λe=>?_⟩;cases e;exact absurd ((Ea.same _ _).mpr rfl) h
 ·intro a;induction a with
  |nil=>intro b c;cases b<;>cases c<;>simp [cmpL]
  |cons x a ih=>intro b c;cases b with
   |nil=>simp [cmpL]
   |cons y b=>cases c with
    |nil=>simp [cmpL]
    |cons z c=>
     simp only [cmpL];by_cases h:FV x y=0
     ·rw [if_pos h,(Ea.same _ _).mp h];by_cases h':FV y z=0
      ·rw [if_pos h',if_pos h'];exact ih b c
      ·rw [if_neg h',if_neg h'];exact λ_ e=>e
     ·rw [if_neg h];by_cases h':FV y z=0
      ·rw [if_pos h', <-(Ea.same _ _).mp h',if_neg h];exact λe _=>e
      ·rw [if_neg h'];intro e e';by_cases h2:FV x z=0
       ·have:=Ea.anti x y;have e2:=(Ea.same _ _).mp h2;rw [<-e2] at e' h';omega
       ·rw [if_neg h2];exact Ea.trans _ _ _ e e'
theorem Ox (a b:List Int):cmpL a b=if KN a b=true then -1 else if KN b a=true then 1 else 0:=by
 induction a generalizing b with
 |nil=>cases b<;>simp [cmpL,KN]
 |cons x a ih=>cases b with
  |nil=>simp [cmpL,KN]
  |cons y b=>
   simp only [cmpL,KN,ih,Bool.or_eq_true,Bool.and_eq_true,decide_eq_true_iff];unfold FV;rcases Int.lt_trichotomy x y with h|h|h
   ·have h2:¬y<x:=by omega
    simp [h]
   ·subst h;simp
   ·have h1:¬x<y:=by omega
    have h2:¬x=y:=by omega
    simp [h,h1,h2]
theorem GV:∀ x y:List UInt8,Op.bytesLess x y=KN (x.map λb=>(b.toNat:Int)) (y.map λb=>(b.toNat:Int))
 |_,[]=>by cases ‹List UInt8› <;>rfl
 |[],_::_=>rfl
 |a::x,b::y=>by
  simp only [Op.bytesLess,List.map_cons,KN];rw [GV x y];congr 1
  ·rw [Bool.eq_iff_iff,decide_eq_true_iff,decide_eq_true_iff,UInt8.lt_iff_toNat_lt];omega
  ·congr 1;rw [Bool.eq_iff_iff,beq_iff_eq,decide_eq_true_iff, <-UInt8.toNat_inj];omega
theorem JF (s t:ByteArray):Op.bytesLess s.toList t.toList=KN (bytesOf s) (bytesOf t):=by
 rw [toList_data,toList_data,GV];rfl
theorem H8 (a b:ByteArray):Fg a b=cmpL (bytesOf a) (bytesOf b):=by
 rw [Ox];unfold Fg;rw [JF,JF]
theorem Fq:Rank Fg:=by
 have h:=LF Na bytesOf λ_ _=>Dj
 have e:(λx y=>cmpL (bytesOf x) (bytesOf y))=Fg:=by funext a b;rw [H8]
 exact e▸h
abbrev Re:=ByteArray×ByteArray×ByteArray
def Lr:Re->Re->Int:=JW Fg (JW Fg Fg)
theorem Oy:Rank Lr:=LD Fq (LD Fq Fq)
theorem JG (a0 a1 a2 b0 b1 b2:ByteArray):IL a0 a1 a2 b0 b1 b2=Lr (a0,a1,a2) (b0,b1,b2):=by
 unfold IL Lr JW;simp only [Q3];split
 ·split
  ·split
   ·exact Eq.symm ‹_›
   ·rfl
  ·rfl
 ·rfl
end Go.Proofs.YtccmackhhppbdaaGreatDoor.Y
