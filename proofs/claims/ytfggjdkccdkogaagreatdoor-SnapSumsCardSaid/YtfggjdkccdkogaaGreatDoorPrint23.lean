/- Printed by a program of this claim's session (xprint.py): the machine's side: each Go function as a Lean function, and that a call of it comes to what that tells; the row of a statement. No condition. -/
import Derived.Test.YtfggjdkccdkogaaGreatDoorPrint13
namespace Go.Proofs.YtfggjdkccdkogaaGreatDoor.Print
open RowKit Ac Aq Aw
attribute [local go_sem] DC DD DX DY Co Cq DI DJ
set_option linter.unusedVariables false
set_option linter.unusedSimpArgs false
def CB.f (k:Nat) (a0:ByteArray):Option (Bool):=if (a0.size:Int)>=4 then (if 0<=(wrap64 ((a0.size:Int) - 4)) then (if (wrap64 ((a0.size:Int) - 4))<=(a0.size:Int) then ((Ci.f k (a0.extract 0 ((wrap64 ((a0.size:Int) - 4)):Int).toNat)).bind λt465=>(some ((a0.extract ((wrap64 ((a0.size:Int) - 4)):Int).toNat a0.size).toList==t465.toList))) else (none)) else (none)) else (some false)
def CB.T1:Bool×List (List Nat×List Nat):=(true,[([],[]),([0],[0]),([1],[1]),([2],[2]),([3],[3]),([3],[3]),([5,3],[3,5]),([6,3],[3,6]),([4,7,3],[3,4,7]),([3],[3]),([3],[3]),([10,3],[3,10]),([11,3],[3,11]),([9,12,3],[3,9,12]),([13,3,3],[3,13]),([8,14,3],[3,8,14]),([3,15],[3,15]),([16,14,0,1,2,3,4,5,6,7,8,9,10,11,12,13,14,15,16],[16])])
def CB.B1:List Nat:=[0,1,3,7,15,15,47,111,255,15,15,1039,3087,7695,15887,32767,65535,131071]
theorem CB.Ov:GI .any (opsOf Tryz.f42 1)=CB.T1:=by kernel_rfl
theorem CB.Ki:FO CB.T1.2 CB.B1=true:=by kernel_rfl
set_option maxHeartbeats 8000000 in
set_option maxRecDepth 100000 in
theorem CB.calls (k:Nat) (a0:ByteArray) (r:Bool) (w:World) (h:CB.f k a0=some r):
 Calls Tryz.prog 42 #[.string a0] w λe w'=>e= .returned (.bool r)/\Below w.heap.size w w':=by
 have HB:=AA.mk (Below.refl w.heap.size w);have H:(if (a0.size:Int)>=4 then (if 0<=(wrap64 ((a0.size:Int) - 4)) then (if (wrap64 ((a0.size:Int) - 4))<=(a0.size:Int) then ((Ci.f k (a0.extract 0 ((wrap64 ((a0.size:Int) - 4)):Int).toNat)).bind λt465=>(some ((a0.extract ((wrap64 ((a0.size:Int) - 4)):Int).toNat a0.size).toList==t465.toList))) else (none)) else (none)) else (some false))=some r:=h;clear h;by_cases c2:(a0.size:Int)>=4
 ·rw [if_pos c2] at H;have c2b0:decide (4<=(a0.size:Int))=true:=decide_eq_true c2;have c2b1:decide (4<=a0.size)=true:=decide_eq_true (by omega);clear c2;obtain ⟨ji3,hji3⟩:∃ j_:Int,(wrap64 ((a0.size:Int) - 4))=j_:=⟨_,rfl⟩;replace H:(if 0<=(ji3) then (if (ji3)<=(a0.size:Int) then ((Ci.f k (a0.extract 0 ((ji3):Int).toNat)).bind λt465=>(some ((a0.extract ((ji3):Int).toNat a0.size).toList==t465.toList))) else (none)) else (none))=some r:=by first|(rw [hji3] at H;exact H)|(simp only [hji3] at H⊢;exact H)
  have hji3w:(IntKind.i64.wrap ((a0.size:Int) - 4))=ji3:=(CE _).trans hji3;by_cases c4:0<=(ji3)
  ·rw [if_pos c4] at H;have c4b0:=eq_true c4;have c4b1:decide (0<=(ji3))=true:=decide_eq_true c4;clear c4;by_cases c5:(ji3)<=(a0.size:Int)
   ·rw [if_pos c5] at H;have c5b0:=eq_true c5;have c5b1:decide ((ji3)<=(a0.size:Int))=true:=decide_eq_true c5;clear c5;have c6b0:=eq_true (xa:0<=(ji3));have c7b0:=eq_true (xa:(ji3)<=(a0.size:Int));replace H:=Option.bind_eq_some_iff.mp H;obtain ⟨t465,A80,H⟩:=H;replace H:(some ((a0.extract ((ji3):Int).toNat a0.size).toList==t465.toList))=some r:=H;have A8:=AA.mk A80;clear A80;obtain rfl:=Option.some.inj H;go_enter Tryz.func42,Tryz.ntmps42;try go_wp2
    replace HB:=AA.mk (Bb HB.out);refine EG (n:=18) (S:=λw'=>True) (ds:=[]) (bm 18 0) (by kernel_rfl) rfl rfl trivial (λhHeld=>?_);refine Dc CB.Ov CB.Ki (λHT_ HW_=>?_);generalize w.drew=w9 at HB hHeld⊢
    refine AZ (i:=0) (N:=some 3) (bm 18 1) rfl rfl (AV HT_.out (by kernel_rfl)) (Or.inl ⟨by rfl,by intro w';go_simp;with_reducible rfl⟩) ?_;refine AZ (i:=1) (N:=some 4) (bm 18 3) rfl rfl (AV HT_.out (by kernel_rfl)) (Or.inl ⟨by rfl,by intro w';go_simp;with_reducible rfl⟩) ?_;refine AZ (i:=2) (N:=some 5) (bm 18 7) rfl rfl (AV HT_.out (by kernel_rfl)) (Or.inl ⟨by rfl,by intro w';go_simp;with_reducible rfl⟩) ?_;refine AZ (i:=3) (N:=some 6) (bm 18 15) rfl rfl (AV HT_.out (by kernel_rfl)) (Or.inl ⟨by rfl,by intro w';go_simp;with_reducible rfl⟩) ?_;refine AZ (i:=4) (N:=some 7) (bm 18 31) rfl rfl (AV HT_.out (by kernel_rfl)) (Or.inl ⟨by rfl,by intro w';go_simp;with_reducible rfl⟩) ?_;refine AZ (i:=5) (N:=some 8) (bm 18 63) rfl rfl (AV HT_.out (by kernel_rfl)) (Or.inl ⟨by rfl,by intro w';go_simp;with_reducible rfl⟩) ?_;refine AZ (i:=6) (N:=some 9) (bm 18 127) rfl rfl (AV HT_.out (by kernel_rfl)) (Or.inl ⟨by rfl,by intro w';go_simp;with_reducible rfl⟩) ?_;refine AZ (i:=7) (N:=some 10) (bm 18 255) rfl rfl (AV HT_.out (by kernel_rfl)) (Or.inl ⟨by rfl,by intro w';go_simp;with_reducible rfl⟩) ?_;refine AZ (i:=8) (N:=some 11) (bm 18 511) rfl rfl (AV HT_.out (by kernel_rfl)) (Or.inl ⟨by rfl,by intro w';go_simp;with_reducible rfl⟩) ?_;refine AZ (i:=9) (N:=some 12) (bm 18 1023) rfl rfl (AV HT_.out (by kernel_rfl)) (Or.inl ⟨by rfl,by intro w';go_simp;with_reducible rfl⟩) ?_;refine AZ (i:=10) (N:=some 13) (bm 18 2047) rfl rfl (AV HT_.out (by kernel_rfl)) (Or.inl ⟨by rfl,by intro w';go_simp;with_reducible rfl⟩) ?_;refine AZ (i:=11) (N:=some 14) (bm 18 4095) rfl rfl (AV HT_.out (by kernel_rfl)) (Or.inl ⟨by rfl,by intro w';go_simp;with_reducible rfl⟩) ?_;refine AZ (i:=12) (N:=some 15) (bm 18 8191) rfl rfl (AV HT_.out (by kernel_rfl)) (Or.inl ⟨by rfl,by intro w';go_simp;with_reducible rfl⟩) ?_;refine AZ (i:=13) (N:=some 16) (bm 18 16383) rfl rfl (AV HT_.out (by kernel_rfl)) (Or.inl ⟨by rfl,by intro w';go_simp;with_reducible rfl⟩) ?_;refine Df (i:=14) (N:=some 17) (bm 18 32767) rfl rfl (Bw HT_.out (by kernel_rfl)) (by decide) (λK hK=>?_);refine Cr Tryz.func24 (by kernel_rfl) rfl #[.string (a0.extract 0 ((ji3):Int).toNat)] (by rfl) rfl rfl (by (try simp only [List.map_toArray,List.map_cons,List.map_nil]);first|done|(simp only [hji3];rfl)|rfl|(simp only [List.length_drop,List.length_take];rfl)|((try simp [Act.eval])<;>(try simp only [KI,LK,N7,wrap64,wrap32])<;>omega)) ?_;with_reducible refine (Ci.calls k (a0.extract 0 ((ji3):Int).toNat) t465 _ A8.out).mono ?_
    rintro e w10 ⟨rfl,hb⟩;refine ⟨_,rfl,?_⟩;replace HB:=AA.mk (AO xb hb);(try clear hb);refine hK.out _ _ trivial (λhHeld=>?_);clear hK K;refine Be (some 17) rfl ?_;refine AZ (i:=15) (N:=some 18) (bm 18 65535) rfl rfl (AV HT_.out (by kernel_rfl)) (Or.inl ⟨by rfl,by intro w';go_simp;with_reducible rfl⟩) ?_;refine AZ (i:=16) (N:=some 19) (bm 18 131071) rfl rfl (AV HT_.out (by kernel_rfl)) (Or.inl ⟨by rfl,by intro w';go_simp;with_reducible rfl⟩) ?_;refine AZ (i:=17) (N:=some 2) (bm 18 262143) rfl rfl (AV HT_.out (by kernel_rfl)) (Or.inl ⟨by rfl,by intro w';go_simp;with_reducible rfl⟩) ?_;refine Ep (EM HT_.out (by kernel_rfl)) ?_;try go_wp2
    go_ret;exact ⟨by first|rfl|(simp [EI,EJ]<;>rfl)|(simp only [<-hji3];first|rfl|(simp [EI,EJ]<;>rfl))|(simp [*,EI,EJ]<;>rfl),xb⟩
   ·rw [if_neg c5] at H;exact absurd H (by simp)
  ·rw [if_neg c4] at H;exact absurd H (by simp)
 ·rw [if_neg c2] at H;have c2b0:decide (4<=(a0.size:Int))=false:=decide_eq_false c2;have c2b1:decide (4<=a0.size)=false:=decide_eq_false (by omega);clear c2;obtain rfl:=Option.some.inj H;go_enter Tryz.func42,Tryz.ntmps42;try go_wp2
  replace HB:=AA.mk (Bb HB.out);refine EG (n:=18) (S:=λw'=>True) (ds:=[]) (bm 18 0) (by kernel_rfl) rfl rfl trivial (λhHeld=>?_);refine Dc CB.Ov CB.Ki (λHT_ HW_=>?_);generalize w.drew=w11 at HB hHeld⊢
  refine AZ (i:=0) (N:=some 3) (bm 18 1) rfl rfl (AV HT_.out (by kernel_rfl)) (Or.inl ⟨by rfl,by intro w';go_simp;with_reducible rfl⟩) ?_;refine AZ (i:=1) (N:=some 4) (bm 18 3) rfl rfl (AV HT_.out (by kernel_rfl)) (Or.inl ⟨by rfl,by intro w';go_simp;with_reducible rfl⟩) ?_;refine AZ (i:=2) (N:=some 5) (bm 18 7) rfl rfl (AV HT_.out (by kernel_rfl)) (Or.inl ⟨by rfl,by intro w';go_simp;with_reducible rfl⟩) ?_;refine AZ (i:=3) (N:=some 6) (bm 18 15) rfl rfl (AV HT_.out (by kernel_rfl)) (Or.inl ⟨by rfl,by intro w';go_simp;with_reducible rfl⟩) ?_;refine D7 (i:=4) (N:=some 7) (v:=undef) (a':=?_) (bm 18 31) rfl rfl (AV HT_.out (by kernel_rfl)) (λ_ _ _ h=>h) (Or.inr ⟨by rfl,rfl⟩) ?_ ?_
  rotate_left
  ·simp only [Act.put,List.setIfInBounds_toArray,List.set_cons_zero,List.set_cons_succ,CE,CU];rfl
  refine D7 (i:=5) (N:=some 8) (v:=undef) (a':=?_) (bm 18 63) rfl rfl (AV HT_.out (by kernel_rfl)) (λ_ _ _ h=>h) (Or.inr ⟨by rfl,rfl⟩) ?_ ?_
  rotate_left
  ·simp only [Act.put,List.setIfInBounds_toArray,List.set_cons_zero,List.set_cons_succ,CE,CU];rfl
  refine D7 (i:=6) (N:=some 9) (v:=undef) (a':=?_) (bm 18 127) rfl rfl (AV HT_.out (by kernel_rfl)) (λ_ _ _ h=>h) (Or.inr ⟨by rfl,rfl⟩) ?_ ?_
  rotate_left
  ·simp only [Act.put,List.setIfInBounds_toArray,List.set_cons_zero,List.set_cons_succ,CE,CU];rfl
  refine D7 (i:=7) (N:=some 10) (v:=undef) (a':=?_) (bm 18 255) rfl rfl (AV HT_.out (by kernel_rfl)) (λ_ _ _ h=>h) (Or.inr ⟨by rfl,rfl⟩) ?_ ?_
  rotate_left
  ·simp only [Act.put,List.setIfInBounds_toArray,List.set_cons_zero,List.set_cons_succ,CE,CU];rfl
  refine D7 (i:=8) (N:=some 11) (v:=undef) (a':=?_) (bm 18 511) rfl rfl (AV HT_.out (by kernel_rfl)) (λ_ _ _ h=>h) (Or.inr ⟨by rfl,rfl⟩) ?_ ?_
  rotate_left
  ·simp only [Act.put,List.setIfInBounds_toArray,List.set_cons_zero,List.set_cons_succ,CE,CU];rfl
  refine D7 (i:=9) (N:=some 12) (v:=undef) (a':=?_) (bm 18 1023) rfl rfl (AV HT_.out (by kernel_rfl)) (λ_ _ _ h=>h) (Or.inr ⟨by rfl,rfl⟩) ?_ ?_
  rotate_left
  ·simp only [Act.put,List.setIfInBounds_toArray,List.set_cons_zero,List.set_cons_succ,CE,CU];rfl
  refine D7 (i:=10) (N:=some 13) (v:=undef) (a':=?_) (bm 18 2047) rfl rfl (AV HT_.out (by kernel_rfl)) (λ_ _ _ h=>h) (Or.inr ⟨by rfl,rfl⟩) ?_ ?_
  rotate_left
  ·simp only [Act.put,List.setIfInBounds_toArray,List.set_cons_zero,List.set_cons_succ,CE,CU];rfl
  refine D7 (i:=11) (N:=some 14) (v:=undef) (a':=?_) (bm 18 4095) rfl rfl (AV HT_.out (by kernel_rfl)) (λ_ _ _ h=>h) (Or.inr ⟨by rfl,rfl⟩) ?_ ?_
  rotate_left
  ·simp only [Act.put,List.setIfInBounds_toArray,List.set_cons_zero,List.set_cons_succ,CE,CU];rfl
  refine D7 (i:=12) (N:=some 15) (v:=undef) (a':=?_) (bm 18 8191) rfl rfl (AV HT_.out (by kernel_rfl)) (λ_ _ _ h=>h) (Or.inr ⟨by rfl,rfl⟩) ?_ ?_
  rotate_left
  ·simp only [Act.put,List.setIfInBounds_toArray,List.set_cons_zero,List.set_cons_succ,CE,CU];rfl
  refine D7 (i:=13) (N:=some 16) (v:=undef) (a':=?_) (bm 18 16383) rfl rfl (AV HT_.out (by kernel_rfl)) (λ_ _ _ h=>h) (Or.inr ⟨by rfl,rfl⟩) ?_ ?_
  rotate_left
  ·simp only [Act.put,List.setIfInBounds_toArray,List.set_cons_zero,List.set_cons_succ,CE,CU];rfl
  refine D7 (i:=14) (N:=some 17) (v:=undef) (a':=?_) (bm 18 32767) rfl rfl (AV HT_.out (by kernel_rfl)) (λ_ _ _ h=>h) (Or.inr ⟨by rfl,rfl⟩) ?_ ?_
  rotate_left
  ·simp only [Act.put,List.setIfInBounds_toArray,List.set_cons_zero,List.set_cons_succ,CE,CU];rfl
  refine D7 (i:=15) (N:=some 18) (v:=undef) (a':=?_) (bm 18 65535) rfl rfl (AV HT_.out (by kernel_rfl)) (λ_ _ _ h=>h) (Or.inr ⟨by rfl,rfl⟩) ?_ ?_
  rotate_left
  ·simp only [Act.put,List.setIfInBounds_toArray,List.set_cons_zero,List.set_cons_succ,CE,CU];rfl
  refine AZ (i:=16) (N:=some 19) (bm 18 131071) rfl rfl (AV HT_.out (by kernel_rfl)) (Or.inl ⟨by rfl,by intro w';go_simp;with_reducible rfl⟩) ?_;refine AZ (i:=17) (N:=some 2) (bm 18 262143) rfl rfl (AV HT_.out (by kernel_rfl)) (Or.inl ⟨by rfl,by intro w';go_simp;with_reducible rfl⟩) ?_;refine Ep (EM HT_.out (by kernel_rfl)) ?_;try go_wp2
  go_ret;exact ⟨xe,xb⟩
mutual
def BL.l0:Nat->ByteArray->Int->Int->Int->Option (Int×Int×Int)
 |0,_,_,_,_=>none
 |k+1,x0,x5,x6,x7=>if x7<10 then (if x7>=(x0.size:Int) then (some (0,0,30)) else (if 0<=x7 then (if x7<(x0.size:Int) then (if (IntKind.u64.wrap (bt x0 x7))>=128 then (BL.l0 k x0 (IntKind.u64.wrap (x5+(IntKind.u64.wrap ((IntKind.u64.wrap ((IntKind.u64.wrap (bt x0 x7)) - 128))*x6)))) (IntKind.u64.wrap (x6*128)) (wrap64 (x7+1))) else (if x7=9 then (BL.j1 k x5 x6 x7 (IntKind.u64.wrap (bt x0 x7)) (decide ((IntKind.u64.wrap (bt x0 x7))>1))) else (BL.j1 k x5 x6 x7 (IntKind.u64.wrap (bt x0 x7)) false))) else (none)) else (none))) else (some (0,0,31))
def BL.j1:Nat->Int->Int->Int->Int->Bool->Option (Int×Int×Int)
 |0,_,_,_,_,_=>none
 |k+1,x5,x6,x7,x8,x36=>if x36=true then (some (0,0,31)) else (if x7>0 then (if x8=0 then (some (0,0,32)) else (some (IntKind.u64.wrap (x5+(IntKind.u64.wrap (x8*x6))),wrap64 (x7+1),0))) else (some (IntKind.u64.wrap (x5+(IntKind.u64.wrap (x8*x6))),wrap64 (x7+1),0)))
end
def BL.f (k:Nat) (a0:ByteArray):Option (Int×Int×Int):=BL.l0 k a0 0 1 0
set_option maxHeartbeats 8000000 in
set_option maxRecDepth 100000 in
theorem BL.calls (k:Nat) (a0:ByteArray) (r1:Int) (r2:Int) (r3:Int) (w:World) (h:BL.f k a0=some (r1,r2,r3)):
 Calls Tryz.prog 69 #[.string a0] w λe w'=>e= .returned (.tuple #[.int .u64 r1, .int .i64 r2, .int .i64 r3])/\BP w w':=by
 have H:(BL.l0 k a0 0 1 0)=some (r1,r2,r3):=h;clear h;have H':=AA.mk H;clear H;go_enter Tryz.func69,Tryz.ntmps69;go_wp2;go_loopg [5,6,7] k (λkq v5 v6 v7 w'=>∃ (x5_1:Int) (x6_1:Int) (x7_1:Int),v5= .int .u64 x5_1/\v6= .int .u64 x6_1/\v7= .int .i64 x7_1/\AA (BL.l0 kq a0 x5_1 x6_1 x7_1=some (r1,r2,r3))/\AA (kq<=k)/\BP w w');case atStart=>exact ⟨(0),(1),(0),xq,xq,xq,H',⟨Nat.le_refl _⟩,xd⟩
 case round=>
  clear H';obtain ⟨x5_1,x6_1,x7_1,rfl,rfl,rfl,HA,HK1,⟨m1,rfl⟩⟩:=hrel;cases gk with
  |zero=>exact absurd HA.out (by simp [BL.l0])
  |succ k1=>
   have H:=HA.out;clear HA;simp only [BL.l0] at H;by_cases c2:x7_1<10
   ·rw [if_pos c2] at H;have c2b0:decide (x7_1<10)=true:=decide_eq_true c2;clear c2;by_cases c3:x7_1>=(a0.size:Int)
    ·rw [if_pos c3] at H;have c3b0:decide ((a0.size:Int)<=x7_1)=true:=decide_eq_true c3;clear c3;simp only [Option.some.injEq,Prod.mk.injEq] at H;obtain ⟨rfl,rfl,rfl⟩:=H;go_wp2;go_ret3;exact ⟨xq,xd⟩
    ·rw [if_neg c3] at H;have c3b0:decide ((a0.size:Int)<=x7_1)=false:=decide_eq_false c3;clear c3;by_cases c4:0<=x7_1
     ·rw [if_pos c4] at H;have c4b0:decide (0<=x7_1)=true:=decide_eq_true c4;clear c4;by_cases c5:x7_1<(a0.size:Int)
      ·rw [if_pos c5] at H;have c5b0:decide (x7_1<(a0.size:Int))=true:=decide_eq_true c5;clear c5;by_cases c7:(IntKind.u64.wrap (bt a0 x7_1))>=128
       ·rw [if_pos c7] at H;have c7b0:decide (128<=(IntKind.u64.wrap (bt a0 x7_1)))=true:=decide_eq_true c7;clear c7;have H':=AA.mk H;clear H;have p6:0<=(x7_1:Int):=xa;have q6:x7_1<(a0.size:Int):=xa;have hx6:=CV a0 x7_1;replace p6:=eq_true p6;replace q6:=eq_true q6;go_wp2;go_roundg k1;case measure=>have:=HK1.out;omega
        case rel=>exact ⟨(IntKind.u64.wrap (x5_1+(IntKind.u64.wrap ((IntKind.u64.wrap ((IntKind.u64.wrap (bt a0 x7_1)) - 128))*x6_1)))),(IntKind.u64.wrap (x6_1*128)),(wrap64 (x7_1+1)),xq,xq,xq,H',⟨by have:=HK1.out;omega⟩,xd⟩
       ·rw [if_neg c7] at H;have c7b0:decide (128<=(IntKind.u64.wrap (bt a0 x7_1)))=false:=decide_eq_false c7;clear c7;have HC8:=AA.mk H;clear H;have p6:0<=(x7_1:Int):=xa;have q6:x7_1<(a0.size:Int):=xa;have hx6:=CV a0 x7_1;replace p6:=eq_true p6;replace q6:=eq_true q6;go_upto_region 12 with (fail)
        go_cut [36] (λv36 wc=>∃ (kq:Nat) (x36_7:Bool),v36= .bool x36_7/\AA (BL.j1 kq x5_1 x6_1 x7_1 (IntKind.u64.wrap (bt a0 x7_1)) x36_7=some (r1,r2,r3))/\AA (kq<=k1)/\BP w wc);case first=>
         have H:=HC8.out;clear HC8;by_cases c9:x7_1=9
         ·rw [if_pos c9] at H;have c9b0:(x7_1==9)=true:=beq_iff_eq.mpr c9;have c9b1:(x7_1 != 9)=false:=bne_eq_false_iff_eq.mpr c9;clear c9;(first|rw [c9b0]|(simp only [CE,CU];rw [c9b0])|skip);have H':=AA.mk H;clear H;go_wp2;go_meet;case rel=>exact ⟨_,(decide ((IntKind.u64.wrap (bt a0 x7_1))>1)),xq,H',⟨by have:=HK1.out;first|omega|exact Nat.le_refl _⟩,xd⟩
         ·rw [if_neg c9] at H;have c9b0:(x7_1==9)=false:=beq_eq_false_iff_ne.mpr c9;have c9b1:(x7_1 != 9)=true:=bne_iff_ne.mpr c9;(first|rw [c9b0]|(simp only [CE,CU];rw [c9b0])|skip);have H':=AA.mk H;clear H;go_wp2;go_meet;case rel=>exact ⟨_,(false),xq,H',⟨by have:=HK1.out;first|omega|exact Nat.le_refl _⟩,xd⟩
        case rest=>
         clear HC8;try clear c2
         try clear c2b0
         try clear p2
         try clear c3
         try clear c3b0
         try clear c4
         try clear c4b0
         try clear c5
         try clear c5b0
         try clear c6
         try clear p6
         try clear q6
         try clear hx6
         try clear c7
         try clear c7b0
         try clear c9
         try clear c9b0
         try clear c9b1
         try clear p6
         try clear q6
         obtain ⟨kq,x36_7,rfl,HA,HJ7,⟨mc7,rfl⟩⟩:=hcut;cases kq with
         |zero=>exact absurd HA.out (by simp [BL.j1])
         |succ kj7=>
          have H:=HA.out;clear HA;simp only [BL.j1] at H;by_cases c10:x36_7=true
          ·subst c10;have H1:(some (0,0,31))=some (r1,r2,r3):=by rw [if_pos rfl] at H;exact H
           clear H;have H:=H1;clear H1;simp only [Option.some.injEq,Prod.mk.injEq] at H;obtain ⟨rfl,rfl,rfl⟩:=H;go_wp2;go_ret3;exact ⟨xq,xd⟩
          ·replace c10:=Bool.eq_false_iff.mpr c10;subst c10;have H1:(if x7_1>0 then (if (IntKind.u64.wrap (bt a0 x7_1))=0 then (some (0,0,32)) else (some (IntKind.u64.wrap (x5_1+(IntKind.u64.wrap ((IntKind.u64.wrap (bt a0 x7_1))*x6_1))),wrap64 (x7_1+1),0))) else (some (IntKind.u64.wrap (x5_1+(IntKind.u64.wrap ((IntKind.u64.wrap (bt a0 x7_1))*x6_1))),wrap64 (x7_1+1),0)))=some (r1,r2,r3):=by rw [if_neg (show ¬(false=true) by decide)] at H;exact H
           clear H;have H:=H1;clear H1;by_cases c11:x7_1>0
           ·rw [if_pos c11] at H;have c11b0:decide (0<x7_1)=true:=decide_eq_true c11;clear c11;by_cases c12:(IntKind.u64.wrap (bt a0 x7_1))=0
            ·rw [if_pos c12] at H;have c12b0:((IntKind.u64.wrap (bt a0 x7_1))==0)=true:=beq_iff_eq.mpr c12;have c12b1:((IntKind.u64.wrap (bt a0 x7_1)) != 0)=false:=bne_eq_false_iff_eq.mpr c12;clear c12;simp only [Option.some.injEq,Prod.mk.injEq] at H;obtain ⟨rfl,rfl,rfl⟩:=H;go_wp2;go_ret3;exact ⟨xq,xd⟩
            ·rw [if_neg c12] at H;have c12b0:((IntKind.u64.wrap (bt a0 x7_1))==0)=false:=beq_eq_false_iff_ne.mpr c12;have c12b1:((IntKind.u64.wrap (bt a0 x7_1)) != 0)=true:=bne_iff_ne.mpr c12;simp only [Option.some.injEq,Prod.mk.injEq] at H;obtain ⟨rfl,rfl,rfl⟩:=H;go_wp2;go_ret3;exact ⟨xq,xd⟩
           ·rw [if_neg c11] at H;have c11b0:decide (0<x7_1)=false:=decide_eq_false c11;clear c11;simp only [Option.some.injEq,Prod.mk.injEq] at H;obtain ⟨rfl,rfl,rfl⟩:=H;go_wp2;go_ret3;exact ⟨xq,xd⟩
      ·rw [if_neg c5] at H;exact absurd H (by simp)
     ·rw [if_neg c4] at H;exact absurd H (by simp)
   ·rw [if_neg c2] at H;have c2b0:decide (x7_1<10)=false:=decide_eq_false c2;clear c2;simp only [Option.some.injEq,Prod.mk.injEq] at H;obtain ⟨rfl,rfl,rfl⟩:=H;go_wp2;go_ret3;exact ⟨xq,xd⟩
def Bg.f (k:Nat) (a0_0:ByteArray) (a0_1:Int) (a1:Int):Option (ByteArray×Int×Int):=if a0_1=0 then ((BL.f k a0_0).bind λbt468=>(if bt468.2.2=0 then (if bt468.1>(IntKind.u64.wrap (a1)) then (some ((⟨#[]⟩:ByteArray),224,0)) else (if 0<=bt468.2.1 then (if bt468.2.1<=(a0_0.size:Int) then (some (a0_0.extract (bt468.2.1:Int).toNat a0_0.size,0,wrap64 (bt468.1))) else (none)) else (none))) else (some ((⟨#[]⟩:ByteArray),bt468.2.2,0)))) else (some (a0_0,a0_1,0))
theorem Q9 {w W:World} {bs:Bs} {k:Nat} {s:ByteArray} {r1 r2 r3:Int} (S:AA (St w W bs):=by with_reducible assumption) (F:AA (BL.f k s=some (r1,r2,r3)):=by with_reducible assumption):
 Calls Tryz.prog 69 #[.string s] W λe W'=>e= .returned (.tuple #[.int .u64 r1, .int .i64 r2, .int .i64 r3])/\AA (St w W' bs):=St.Uf S (BL.calls k s r1 r2 r3 W F.out)
set_option maxHeartbeats 4000000 in
set_option maxRecDepth 100000 in
theorem Bg.calls (k:Nat) (a0_0:ByteArray) (a0_1:Int) (a1:Int) (r1:ByteArray) (r2:Int) (r3:Int) (w:World) (h:Bg.f k a0_0 a0_1 a1=some (r1,r2,r3)):
 Calls Tryz.prog 43 #[.agg #[.string a0_0, .int .i64 a0_1], .int .i64 a1] w λe w'=>e= .returned (.tuple #[.agg #[.string r1, .int .i64 r2], .int .i64 r3])/\Below w.heap.size w w':=by
 have hu1:=Tryz.underlying88;have hu2:=Tryz.underlying54;have hu3:=Tryz.underlying9;have S:=St.start w;unfold Bg.f at h;by_cases h0:a0_1=0
 ·rw [if_pos h0] at h;have f1:(a0_1 != 0)=false:=by rw [h0];rfl
  obtain ⟨⟨n,at_,e⟩,T,h⟩:=Option.bind_eq_some_iff.1 h;simp only at h;replace T:=AA.mk T;by_cases h1:e=0
  ·rw [if_pos h1] at h;have f2:(e != 0)=false:=by rw [h1];rfl
   by_cases h2:n>IntKind.u64.wrap a1
   ·rw [if_pos h2] at h;simp only [Option.some.injEq,Prod.mk.injEq] at h;obtain ⟨rfl,rfl,rfl⟩:=h;have f3:=decide_eq_true h2;clear h0 h1 h2;go_enter Tryz.func43,Tryz.ntmps43;go_wp2_with (first|(refine Gg (N:=2) #[.string a0_0, .int .i64 a0_1] 88 (λb2 W_ S_=>?_);replace S:=S_;clear S_)|(refine Gg (N:=4) #[.string ⟨#[]⟩, .int .i64 0] 88 (λb4 W_ S_=>?_);replace S:=S_;clear S_)|((with_reducible refine Db rfl ?_);refine Gs ?_)|((with_reducible refine Dr rfl ?_);refine Gh (λW_ S_=>?_);replace S:=S_;clear S_)|(go_at_call 69;refine (Q9).mono ?_;rintro e_ W_ ⟨rfl,S_⟩;replace S:=S_;clear S_));refine bodyPost_ret (DU rfl _ _ b4 88 _ (0,0) _ rfl (S.out.x _ (.head _)).1 Tryz.underlying88 rfl (by kernel_rfl)) rfl ?_;exact ⟨rfl,S.out.b⟩
   ·rw [if_neg h2] at h;have f3:=decide_eq_false h2;split at h;case isFalse=>cases h
    rename_i p1;split at h;case isFalse=>cases h
    rename_i p2;simp only [Option.some.injEq,Prod.mk.injEq] at h;obtain ⟨rfl,rfl,rfl⟩:=h;have q1:=eq_true p1;have q2:=eq_true p2;clear h0 h1 h2 p1 p2;go_enter Tryz.func43,Tryz.ntmps43;go_wp2_with (first|(refine Gg (N:=2) #[.string a0_0, .int .i64 a0_1] 88 (λb2 W_ S_=>?_);replace S:=S_;clear S_)|(refine Gg (N:=4) #[.string ⟨#[]⟩, .int .i64 0] 88 (λb4 W_ S_=>?_);replace S:=S_;clear S_)|((with_reducible refine Db rfl ?_);refine Gs ?_)|((with_reducible refine Dr rfl ?_);refine Gh (λW_ S_=>?_);replace S:=S_;clear S_)|(go_at_call 69;refine (Q9).mono ?_;rintro e_ W_ ⟨rfl,S_⟩;replace S:=S_;clear S_));refine bodyPost_ret (DU rfl _ _ b4 88 _ (0,0) _ rfl (S.out.x _ (.head _)).1 Tryz.underlying88 rfl (by kernel_rfl)) rfl ?_;exact ⟨rfl,S.out.b⟩
  ·rw [if_neg h1] at h;have f2:(e != 0)=true:=bne_iff_ne.2 h1;simp only [Option.some.injEq,Prod.mk.injEq] at h;obtain ⟨rfl,rfl,rfl⟩:=h;clear h0 h1;go_enter Tryz.func43,Tryz.ntmps43;go_wp2_with (first|(refine Gg (N:=2) #[.string a0_0, .int .i64 a0_1] 88 (λb2 W_ S_=>?_);replace S:=S_;clear S_)|(refine Gg (N:=4) #[.string ⟨#[]⟩, .int .i64 0] 88 (λb4 W_ S_=>?_);replace S:=S_;clear S_)|((with_reducible refine Db rfl ?_);refine Gs ?_)|((with_reducible refine Dr rfl ?_);refine Gh (λW_ S_=>?_);replace S:=S_;clear S_)|(go_at_call 69;refine (Q9).mono ?_;rintro e_ W_ ⟨rfl,S_⟩;replace S:=S_;clear S_));refine bodyPost_ret (DU rfl _ _ b4 88 _ (0,0) _ rfl (S.out.x _ (.head _)).1 Tryz.underlying88 rfl (by kernel_rfl)) rfl ?_;exact ⟨rfl,S.out.b⟩
 ·rw [if_neg h0] at h;have f1:(a0_1 != 0)=true:=bne_iff_ne.2 h0;simp only [Option.some.injEq,Prod.mk.injEq] at h;obtain ⟨rfl,rfl,rfl⟩:=h;clear h0;go_enter Tryz.func43,Tryz.ntmps43;go_wp2_with (first|(refine Gg (N:=2) #[.string a0_0, .int .i64 a0_1] 88 (λb2 W_ S_=>?_);replace S:=S_;clear S_)|(refine Gg (N:=4) #[.string ⟨#[]⟩, .int .i64 0] 88 (λb4 W_ S_=>?_);replace S:=S_;clear S_)|((with_reducible refine Db rfl ?_);refine Gs ?_)|((with_reducible refine Db rfl ?_);refine Ke ?_)|((with_reducible refine Dr rfl ?_);refine Gh (λW_ S_=>?_);replace S:=S_;clear S_));refine bodyPost_ret (DU rfl _ _ b4 88 _ (0,0) _ rfl (S.out.x _ (.head _)).1 Tryz.underlying88 rfl (by kernel_rfl)) rfl ?_;exact ⟨rfl,S.out.b⟩
def BU.j0:Nat->Int->Int->ByteArray->ByteArray->ByteArray->ByteArray->Int->Int->Int->Bool->Bool->Bool->Int->Option (Int)
 |0,_,_,_,_,_,_,_,_,_,_,_,_,_=>none
 |k+1,x0,x5,x472000,x472001,x472002,x472003,x472004,x472005,x472006,x472007,x472008,x472009,x472010=>if x472009=true then (if x472007=true then (if x0>=2 then (some ((wrap64 ((wrap64 (x5+2))+4))%256)) else (some ((wrap64 (x5+2))%256))) else (some ((wrap64 (x5+2))%256))) else (if x472007=true then (if x0>=2 then (some ((wrap64 (x5+4))%256)) else (some ((x5)%256))) else (some ((x5)%256)))
def BU.f (k:Nat) (a0:Int) (a1_0:ByteArray) (a1_1:ByteArray) (a1_2:ByteArray) (a1_3:ByteArray) (a1_4:Int) (a1_5:Int) (a1_6:Int) (a1_7:Bool) (a1_8:Bool) (a1_9:Bool) (a1_10:Int):Option (Int):=if a1_8=true then (BU.j0 k a0 (0+1) a1_0 a1_1 a1_2 a1_3 a1_4 a1_5 a1_6 a1_7 a1_8 a1_9 a1_10) else (BU.j0 k a0 0 a1_0 a1_1 a1_2 a1_3 a1_4 a1_5 a1_6 a1_7 a1_8 a1_9 a1_10)
set_option maxHeartbeats 8000000 in
set_option maxRecDepth 100000 in
theorem BU.calls (k:Nat) (a0:Int) (a1_0:ByteArray) (a1_1:ByteArray) (a1_2:ByteArray) (a1_3:ByteArray) (a1_4:Int) (a1_5:Int) (a1_6:Int) (a1_7:Bool) (a1_8:Bool) (a1_9:Bool) (a1_10:Int) (r:Int) (w:World) (h:BU.f k a0 a1_0 a1_1 a1_2 a1_3 a1_4 a1_5 a1_6 a1_7 a1_8 a1_9 a1_10=some r):
 Calls Tryz.prog 63 #[.int .i64 a0, .agg #[.string a1_0, .string a1_1, .string a1_2, .string a1_3, .int .i64 a1_4, .int .i64 a1_5, .int .i64 a1_6, .bool a1_7, .bool a1_8, .bool a1_9, .int .i64 a1_10]] w λe w'=>e= .returned (.int .u8 r)/\Below w.heap.size w w':=by
 have hu25:=Tryz.underlying25;have HB:=AA.mk (Below.refl w.heap.size w);have H:(if a1_8=true then (BU.j0 k a0 (0+1) a1_0 a1_1 a1_2 a1_3 a1_4 a1_5 a1_6 a1_7 a1_8 a1_9 a1_10) else (BU.j0 k a0 0 a1_0 a1_1 a1_2 a1_3 a1_4 a1_5 a1_6 a1_7 a1_8 a1_9 a1_10))=some r:=h;clear h;have HC3:=AA.mk H;clear H;go_enter Tryz.func63,Tryz.ntmps63;go_upto_if 7 with (first|(refine Dp (N:=3) (cs:=#[.string a1_0, .string a1_1, .string a1_2, .string a1_3, .int .i64 a1_4, .int .i64 a1_5, .int .i64 a1_6, .bool a1_7, .bool a1_8, .bool a1_9, .int .i64 a1_10]) (t:=25) (λgb471 hg w4 hbox hb=>?_);have BK471:=AA.mk (hbox);have GW471:AA (w.heap.size<=gb471):=Dq hg xb;have GE471:AA (w.heap.size<=gb471):=Dq hg xb;replace HB:=AA.mk (AO xb hb);clear hb hbox hg;obtain ⟨hcz5_0,hcz5_1,hcz5_2,hcz5_3,hcz5_4,hcz5_5,hcz5_6,hcz5_7,hcz5_8,hcz5_9,hcz5_10⟩:=BK BK471.out;have hfz5_0:=AP BK471.out))
 (try simp only [Act.put,List.setIfInBounds_toArray,List.set_cons_zero,List.set_cons_succ]);go_cut [5] (λv5 wc=>∃ (kq:Nat) (x5_2:Int),v5= .int .i64 x5_2/\AA (BU.j0 kq a0 x5_2 a1_0 a1_1 a1_2 a1_3 a1_4 a1_5 a1_6 a1_7 a1_8 a1_9 a1_10=some r)/\AA (kq<=k)/\AA (wc.heap[gb471]? =some (.cells #[.string a1_0, .string a1_1, .string a1_2, .string a1_3, .int .i64 a1_4, .int .i64 a1_5, .int .i64 a1_6, .bool a1_7, .bool a1_8, .bool a1_9, .int .i64 a1_10] 25 (0,0)))/\AA (Below w.heap.size w wc));case first=>
  have H:=HC3.out;clear HC3;by_cases c6:a1_8=true
  ·subst c6;have H1:(BU.j0 k a0 (0+1) a1_0 a1_1 a1_2 a1_3 a1_4 a1_5 a1_6 a1_7 true a1_9 a1_10)=some r:=by rw [if_pos rfl] at H;exact H
   clear H;have H:=H1;clear H1;have H':=AA.mk H;clear H;go_wp2;go_meet;case rel=>exact ⟨_,(0+1),xq,H',⟨by first|omega|exact Nat.le_refl _⟩,⟨xk⟩,⟨xb⟩⟩
  ·replace c6:=Bool.eq_false_iff.mpr c6;subst c6;have H1:(BU.j0 k a0 0 a1_0 a1_1 a1_2 a1_3 a1_4 a1_5 a1_6 a1_7 false a1_9 a1_10)=some r:=by rw [if_neg (show ¬(false=true) by decide)] at H;exact H
   clear H;have H:=H1;clear H1;have H':=AA.mk H;clear H;go_wp2;go_meet;case rel=>exact ⟨_,(0),xq,H',⟨by first|omega|exact Nat.le_refl _⟩,⟨xk⟩,⟨xb⟩⟩
 case rest=>
  clear HC3;try clear p2
  try clear c6
  try clear hcz5_0
  try clear hcz5_1
  try clear hcz5_10
  try clear hcz5_2
  try clear hcz5_3
  try clear hcz5_4
  try clear hcz5_5
  try clear hcz5_6
  try clear hcz5_7
  try clear hcz5_8
  try clear hcz5_9
  try clear hfz5_0
  obtain ⟨kq,x5_2,rfl,HA,HJ2,BK471,HB⟩:=hcut;cases kq with
  |zero=>exact absurd HA.out (by simp [BU.j0])
  |succ kj2=>
   have H:=HA.out;clear HA;simp only [BU.j0] at H;by_cases c7:a1_9=true
   ·subst c7;have H1:(if a1_7=true then (if a0>=2 then (some ((wrap64 ((wrap64 (x5_2+2))+4))%256)) else (some ((wrap64 (x5_2+2))%256))) else (some ((wrap64 (x5_2+2))%256)))=some r:=by rw [if_pos rfl] at H;exact H
    clear H;have H:=H1;clear H1;by_cases c8:a1_7=true
    ·subst c8;have H1:(if a0>=2 then (some ((wrap64 ((wrap64 (x5_2+2))+4))%256)) else (some ((wrap64 (x5_2+2))%256)))=some r:=by rw [if_pos rfl] at H;exact H
     clear H;have H:=H1;clear H1;by_cases c9:a0>=2
     ·rw [if_pos c9] at H;have c9b0:decide (2<=a0)=true:=decide_eq_true c9;clear c9;obtain rfl:=Option.some.inj H;obtain ⟨hcz10_0,hcz10_1,hcz10_2,hcz10_3,hcz10_4,hcz10_5,hcz10_6,hcz10_7,hcz10_8,hcz10_9,hcz10_10⟩:=BK BK471.out;have hfz10_0:=AP BK471.out;go_wp2;go_ret;exact ⟨xe,xb⟩
     ·rw [if_neg c9] at H;have c9b0:decide (2<=a0)=false:=decide_eq_false c9;clear c9;obtain rfl:=Option.some.inj H;obtain ⟨hcz11_0,hcz11_1,hcz11_2,hcz11_3,hcz11_4,hcz11_5,hcz11_6,hcz11_7,hcz11_8,hcz11_9,hcz11_10⟩:=BK BK471.out;have hfz11_0:=AP BK471.out;go_wp2;go_ret;exact ⟨xe,xb⟩
    ·replace c8:=Bool.eq_false_iff.mpr c8;subst c8;have H1:(some ((wrap64 (x5_2+2))%256))=some r:=by rw [if_neg (show ¬(false=true) by decide)] at H;exact H
     clear H;have H:=H1;clear H1;obtain rfl:=Option.some.inj H;obtain ⟨hcz12_0,hcz12_1,hcz12_2,hcz12_3,hcz12_4,hcz12_5,hcz12_6,hcz12_7,hcz12_8,hcz12_9,hcz12_10⟩:=BK BK471.out;have hfz12_0:=AP BK471.out;go_wp2;go_ret;exact ⟨xe,xb⟩
   ·replace c7:=Bool.eq_false_iff.mpr c7;subst c7;have H1:(if a1_7=true then (if a0>=2 then (some ((wrap64 (x5_2+4))%256)) else (some ((x5_2)%256))) else (some ((x5_2)%256)))=some r:=by rw [if_neg (show ¬(false=true) by decide)] at H;exact H
    clear H;have H:=H1;clear H1;by_cases c13:a1_7=true
    ·subst c13;have H1:(if a0>=2 then (some ((wrap64 (x5_2+4))%256)) else (some ((x5_2)%256)))=some r:=by rw [if_pos rfl] at H;exact H
     clear H;have H:=H1;clear H1;by_cases c14:a0>=2
     ·rw [if_pos c14] at H;have c14b0:decide (2<=a0)=true:=decide_eq_true c14;clear c14;obtain rfl:=Option.some.inj H;obtain ⟨hcz15_0,hcz15_1,hcz15_2,hcz15_3,hcz15_4,hcz15_5,hcz15_6,hcz15_7,hcz15_8,hcz15_9,hcz15_10⟩:=BK BK471.out;have hfz15_0:=AP BK471.out;go_wp2;go_ret;exact ⟨xe,xb⟩
     ·rw [if_neg c14] at H;have c14b0:decide (2<=a0)=false:=decide_eq_false c14;clear c14;obtain rfl:=Option.some.inj H;obtain ⟨hcz16_0,hcz16_1,hcz16_2,hcz16_3,hcz16_4,hcz16_5,hcz16_6,hcz16_7,hcz16_8,hcz16_9,hcz16_10⟩:=BK BK471.out;have hfz16_0:=AP BK471.out;go_wp2;go_ret;exact ⟨xe,xb⟩
    ·replace c13:=Bool.eq_false_iff.mpr c13;subst c13;have H1:(some ((x5_2)%256))=some r:=by rw [if_neg (show ¬(false=true) by decide)] at H;exact H
     clear H;have H:=H1;clear H1;obtain rfl:=Option.some.inj H;obtain ⟨hcz17_0,hcz17_1,hcz17_2,hcz17_3,hcz17_4,hcz17_5,hcz17_6,hcz17_7,hcz17_8,hcz17_9,hcz17_10⟩:=BK BK471.out;have hfz17_0:=AP BK471.out;go_wp2;go_ret;exact ⟨xe,xb⟩
end Go.Proofs.YtfggjdkccdkogaaGreatDoor.Print
