/- The reference's bytes of a token, and of a value, by hand: each class of bytes walked once. -/
import Derived.Test.YtfggjdkccdkogaaGreatDoorGA
import Derived.Test.YtfggjdkccdkogaaGreatDoorPC
section
namespace Go.Proofs.YtfggjdkccdkogaaGreatDoor.Print
open RowKit Ac Aq Aw
set_option linter.unusedVariables false
set_option linter.unusedSimpArgs false
def J7 (c:Int):Bool:=decide (97<=c/\c<=122)||decide (65<=c/\c<=90)||decide (48<=c/\c<=57)||decide (c=33)||decide (35<=c/\c<=39)||decide (c=42)||decide (c=43)||decide (c=45)||decide (c=46)||decide (94<=c/\c<=96)||decide (c=124)||decide (c=126)
def J8 (c:Int):Bool:=decide (33<=c/\c<=126)&& !(decide (c=34)||decide (c=44)||decide (c=59)||decide (c=92))
def Ir (c:Int):Bool:=decide (33<=c/\c<=126)&& !decide (c=59)
theorem LD {P:Int->Prop} (h:∀ n:Fin 256,P (n.val:Int)) {c:Int} (h0:0<=c) (h1:c<256):P c:=by
 have:=h ⟨c.toNat,by omega⟩;rwa [show ((⟨c.toNat,by omega⟩:Fin 256).val:Int)=c by simp;omega] at this
theorem YY {c:Int} (h0:0<=c) (h1:c<256):EE.Ct.f 3 c=some (J7 c):=LD (P:=λc=>EE.Ct.f 3 c=some (J7 c)) (by decide+kernel) h0 h1
theorem YZ {c:Int} (h0:0<=c) (h1:c<256):EE.Fh.f c=some (J8 c):=LD (P:=λc=>EE.Fh.f c=some (J8 c)) (by decide+kernel) h0 h1
theorem V9 {c:Int} (h0:0<=c) (h1:c<256):EE.F7.f c=some (Ir c):=LD (P:=λc=>EE.F7.f c=some (Ir c)) (by decide+kernel) h0 h1
theorem Oh (s:ByteArray) (i:Int):0<=bt s i/\bt s i<256:=by
 unfold bt;split
 ·have:=(s[i.toNat]'(by assumption)).toNat_lt;omega
 ·omega
theorem Rt {s:ByteArray} {k:Nat} (h:k<s.size):(bytesOf s).take (k+1)=(bytesOf s).take k++[bt s k]:=by
 have hl:k<(bytesOf s).length:=by rw [bytesOf_length];exact h
 rw [List.take_add_one,List.getElem?_eq_getElem hl];congr 1;rw [<-KJ];unfold rd;rw [Int.toNat_natCast,List.getD_eq_getElem?_getD,List.getElem?_eq_getElem hl];rfl
theorem Oi {s:ByteArray} {k:Nat} {g:Int->Bool} (h:k<s.size) (ha:((bytesOf s).take k).all g=true) (hc:g (bt s k)=true):((bytesOf s).take (k+1)).all g=true:=by
 rw [Rt h,List.all_append,ha,List.all_cons,hc];rfl
theorem Qx {s:ByteArray} {k:Nat} {g:Int->Bool} (h:k<s.size) (hc:g (bt s k)=false):(bytesOf s).all g=false:=by
 have e:=Rt h;rw [<-List.take_append_drop (k+1) (bytesOf s),List.all_append,e,List.all_append,List.all_cons,hc];simp
theorem Oj {s:ByteArray} {k:Nat} {g:Int->Bool} (h:s.size<=k) (ha:((bytesOf s).take k).all g=true):(bytesOf s).all g=true:=by
 rwa [List.take_of_length_le (by rw [bytesOf_length];exact h)] at ha
set_option maxHeartbeats 4000000 in
set_option maxRecDepth 100000 in
theorem TC (a0:ByteArray) (w:World) (hs:a0.size<=9223372036854775806):
 Calls Tryz.prog 104 #[.string a0, .func (.func 125) #[] #[]] w λe w'=>e= .returned (.bool ((bytesOf a0).all Ir))/\BP w w':=by
 go_enter Tryz.func104,Tryz.ntmps104;go_wp2;go_loopw [8] (λv8 wr=>∃ k:Nat,k<=a0.size/\v8= .int .i64 k/\AA (((bytesOf a0).take k).all Ir=true)/\BP w wr) (λv8 _=>a0.size - (intOf v8).toNat);case atStart=>exact ⟨0,Nat.zero_le _,rfl,⟨rfl⟩,by repeat (first|exact BP.refl _|apply BP.step)⟩
 case round=>
  obtain ⟨k,hk,rfl,HA,⟨m1,rfl⟩⟩:=hrel;by_cases hlt:k<a0.size
  ·have hb:=Oh a0 k;have p1:=eq_true (show 0<=(k:Int) by omega);have q1:=eq_true (show (k:Int)<(a0.size:Int) by omega);have ec:bt a0 (k:Int)=((a0[k]'hlt).toNat:Int):=by simp [bt,hlt]
   have HF:=AA.mk (V9 hb.1 hb.2);clear hb;cases hg:Ir (bt a0 k) with
   |true=>
    rw [hg,ec] at HF;have HY:=AA.mk (Oi hlt HA.out hg);clear hg;go_wp2_with (go_at_call 125;refine (EE.F7.calls (((a0[k]'hlt).toNat:Int)) true _ HF.out).mono ?_;rintro e w2 ⟨rfl,⟨nd,rfl⟩⟩);go_roundw;case rel=>exact ⟨k+1,by omega,by go_num,HY,by repeat (first|exact BP.refl _|apply BP.step)⟩
    case measure=>simp [intOf];omega
   |false=>
    rw [hg,ec] at HF;have HY:=AA.mk (Qx hlt hg);clear hg;go_wp2_with (go_at_call 125;refine (EE.F7.calls (((a0[k]'hlt).toNat:Int)) false _ HF.out).mono ?_;rintro e w2 ⟨rfl,⟨nd,rfl⟩⟩);go_ret;exact ⟨by rw [HY.out];rfl,by repeat (first|exact BP.refl _|apply BP.step)⟩
  ·have HY:=AA.mk (Oj (by omega) HA.out);have hl2:decide ((k:Int)<(a0.size:Int))=false:=decide_eq_false (by omega);have hl3:decide (k<a0.size)=false:=decide_eq_false (by omega);go_wp2;go_ret;exact ⟨by rw [HY.out];rfl,by repeat (first|exact BP.refl _|apply BP.step)⟩
def Fu.f (a0:ByteArray):Option Bool:=if a0.size<=9223372036854775806 then some ((bytesOf a0).all Ir) else none
theorem Fu.calls (a0:ByteArray) (r:Bool) (w:World) (h:Fu.f a0=some r):
 Calls Tryz.prog 103 #[.string a0] w λe w'=>e= .returned (.bool r)/\BP w w':=by
 unfold Fu.f at h;by_cases hs:a0.size<=9223372036854775806
 ·rw [if_pos hs] at h;obtain rfl:=Option.some.inj h;clear h;have HS:=AA.mk hs;clear hs;go_enter Tryz.func103,Tryz.ntmps103;go_wp2_with (go_at_call 104;refine (TC a0 _ HS.out).mono ?_;rintro e w2 ⟨rfl,⟨nd,rfl⟩⟩);go_ret;exact ⟨rfl,by repeat (first|exact BP.refl _|apply BP.step)⟩
 ·rw [if_neg hs] at h;exact absurd h (by simp)
set_option maxHeartbeats 4000000 in
set_option maxRecDepth 100000 in
theorem WA (a0:ByteArray) (w:World) (hs:a0.size<=9223372036854775806):
 Calls Tryz.prog 104 #[.string a0, .func (.func 107) #[] #[]] w λe w'=>e= .returned (.bool ((bytesOf a0).all J8))/\BP w w':=by
 go_enter Tryz.func104,Tryz.ntmps104;go_wp2;go_loopw [8] (λv8 wr=>∃ k:Nat,k<=a0.size/\v8= .int .i64 k/\AA (((bytesOf a0).take k).all J8=true)/\BP w wr) (λv8 _=>a0.size - (intOf v8).toNat);case atStart=>exact ⟨0,Nat.zero_le _,rfl,⟨rfl⟩,by repeat (first|exact BP.refl _|apply BP.step)⟩
 case round=>
  obtain ⟨k,hk,rfl,HA,⟨m1,rfl⟩⟩:=hrel;by_cases hlt:k<a0.size
  ·have hb:=Oh a0 k;have p1:=eq_true (show 0<=(k:Int) by omega);have q1:=eq_true (show (k:Int)<(a0.size:Int) by omega);have ec:bt a0 (k:Int)=((a0[k]'hlt).toNat:Int):=by simp [bt,hlt]
   have HF:=AA.mk (YZ hb.1 hb.2);clear hb;cases hg:J8 (bt a0 k) with
   |true=>
    rw [hg,ec] at HF;have HY:=AA.mk (Oi hlt HA.out hg);clear hg;go_wp2_with (go_at_call 107;refine (EE.Fh.calls (((a0[k]'hlt).toNat:Int)) true _ HF.out).mono ?_;rintro e w2 ⟨rfl,⟨nd,rfl⟩⟩);go_roundw;case rel=>exact ⟨k+1,by omega,by go_num,HY,by repeat (first|exact BP.refl _|apply BP.step)⟩
    case measure=>simp [intOf];omega
   |false=>
    rw [hg,ec] at HF;have HY:=AA.mk (Qx hlt hg);clear hg;go_wp2_with (go_at_call 107;refine (EE.Fh.calls (((a0[k]'hlt).toNat:Int)) false _ HF.out).mono ?_;rintro e w2 ⟨rfl,⟨nd,rfl⟩⟩);go_ret;exact ⟨by rw [HY.out];rfl,by repeat (first|exact BP.refl _|apply BP.step)⟩
  ·have HY:=AA.mk (Oj (by omega) HA.out);have hl2:decide ((k:Int)<(a0.size:Int))=false:=decide_eq_false (by omega);have hl3:decide (k<a0.size)=false:=decide_eq_false (by omega);go_wp2;go_ret;exact ⟨by rw [HY.out];rfl,by repeat (first|exact BP.refl _|apply BP.step)⟩
def EW.f (a0:ByteArray):Option Bool:=if a0.size<=9223372036854775806 then some ((bytesOf a0).all J8) else none
theorem EW.calls (a0:ByteArray) (r:Bool) (w:World) (h:EW.f a0=some r):
 Calls Tryz.prog 80 #[.string a0] w λe w'=>e= .returned (.bool r)/\BP w w':=by
 unfold EW.f at h;by_cases hs:a0.size<=9223372036854775806
 ·rw [if_pos hs] at h;obtain rfl:=Option.some.inj h;clear h;have HS:=AA.mk hs;clear hs;go_enter Tryz.func80,Tryz.ntmps80;go_wp2_with (go_at_call 104;refine (WA a0 _ HS.out).mono ?_;rintro e w2 ⟨rfl,⟨nd,rfl⟩⟩);go_ret;exact ⟨rfl,by repeat (first|exact BP.refl _|apply BP.step)⟩
 ·rw [if_neg hs] at h;exact absurd h (by simp)
set_option maxHeartbeats 4000000 in
set_option maxRecDepth 100000 in
theorem WB (a0:ByteArray) (w:World) (hs:a0.size<=9223372036854775806):
 Calls Tryz.prog 104 #[.string a0, .func (.func 105) #[] #[]] w λe w'=>e= .returned (.bool ((bytesOf a0).all J7))/\BP w w':=by
 go_enter Tryz.func104,Tryz.ntmps104;go_wp2;go_loopw [8] (λv8 wr=>∃ k:Nat,k<=a0.size/\v8= .int .i64 k/\AA (((bytesOf a0).take k).all J7=true)/\BP w wr) (λv8 _=>a0.size - (intOf v8).toNat);case atStart=>exact ⟨0,Nat.zero_le _,rfl,⟨rfl⟩,by repeat (first|exact BP.refl _|apply BP.step)⟩
 case round=>
  obtain ⟨k,hk,rfl,HA,⟨m1,rfl⟩⟩:=hrel;by_cases hlt:k<a0.size
  ·have hb:=Oh a0 k;have p1:=eq_true (show 0<=(k:Int) by omega);have q1:=eq_true (show (k:Int)<(a0.size:Int) by omega);have ec:bt a0 (k:Int)=((a0[k]'hlt).toNat:Int):=by simp [bt,hlt]
   have HF:=AA.mk (YY hb.1 hb.2);clear hb;cases hg:J7 (bt a0 k) with
   |true=>
    rw [hg,ec] at HF;have HY:=AA.mk (Oi hlt HA.out hg);clear hg;go_wp2_with (go_at_call 105;refine (EE.Ct.calls 3 (((a0[k]'hlt).toNat:Int)) true _ HF.out).mono ?_;rintro e w2 ⟨rfl,⟨nd,rfl⟩⟩);go_roundw;case rel=>exact ⟨k+1,by omega,by go_num,HY,by repeat (first|exact BP.refl _|apply BP.step)⟩
    case measure=>simp [intOf];omega
   |false=>
    rw [hg,ec] at HF;have HY:=AA.mk (Qx hlt hg);clear hg;go_wp2_with (go_at_call 105;refine (EE.Ct.calls 3 (((a0[k]'hlt).toNat:Int)) false _ HF.out).mono ?_;rintro e w2 ⟨rfl,⟨nd,rfl⟩⟩);go_ret;exact ⟨by rw [HY.out];rfl,by repeat (first|exact BP.refl _|apply BP.step)⟩
  ·have HY:=AA.mk (Oj (by omega) HA.out);have hl2:decide ((k:Int)<(a0.size:Int))=false:=decide_eq_false (by omega);have hl3:decide (k<a0.size)=false:=decide_eq_false (by omega);go_wp2;go_ret;exact ⟨by rw [HY.out];rfl,by repeat (first|exact BP.refl _|apply BP.step)⟩
def Es.f (a0:ByteArray):Option Bool:=if a0.size<=9223372036854775806 then some (!decide (a0.toList=([]:List UInt8))&&(bytesOf a0).all J7) else none
theorem Es.calls (a0:ByteArray) (r:Bool) (w:World) (h:Es.f a0=some r):
 Calls Tryz.prog 79 #[.string a0] w λe w'=>e= .returned (.bool r)/\BP w w':=by
 unfold Es.f at h;by_cases hs:a0.size<=9223372036854775806
 ·rw [if_pos hs] at h;obtain rfl:=Option.some.inj h;clear h;have HS:=AA.mk hs;clear hs;by_cases hz:a0.toList=([]:List UInt8)
  ·have h1:(a0.toList != ([]:List UInt8))=false:=by rw [hz];rfl
   go_enter Tryz.func79,Tryz.ntmps79;go_wp2;go_ret;exact ⟨by rw [decide_eq_true hz];rfl,by repeat (first|exact BP.refl _|apply BP.step)⟩
  ·have h1:(a0.toList != ([]:List UInt8))=true:=by simpa using hz
   have h2:a0.toList.isEmpty=false:=by simpa using hz
   go_enter Tryz.func79,Tryz.ntmps79;go_wp2_with (go_at_call 104;refine (WB a0 _ HS.out).mono ?_;rintro e w2 ⟨rfl,⟨nd,rfl⟩⟩);go_ret;exact ⟨by rw [decide_eq_false hz];simp [h2],by repeat (first|exact BP.refl _|apply BP.step)⟩
 ·rw [if_neg hs] at h;exact absurd h (by simp)
def Nu (m x:Int):Bool:=decide (0<=x)&&decide (x<=m)
theorem Ol {m x:Int} (h:0<=x/\x<=m):Nu m x=true:=by unfold Nu;rw [decide_eq_true h.1,decide_eq_true h.2];rfl
theorem Xo {m x:Int} (h:¬(0<=x/\x<=m)):Nu m x=false:=by
 unfold Nu;by_cases a:0<=x
 ·rw [decide_eq_false (p:=x<=m) (λb=>h ⟨a,b⟩)];simp
 ·rw [decide_eq_false a];rfl
theorem Js {m x a b c:Int} (hx:x=a\/x=b\/x=c) (h:¬(0<=x/\x<=m)):(Nu m a&&(Nu m b&&Nu m c))=false:=by
 have:=Xo h;rcases hx with rfl|rfl|rfl<;>rw [this]<;>simp
def Er.f (m a b c:Int):Option Bool:=some (Nu m a&&(Nu m b&&Nu m c))
set_option maxHeartbeats 4000000 in
set_option maxRecDepth 100000 in
theorem Er.calls (m a b c:Int) (r:Bool) (w:World) (h:Er.f m a b c=some r):
 Calls Tryz.prog 81 #[.int .i64 m, .agg #[.int .i64 a, .int .i64 b, .int .i64 c]] w λe w'=>e= .returned (.bool r)/\Below w.heap.size w w':=by
 obtain rfl:=Option.some.inj h;clear h;have hu:=Tryz.underlying124;have hi0:∀ W:World,(Instr.index 124 (.agg #[.int .i64 a, .int .i64 b, .int .i64 c]) (.int .i64 0)).run Tryz.prog W= .ok (.int .i64 a) W:=λW=>by rfl
 have hi1:∀ W:World,(Instr.index 124 (.agg #[.int .i64 a, .int .i64 b, .int .i64 c]) (.int .i64 1)).run Tryz.prog W= .ok (.int .i64 b) W:=λW=>by rfl
 have hi2:∀ W:World,(Instr.index 124 (.agg #[.int .i64 a, .int .i64 b, .int .i64 c]) (.int .i64 2)).run Tryz.prog W= .ok (.int .i64 c) W:=λW=>by rfl
 go_enter Tryz.func81,Tryz.ntmps81;go_wp2;go_loopw [8] (λv8 wr=>∃ k:Nat,v8= .int .i64 k/\AA (k<=3)/\AA ((0<k->0<=a/\a<=m)/\(1<k->0<=b/\b<=m)/\(2<k->0<=c/\c<=m))/\wr=w.alloc (.cells #[.int .i64 a, .int .i64 b, .int .i64 c] 124)) (λv8 _=>3 - (intOf v8).toNat);case atStart=>exact ⟨0,rfl,⟨by omega⟩,⟨by omega⟩,rfl⟩
 case round=>
  obtain ⟨k,rfl,HK,HA,rfl⟩:=hrel;have hk:=HK.out
  match k,hk,HK,HA with
  |0,_,HK,HA=>
   by_cases h0:a<0
   ·have d0:decide (a<0)=true:=decide_eq_true h0;have HY:=AA.mk (Js (m:=m) (x:=a) (a:=a) (b:=b) (c:=c) (by exact .inl rfl) (by omega));clear h0;go_wp2;go_ret;exact ⟨by rw [HY.out];rfl,Bu (Below.refl _ _) _⟩
   ·by_cases h1:m<a
    ·have d0:decide (a<0)=false:=decide_eq_false h0;have d1:decide (m<a)=true:=decide_eq_true h1;have HY:=AA.mk (Js (m:=m) (x:=a) (a:=a) (b:=b) (c:=c) (by exact .inl rfl) (by omega));clear h0 h1;go_wp2;go_ret;exact ⟨by rw [HY.out];rfl,Bu (Below.refl _ _) _⟩
    ·have d0:decide (a<0)=false:=decide_eq_false h0;have d1:decide (m<a)=false:=decide_eq_false h1;have HY:=AA.mk (show 0<=a/\a<=m by omega);clear h0 h1;go_wp2;go_roundw;case rel=>exact ⟨1,rfl,⟨by omega⟩,⟨⟨λ_=>HY.out,by omega,by omega⟩⟩,by first|rfl|trivial⟩
     case measure=>simp [intOf]
  |1,_,HK,HA=>
   by_cases h0:b<0
   ·have d0:decide (b<0)=true:=decide_eq_true h0;have HY:=AA.mk (Js (m:=m) (x:=b) (a:=a) (b:=b) (c:=c) (by exact .inr (.inl rfl)) (by omega));clear h0;go_wp2;go_ret;exact ⟨by rw [HY.out];rfl,Bu (Below.refl _ _) _⟩
   ·by_cases h1:m<b
    ·have d0:decide (b<0)=false:=decide_eq_false h0;have d1:decide (m<b)=true:=decide_eq_true h1;have HY:=AA.mk (Js (m:=m) (x:=b) (a:=a) (b:=b) (c:=c) (by exact .inr (.inl rfl)) (by omega));clear h0 h1;go_wp2;go_ret;exact ⟨by rw [HY.out];rfl,Bu (Below.refl _ _) _⟩
    ·have d0:decide (b<0)=false:=decide_eq_false h0;have d1:decide (m<b)=false:=decide_eq_false h1;have HY:=AA.mk (show 0<=b/\b<=m by omega);clear h0 h1;go_wp2;go_roundw;case rel=>exact ⟨2,rfl,⟨by omega⟩,⟨⟨λ_=>HA.out.1 (by omega),λ_=>HY.out,by omega⟩⟩,by first|rfl|trivial⟩
     case measure=>simp [intOf]
  |2,_,HK,HA=>
   by_cases h0:c<0
   ·have d0:decide (c<0)=true:=decide_eq_true h0;have HY:=AA.mk (Js (m:=m) (x:=c) (a:=a) (b:=b) (c:=c) (by exact .inr (.inr rfl)) (by omega));clear h0;go_wp2;go_ret;exact ⟨by rw [HY.out];rfl,Bu (Below.refl _ _) _⟩
   ·by_cases h1:m<c
    ·have d0:decide (c<0)=false:=decide_eq_false h0;have d1:decide (m<c)=true:=decide_eq_true h1;have HY:=AA.mk (Js (m:=m) (x:=c) (a:=a) (b:=b) (c:=c) (by exact .inr (.inr rfl)) (by omega));clear h0 h1;go_wp2;go_ret;exact ⟨by rw [HY.out];rfl,Bu (Below.refl _ _) _⟩
    ·have d0:decide (c<0)=false:=decide_eq_false h0;have d1:decide (m<c)=false:=decide_eq_false h1;have HY:=AA.mk (show 0<=c/\c<=m by omega);clear h0 h1;go_wp2;go_roundw;case rel=>exact ⟨3,rfl,⟨by omega⟩,⟨⟨λ_=>HA.out.1 (by omega),λ_=>HA.out.2.1 (by omega),λ_=>HY.out⟩⟩,by first|rfl|trivial⟩
     case measure=>simp [intOf]
  |3,_,HK,HA=>
   have HY:=AA.mk (show (Nu m a&&(Nu m b&&Nu m c))=true by rw [Ol (HA.out.1 (by omega)),Ol (HA.out.2.1 (by omega)),Ol (HA.out.2.2 (by omega))];rfl);go_wp2;go_ret;exact ⟨by rw [HY.out];rfl,Bu (Below.refl _ _) _⟩
end Go.Proofs.YtfggjdkccdkogaaGreatDoor.Print
end
section
namespace Go.Proofs.YtfggjdkccdkogaaGreatDoor.Print
open RowKit Ac Aq Aw
set_option linter.unusedVariables false
set_option linter.unusedSimpArgs false
def EZ.f (a:Int):Option Bool:=some (J7 a)
set_option maxHeartbeats 4000000 in
theorem EZ.calls (a:Int) (r:Bool) (w:World) (h:EZ.f a=some r):Calls Tryz.prog 118 #[.int .u8 a] w λe w'=>e= .returned (.bool r)/\BP w w':=by
 obtain rfl:=Option.some.inj h;have hc:(65<=a/\a<=90)\/(97<=a/\a<=122)\/(48<=a/\a<=57)\/(a=33)\/(35<=a/\a<=39)\/(a=42)\/(a=43)\/(a=45)\/(a=46)\/(94<=a/\a<=96)\/(a=124)\/(a=126)\/(a<33)\/(a=34)\/(40<=a/\a<=41)\/(a=44)\/(a=47)\/(58<=a/\a<=64)\/(91<=a/\a<=93)\/(a=123)\/(a=125)\/(126<a):=by omega
 rcases hc with hc|hc|hc|hc|hc|hc|hc|hc|hc|hc|hc|hc|hc|hc|hc|hc|hc|hc|hc|hc|hc|hc
 all_goals
  first|have hv:J7 a=true:=(by unfold J7;simp;omega)|have hv:J7 a=false:=(by unfold J7;simp;omega)
  have HV:=AA.mk hv;clear hv;first|have t1:decide (65<=a)=true:=decide_eq_true (by omega)|have t1:decide (65<=a)=false:=decide_eq_false (by omega)
  first|have t2:decide (a<=90)=true:=decide_eq_true (by omega)|have t2:decide (a<=90)=false:=decide_eq_false (by omega)
  first|have t3:decide (97<=a)=true:=decide_eq_true (by omega)|have t3:decide (97<=a)=false:=decide_eq_false (by omega)
  first|have t4:decide (a<=122)=true:=decide_eq_true (by omega)|have t4:decide (a<=122)=false:=decide_eq_false (by omega)
  first|have t5:decide (48<=a)=true:=decide_eq_true (by omega)|have t5:decide (48<=a)=false:=decide_eq_false (by omega)
  first|have t6:decide (a<=57)=true:=decide_eq_true (by omega)|have t6:decide (a<=57)=false:=decide_eq_false (by omega)
  first|have t7:decide (35<=a)=true:=decide_eq_true (by omega)|have t7:decide (35<=a)=false:=decide_eq_false (by omega)
  first|have t8:decide (a<=39)=true:=decide_eq_true (by omega)|have t8:decide (a<=39)=false:=decide_eq_false (by omega)
  first|have t9:decide (94<=a)=true:=decide_eq_true (by omega)|have t9:decide (94<=a)=false:=decide_eq_false (by omega)
  first|have t10:decide (a<=96)=true:=decide_eq_true (by omega)|have t10:decide (a<=96)=false:=decide_eq_false (by omega)
  (first|(have t11:(a==33)=true:=beq_iff_eq.mpr (by omega);have s11:(a != 33)=false:=bne_eq_false_iff_eq.mpr (by omega))|(have t11:(a==33)=false:=beq_eq_false_iff_ne.mpr (by omega);have s11:(a != 33)=true:=bne_iff_ne.mpr (by omega)));(first|(have t12:(a==42)=true:=beq_iff_eq.mpr (by omega);have s12:(a != 42)=false:=bne_eq_false_iff_eq.mpr (by omega))|(have t12:(a==42)=false:=beq_eq_false_iff_ne.mpr (by omega);have s12:(a != 42)=true:=bne_iff_ne.mpr (by omega)));(first|(have t13:(a==43)=true:=beq_iff_eq.mpr (by omega);have s13:(a != 43)=false:=bne_eq_false_iff_eq.mpr (by omega))|(have t13:(a==43)=false:=beq_eq_false_iff_ne.mpr (by omega);have s13:(a != 43)=true:=bne_iff_ne.mpr (by omega)));(first|(have t14:(a==45)=true:=beq_iff_eq.mpr (by omega);have s14:(a != 45)=false:=bne_eq_false_iff_eq.mpr (by omega))|(have t14:(a==45)=false:=beq_eq_false_iff_ne.mpr (by omega);have s14:(a != 45)=true:=bne_iff_ne.mpr (by omega)));(first|(have t15:(a==46)=true:=beq_iff_eq.mpr (by omega);have s15:(a != 46)=false:=bne_eq_false_iff_eq.mpr (by omega))|(have t15:(a==46)=false:=beq_eq_false_iff_ne.mpr (by omega);have s15:(a != 46)=true:=bne_iff_ne.mpr (by omega)));(first|(have t16:(a==124)=true:=beq_iff_eq.mpr (by omega);have s16:(a != 124)=false:=bne_eq_false_iff_eq.mpr (by omega))|(have t16:(a==124)=false:=beq_eq_false_iff_ne.mpr (by omega);have s16:(a != 124)=true:=bne_iff_ne.mpr (by omega)));(first|(have t17:(a==126)=true:=beq_iff_eq.mpr (by omega);have s17:(a != 126)=false:=bne_eq_false_iff_eq.mpr (by omega))|(have t17:(a==126)=false:=beq_eq_false_iff_ne.mpr (by omega);have s17:(a != 126)=true:=bne_iff_ne.mpr (by omega)));clear hc;go_enter Tryz.func118,Tryz.ntmps118;go_wp2;go_ret;exact ⟨by rw [HV.out];rfl,by repeat (first|exact BP.refl _|apply BP.step)⟩
def ES.f (a:Int):Option Bool:=some (J8 a)
set_option maxHeartbeats 4000000 in
theorem ES.calls (a:Int) (r:Bool) (w:World) (h:ES.f a=some r):Calls Tryz.prog 119 #[.int .u8 a] w λe w'=>e= .returned (.bool r)/\BP w w':=by
 obtain rfl:=Option.some.inj h;have hc:(a=33)\/(35<=a/\a<=43)\/(45<=a/\a<=58)\/(60<=a/\a<=91)\/(93<=a/\a<=126)\/(a<33)\/(a=34)\/(a=44)\/(a=59)\/(a=92)\/(126<a):=by omega
 rcases hc with hc|hc|hc|hc|hc|hc|hc|hc|hc|hc|hc
 all_goals
  first|have hv:J8 a=true:=(by unfold J8;simp;omega)|have hv:J8 a=false:=(by unfold J8;simp;omega)
  have HV:=AA.mk hv;clear hv;(first|(have t1:(a==33)=true:=beq_iff_eq.mpr (by omega);have s1:(a != 33)=false:=bne_eq_false_iff_eq.mpr (by omega))|(have t1:(a==33)=false:=beq_eq_false_iff_ne.mpr (by omega);have s1:(a != 33)=true:=bne_iff_ne.mpr (by omega)));first|have t2:decide (35<=a)=true:=decide_eq_true (by omega)|have t2:decide (35<=a)=false:=decide_eq_false (by omega)
  first|have t3:decide (a<=43)=true:=decide_eq_true (by omega)|have t3:decide (a<=43)=false:=decide_eq_false (by omega)
  first|have t4:decide (45<=a)=true:=decide_eq_true (by omega)|have t4:decide (45<=a)=false:=decide_eq_false (by omega)
  first|have t5:decide (a<=58)=true:=decide_eq_true (by omega)|have t5:decide (a<=58)=false:=decide_eq_false (by omega)
  first|have t6:decide (60<=a)=true:=decide_eq_true (by omega)|have t6:decide (60<=a)=false:=decide_eq_false (by omega)
  first|have t7:decide (a<=91)=true:=decide_eq_true (by omega)|have t7:decide (a<=91)=false:=decide_eq_false (by omega)
  first|have t8:decide (93<=a)=true:=decide_eq_true (by omega)|have t8:decide (93<=a)=false:=decide_eq_false (by omega)
  first|have t9:decide (a<=126)=true:=decide_eq_true (by omega)|have t9:decide (a<=126)=false:=decide_eq_false (by omega)
  clear hc;go_enter Tryz.func119,Tryz.ntmps119;go_wp2;go_ret;exact ⟨by rw [HV.out];rfl,by repeat (first|exact BP.refl _|apply BP.step)⟩
end Go.Proofs.YtfggjdkccdkogaaGreatDoor.Print
end
