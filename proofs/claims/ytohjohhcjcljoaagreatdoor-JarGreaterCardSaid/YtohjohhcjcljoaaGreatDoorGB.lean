/- The reference's bytes of a token, and of a value, by hand: each class of bytes walked once. -/
import Derived.Test.YtohjohhcjcljoaaGreatDoorGA
import Derived.Test.YtohjohhcjcljoaaGreatDoorPC
section
namespace Go.Proofs.YtohjohhcjcljoaaGreatDoor.Print
open RowKit Ak BR BS
set_option linter.unusedVariables false
set_option linter.unusedSimpArgs false
def I4 (c:Int):Bool:=decide (97<=c/\c<=122)||decide (65<=c/\c<=90)||decide (48<=c/\c<=57)||decide (c=33)||decide (35<=c/\c<=39)||decide (c=42)||decide (c=43)||decide (c=45)||decide (c=46)||decide (94<=c/\c<=96)||decide (c=124)||decide (c=126)
def I5 (c:Int):Bool:=decide (33<=c/\c<=126)&& !(decide (c=34)||decide (c=44)||decide (c=59)||decide (c=92))
def Ho (c:Int):Bool:=decide (33<=c/\c<=126)&& !decide (c=59)
theorem Kr {P:Int->Prop} (h:∀ n:Fin 256,P (n.val:Int)) {c:Int} (h0:0<=c) (h1:c<256):P c:=by
 have:=h ⟨c.toNat,by omega⟩;rwa [show ((⟨c.toNat,by omega⟩:Fin 256).val:Int)=c by simp;omega] at this
theorem Ut {c:Int} (h0:0<=c) (h1:c<256):CQ.Cc.f 3 c=some (I4 c):=Kr (P:=λc=>CQ.Cc.f 3 c=some (I4 c)) (by decide+kernel) h0 h1
theorem Uu {c:Int} (h0:0<=c) (h1:c<256):CQ.Ey.f c=some (I5 c):=Kr (P:=λc=>CQ.Ey.f c=some (I5 c)) (by decide+kernel) h0 h1
theorem SG {c:Int} (h0:0<=c) (h1:c<256):CQ.FO.f c=some (Ho c):=Kr (P:=λc=>CQ.FO.f c=some (Ho c)) (by decide+kernel) h0 h1
theorem ML (s:ByteArray) (i:Int):0<=bt s i/\bt s i<256:=by
 unfold bt;split
 ·have:=(s[i.toNat]'(by assumption)).toNat_lt;omega
 ·omega
theorem PO {s:ByteArray} {k:Nat} (h:k<s.size):(bytesOf s).take (k+1)=(bytesOf s).take k++[bt s k]:=by
 have hl:k<(bytesOf s).length:=by rw [bytesOf_length];exact h
 rw [List.take_add_one,List.getElem?_eq_getElem hl];congr 1;rw [<-K8];unfold rd;rw [Int.toNat_natCast,List.getD_eq_getElem?_getD,List.getElem?_eq_getElem hl];rfl
theorem MM {s:ByteArray} {k:Nat} {g:Int->Bool} (h:k<s.size) (ha:((bytesOf s).take k).all g=true) (hc:g (bt s k)=true):((bytesOf s).take (k+1)).all g=true:=by
 rw [PO h,List.all_append,ha,List.all_cons,hc];rfl
theorem OZ {s:ByteArray} {k:Nat} {g:Int->Bool} (h:k<s.size) (hc:g (bt s k)=false):(bytesOf s).all g=false:=by
 have e:=PO h;rw [<-List.take_append_drop (k+1) (bytesOf s),List.all_append,e,List.all_append,List.all_cons,hc];simp
theorem MN {s:ByteArray} {k:Nat} {g:Int->Bool} (h:s.size<=k) (ha:((bytesOf s).take k).all g=true):(bytesOf s).all g=true:=by
 rwa [List.take_of_length_le (by rw [bytesOf_length];exact h)] at ha
set_option maxHeartbeats 4000000 in
set_option maxRecDepth 100000 in
theorem QA (a0:ByteArray) (w:World) (hs:a0.size<=9223372036854775806):
 Calls Tryz.prog 77 #[.string a0, .func (.func 98) #[] #[]] w λe w'=>e= .returned (.bool ((bytesOf a0).all Ho))/\Be w w':=by
 go_enter Tryz.func77,Tryz.ntmps77;go_wp2;go_loopw [8] (λv8 wr=>∃ k:Nat,k<=a0.size/\v8= .int .i64 k/\AA (((bytesOf a0).take k).all Ho=true)/\Be w wr) (λv8 _=>a0.size - (intOf v8).toNat);case atStart=>exact ⟨0,Nat.zero_le _,rfl,⟨rfl⟩,by repeat (first|exact Be.refl _|apply Be.step)⟩
 case round=>
  obtain ⟨k,hk,rfl,HA,⟨m1,rfl⟩⟩:=hrel;by_cases hlt:k<a0.size
  ·have hb:=ML a0 k;have p1:=eq_true (show 0<=(k:Int) by omega);have q1:=eq_true (show (k:Int)<(a0.size:Int) by omega);have ec:bt a0 (k:Int)=((a0[k]'hlt).toNat:Int):=by simp [bt,hlt]
   have HF:=AA.mk (SG hb.1 hb.2);clear hb;cases hg:Ho (bt a0 k) with
   |true=>
    rw [hg,ec] at HF;have HY:=AA.mk (MM hlt HA.out hg);clear hg;go_wp2_with (go_at_call 98;refine (CQ.FO.calls (((a0[k]'hlt).toNat:Int)) true _ HF.out).mono ?_;rintro e w2 ⟨rfl,⟨nd,rfl⟩⟩);go_roundw;case rel=>exact ⟨k+1,by omega,by go_num,HY,by repeat (first|exact Be.refl _|apply Be.step)⟩
    case measure=>simp [intOf];omega
   |false=>
    rw [hg,ec] at HF;have HY:=AA.mk (OZ hlt hg);clear hg;go_wp2_with (go_at_call 98;refine (CQ.FO.calls (((a0[k]'hlt).toNat:Int)) false _ HF.out).mono ?_;rintro e w2 ⟨rfl,⟨nd,rfl⟩⟩);go_ret;exact ⟨by rw [HY.out];rfl,by repeat (first|exact Be.refl _|apply Be.step)⟩
  ·have HY:=AA.mk (MN (by omega) HA.out);have hl2:decide ((k:Int)<(a0.size:Int))=false:=decide_eq_false (by omega);have hl3:decide (k<a0.size)=false:=decide_eq_false (by omega);go_wp2;go_ret;exact ⟨by rw [HY.out];rfl,by repeat (first|exact Be.refl _|apply Be.step)⟩
def FB.f (a0:ByteArray):Option Bool:=if a0.size<=9223372036854775806 then some ((bytesOf a0).all Ho) else none
theorem FB.calls (a0:ByteArray) (r:Bool) (w:World) (h:FB.f a0=some r):
 Calls Tryz.prog 76 #[.string a0] w λe w'=>e= .returned (.bool r)/\Be w w':=by
 unfold FB.f at h;by_cases hs:a0.size<=9223372036854775806
 ·rw [if_pos hs] at h;obtain rfl:=Option.some.inj h;clear h;have HS:=AA.mk hs;clear hs;go_enter Tryz.func76,Tryz.ntmps76;go_wp2_with (go_at_call 77;refine (QA a0 _ HS.out).mono ?_;rintro e w2 ⟨rfl,⟨nd,rfl⟩⟩);go_ret;exact ⟨rfl,by repeat (first|exact Be.refl _|apply Be.step)⟩
 ·rw [if_neg hs] at h;exact absurd h (by simp)
set_option maxHeartbeats 4000000 in
set_option maxRecDepth 100000 in
theorem SH (a0:ByteArray) (w:World) (hs:a0.size<=9223372036854775806):
 Calls Tryz.prog 77 #[.string a0, .func (.func 80) #[] #[]] w λe w'=>e= .returned (.bool ((bytesOf a0).all I5))/\Be w w':=by
 go_enter Tryz.func77,Tryz.ntmps77;go_wp2;go_loopw [8] (λv8 wr=>∃ k:Nat,k<=a0.size/\v8= .int .i64 k/\AA (((bytesOf a0).take k).all I5=true)/\Be w wr) (λv8 _=>a0.size - (intOf v8).toNat);case atStart=>exact ⟨0,Nat.zero_le _,rfl,⟨rfl⟩,by repeat (first|exact Be.refl _|apply Be.step)⟩
 case round=>
  obtain ⟨k,hk,rfl,HA,⟨m1,rfl⟩⟩:=hrel;by_cases hlt:k<a0.size
  ·have hb:=ML a0 k;have p1:=eq_true (show 0<=(k:Int) by omega);have q1:=eq_true (show (k:Int)<(a0.size:Int) by omega);have ec:bt a0 (k:Int)=((a0[k]'hlt).toNat:Int):=by simp [bt,hlt]
   have HF:=AA.mk (Uu hb.1 hb.2);clear hb;cases hg:I5 (bt a0 k) with
   |true=>
    rw [hg,ec] at HF;have HY:=AA.mk (MM hlt HA.out hg);clear hg;go_wp2_with (go_at_call 80;refine (CQ.Ey.calls (((a0[k]'hlt).toNat:Int)) true _ HF.out).mono ?_;rintro e w2 ⟨rfl,⟨nd,rfl⟩⟩);go_roundw;case rel=>exact ⟨k+1,by omega,by go_num,HY,by repeat (first|exact Be.refl _|apply Be.step)⟩
    case measure=>simp [intOf];omega
   |false=>
    rw [hg,ec] at HF;have HY:=AA.mk (OZ hlt hg);clear hg;go_wp2_with (go_at_call 80;refine (CQ.Ey.calls (((a0[k]'hlt).toNat:Int)) false _ HF.out).mono ?_;rintro e w2 ⟨rfl,⟨nd,rfl⟩⟩);go_ret;exact ⟨by rw [HY.out];rfl,by repeat (first|exact Be.refl _|apply Be.step)⟩
  ·have HY:=AA.mk (MN (by omega) HA.out);have hl2:decide ((k:Int)<(a0.size:Int))=false:=decide_eq_false (by omega);have hl3:decide (k<a0.size)=false:=decide_eq_false (by omega);go_wp2;go_ret;exact ⟨by rw [HY.out];rfl,by repeat (first|exact Be.refl _|apply Be.step)⟩
def D8.f (a0:ByteArray):Option Bool:=if a0.size<=9223372036854775806 then some ((bytesOf a0).all I5) else none
theorem D8.calls (a0:ByteArray) (r:Bool) (w:World) (h:D8.f a0=some r):
 Calls Tryz.prog 59 #[.string a0] w λe w'=>e= .returned (.bool r)/\Be w w':=by
 unfold D8.f at h;by_cases hs:a0.size<=9223372036854775806
 ·rw [if_pos hs] at h;obtain rfl:=Option.some.inj h;clear h;have HS:=AA.mk hs;clear hs;go_enter Tryz.func59,Tryz.ntmps59;go_wp2_with (go_at_call 77;refine (SH a0 _ HS.out).mono ?_;rintro e w2 ⟨rfl,⟨nd,rfl⟩⟩);go_ret;exact ⟨rfl,by repeat (first|exact Be.refl _|apply Be.step)⟩
 ·rw [if_neg hs] at h;exact absurd h (by simp)
set_option maxHeartbeats 4000000 in
set_option maxRecDepth 100000 in
theorem SI (a0:ByteArray) (w:World) (hs:a0.size<=9223372036854775806):
 Calls Tryz.prog 77 #[.string a0, .func (.func 78) #[] #[]] w λe w'=>e= .returned (.bool ((bytesOf a0).all I4))/\Be w w':=by
 go_enter Tryz.func77,Tryz.ntmps77;go_wp2;go_loopw [8] (λv8 wr=>∃ k:Nat,k<=a0.size/\v8= .int .i64 k/\AA (((bytesOf a0).take k).all I4=true)/\Be w wr) (λv8 _=>a0.size - (intOf v8).toNat);case atStart=>exact ⟨0,Nat.zero_le _,rfl,⟨rfl⟩,by repeat (first|exact Be.refl _|apply Be.step)⟩
 case round=>
  obtain ⟨k,hk,rfl,HA,⟨m1,rfl⟩⟩:=hrel;by_cases hlt:k<a0.size
  ·have hb:=ML a0 k;have p1:=eq_true (show 0<=(k:Int) by omega);have q1:=eq_true (show (k:Int)<(a0.size:Int) by omega);have ec:bt a0 (k:Int)=((a0[k]'hlt).toNat:Int):=by simp [bt,hlt]
   have HF:=AA.mk (Ut hb.1 hb.2);clear hb;cases hg:I4 (bt a0 k) with
   |true=>
    rw [hg,ec] at HF;have HY:=AA.mk (MM hlt HA.out hg);clear hg;go_wp2_with (go_at_call 78;refine (CQ.Cc.calls 3 (((a0[k]'hlt).toNat:Int)) true _ HF.out).mono ?_;rintro e w2 ⟨rfl,⟨nd,rfl⟩⟩);go_roundw;case rel=>exact ⟨k+1,by omega,by go_num,HY,by repeat (first|exact Be.refl _|apply Be.step)⟩
    case measure=>simp [intOf];omega
   |false=>
    rw [hg,ec] at HF;have HY:=AA.mk (OZ hlt hg);clear hg;go_wp2_with (go_at_call 78;refine (CQ.Cc.calls 3 (((a0[k]'hlt).toNat:Int)) false _ HF.out).mono ?_;rintro e w2 ⟨rfl,⟨nd,rfl⟩⟩);go_ret;exact ⟨by rw [HY.out];rfl,by repeat (first|exact Be.refl _|apply Be.step)⟩
  ·have HY:=AA.mk (MN (by omega) HA.out);have hl2:decide ((k:Int)<(a0.size:Int))=false:=decide_eq_false (by omega);have hl3:decide (k<a0.size)=false:=decide_eq_false (by omega);go_wp2;go_ret;exact ⟨by rw [HY.out];rfl,by repeat (first|exact Be.refl _|apply Be.step)⟩
def EP.f (a0:ByteArray):Option Bool:=if a0.size<=9223372036854775806 then some (!decide (a0.toList=([]:List UInt8))&&(bytesOf a0).all I4) else none
theorem EP.calls (a0:ByteArray) (r:Bool) (w:World) (h:EP.f a0=some r):
 Calls Tryz.prog 58 #[.string a0] w λe w'=>e= .returned (.bool r)/\Be w w':=by
 unfold EP.f at h;by_cases hs:a0.size<=9223372036854775806
 ·rw [if_pos hs] at h;obtain rfl:=Option.some.inj h;clear h;have HS:=AA.mk hs;clear hs;by_cases hz:a0.toList=([]:List UInt8)
  ·have h1:(a0.toList != ([]:List UInt8))=false:=by rw [hz];rfl
   go_enter Tryz.func58,Tryz.ntmps58;go_wp2;go_ret;exact ⟨by rw [decide_eq_true hz];rfl,by repeat (first|exact Be.refl _|apply Be.step)⟩
  ·have h1:(a0.toList != ([]:List UInt8))=true:=by simpa using hz
   have h2:a0.toList.isEmpty=false:=by simpa using hz
   go_enter Tryz.func58,Tryz.ntmps58;go_wp2_with (go_at_call 77;refine (SI a0 _ HS.out).mono ?_;rintro e w2 ⟨rfl,⟨nd,rfl⟩⟩);go_ret;exact ⟨by rw [decide_eq_false hz];simp [h2],by repeat (first|exact Be.refl _|apply Be.step)⟩
 ·rw [if_neg hs] at h;exact absurd h (by simp)
def NH (m x:Int):Bool:=decide (0<=x)&&decide (x<=m)
theorem MO {m x:Int} (h:0<=x/\x<=m):NH m x=true:=by unfold NH;rw [decide_eq_true h.1,decide_eq_true h.2];rfl
theorem UF {m x:Int} (h:¬(0<=x/\x<=m)):NH m x=false:=by
 unfold NH;by_cases a:0<=x
 ·rw [decide_eq_false (p:=x<=m) (λb=>h ⟨a,b⟩)];simp
 ·rw [decide_eq_false a];rfl
theorem Ik {m x a b c:Int} (hx:x=a\/x=b\/x=c) (h:¬(0<=x/\x<=m)):(NH m a&&(NH m b&&NH m c))=false:=by
 have:=UF h;rcases hx with rfl|rfl|rfl<;>rw [this]<;>simp
def EL.f (m a b c:Int):Option Bool:=some (NH m a&&(NH m b&&NH m c))
set_option maxHeartbeats 4000000 in
set_option maxRecDepth 100000 in
theorem EL.calls (m a b c:Int) (r:Bool) (w:World) (h:EL.f m a b c=some r):
 Calls Tryz.prog 60 #[.int .i64 m, .agg #[.int .i64 a, .int .i64 b, .int .i64 c]] w λe w'=>e= .returned (.bool r)/\Below w.heap.size w w':=by
 obtain rfl:=Option.some.inj h;clear h;have hu:=Tryz.underlying86;have hi0:∀ W:World,(Instr.index 86 (.agg #[.int .i64 a, .int .i64 b, .int .i64 c]) (.int .i64 0)).run Tryz.prog W= .ok (.int .i64 a) W:=λW=>by rfl
 have hi1:∀ W:World,(Instr.index 86 (.agg #[.int .i64 a, .int .i64 b, .int .i64 c]) (.int .i64 1)).run Tryz.prog W= .ok (.int .i64 b) W:=λW=>by rfl
 have hi2:∀ W:World,(Instr.index 86 (.agg #[.int .i64 a, .int .i64 b, .int .i64 c]) (.int .i64 2)).run Tryz.prog W= .ok (.int .i64 c) W:=λW=>by rfl
 go_enter Tryz.func60,Tryz.ntmps60;go_wp2;go_loopw [8] (λv8 wr=>∃ k:Nat,v8= .int .i64 k/\AA (k<=3)/\AA ((0<k->0<=a/\a<=m)/\(1<k->0<=b/\b<=m)/\(2<k->0<=c/\c<=m))/\wr=w.alloc (.cells #[.int .i64 a, .int .i64 b, .int .i64 c] 86)) (λv8 _=>3 - (intOf v8).toNat);case atStart=>exact ⟨0,rfl,⟨by omega⟩,⟨by omega⟩,rfl⟩
 case round=>
  obtain ⟨k,rfl,HK,HA,rfl⟩:=hrel;have hk:=HK.out
  match k,hk,HK,HA with
  |0,_,HK,HA=>
   by_cases h0:a<0
   ·have d0:decide (a<0)=true:=decide_eq_true h0;have HY:=AA.mk (Ik (m:=m) (x:=a) (a:=a) (b:=b) (c:=c) (by exact .inl rfl) (by omega));clear h0;go_wp2;go_ret;exact ⟨by rw [HY.out];rfl,BX (Below.refl _ _) _⟩
   ·by_cases h1:m<a
    ·have d0:decide (a<0)=false:=decide_eq_false h0;have d1:decide (m<a)=true:=decide_eq_true h1;have HY:=AA.mk (Ik (m:=m) (x:=a) (a:=a) (b:=b) (c:=c) (by exact .inl rfl) (by omega));clear h0 h1;go_wp2;go_ret;exact ⟨by rw [HY.out];rfl,BX (Below.refl _ _) _⟩
    ·have d0:decide (a<0)=false:=decide_eq_false h0;have d1:decide (m<a)=false:=decide_eq_false h1;have HY:=AA.mk (show 0<=a/\a<=m by omega);clear h0 h1;go_wp2;go_roundw;case rel=>exact ⟨1,rfl,⟨by omega⟩,⟨⟨λ_=>HY.out,by omega,by omega⟩⟩,by first|rfl|trivial⟩
     case measure=>simp [intOf]
  |1,_,HK,HA=>
   by_cases h0:b<0
   ·have d0:decide (b<0)=true:=decide_eq_true h0;have HY:=AA.mk (Ik (m:=m) (x:=b) (a:=a) (b:=b) (c:=c) (by exact .inr (.inl rfl)) (by omega));clear h0;go_wp2;go_ret;exact ⟨by rw [HY.out];rfl,BX (Below.refl _ _) _⟩
   ·by_cases h1:m<b
    ·have d0:decide (b<0)=false:=decide_eq_false h0;have d1:decide (m<b)=true:=decide_eq_true h1;have HY:=AA.mk (Ik (m:=m) (x:=b) (a:=a) (b:=b) (c:=c) (by exact .inr (.inl rfl)) (by omega));clear h0 h1;go_wp2;go_ret;exact ⟨by rw [HY.out];rfl,BX (Below.refl _ _) _⟩
    ·have d0:decide (b<0)=false:=decide_eq_false h0;have d1:decide (m<b)=false:=decide_eq_false h1;have HY:=AA.mk (show 0<=b/\b<=m by omega);clear h0 h1;go_wp2;go_roundw;case rel=>exact ⟨2,rfl,⟨by omega⟩,⟨⟨λ_=>HA.out.1 (by omega),λ_=>HY.out,by omega⟩⟩,by first|rfl|trivial⟩
     case measure=>simp [intOf]
  |2,_,HK,HA=>
   by_cases h0:c<0
   ·have d0:decide (c<0)=true:=decide_eq_true h0;have HY:=AA.mk (Ik (m:=m) (x:=c) (a:=a) (b:=b) (c:=c) (by exact .inr (.inr rfl)) (by omega));clear h0;go_wp2;go_ret;exact ⟨by rw [HY.out];rfl,BX (Below.refl _ _) _⟩
   ·by_cases h1:m<c
    ·have d0:decide (c<0)=false:=decide_eq_false h0;have d1:decide (m<c)=true:=decide_eq_true h1;have HY:=AA.mk (Ik (m:=m) (x:=c) (a:=a) (b:=b) (c:=c) (by exact .inr (.inr rfl)) (by omega));clear h0 h1;go_wp2;go_ret;exact ⟨by rw [HY.out];rfl,BX (Below.refl _ _) _⟩
    ·have d0:decide (c<0)=false:=decide_eq_false h0;have d1:decide (m<c)=false:=decide_eq_false h1;have HY:=AA.mk (show 0<=c/\c<=m by omega);clear h0 h1;go_wp2;go_roundw;case rel=>exact ⟨3,rfl,⟨by omega⟩,⟨⟨λ_=>HA.out.1 (by omega),λ_=>HA.out.2.1 (by omega),λ_=>HY.out⟩⟩,by first|rfl|trivial⟩
     case measure=>simp [intOf]
  |3,_,HK,HA=>
   have HY:=AA.mk (show (NH m a&&(NH m b&&NH m c))=true by rw [MO (HA.out.1 (by omega)),MO (HA.out.2.1 (by omega)),MO (HA.out.2.2 (by omega))];rfl);go_wp2;go_ret;exact ⟨by rw [HY.out];rfl,BX (Below.refl _ _) _⟩
end Go.Proofs.YtohjohhcjcljoaaGreatDoor.Print
end
section
namespace Go.Proofs.YtohjohhcjcljoaaGreatDoor.Print
open RowKit Ak BR BS
set_option linter.unusedVariables false
set_option linter.unusedSimpArgs false
def D9.f (a:Int):Option Bool:=some (I4 a)
set_option maxHeartbeats 4000000 in
theorem D9.calls (a:Int) (r:Bool) (w:World) (h:D9.f a=some r):Calls Tryz.prog 89 #[.int .u8 a] w λe w'=>e= .returned (.bool r)/\Be w w':=by
 obtain rfl:=Option.some.inj h;have hc:(65<=a/\a<=90)\/(97<=a/\a<=122)\/(48<=a/\a<=57)\/(a=33)\/(35<=a/\a<=39)\/(a=42)\/(a=43)\/(a=45)\/(a=46)\/(94<=a/\a<=96)\/(a=124)\/(a=126)\/(a<33)\/(a=34)\/(40<=a/\a<=41)\/(a=44)\/(a=47)\/(58<=a/\a<=64)\/(91<=a/\a<=93)\/(a=123)\/(a=125)\/(126<a):=by omega
 rcases hc with hc|hc|hc|hc|hc|hc|hc|hc|hc|hc|hc|hc|hc|hc|hc|hc|hc|hc|hc|hc|hc|hc
 all_goals
  first|have hv:I4 a=true:=(by unfold I4;simp;omega)|have hv:I4 a=false:=(by unfold I4;simp;omega)
  have HV:=AA.mk hv;clear hv;first|have t1:decide (65<=a)=true:=decide_eq_true (by omega)|have t1:decide (65<=a)=false:=decide_eq_false (by omega)
  first|have t2:decide (a<=90)=true:=decide_eq_true (by omega)|have t2:decide (a<=90)=false:=decide_eq_false (by omega)
  first|have t3:decide (97<=a)=true:=decide_eq_true (by omega)|have t3:decide (97<=a)=false:=decide_eq_false (by omega)
  first|have t4:decide (a<=122)=true:=decide_eq_true (by omega)|have t4:decide (a<=122)=false:=decide_eq_false (by omega)
  first|have t5:decide (48<=a)=true:=decide_eq_true (by omega)|have t5:decide (48<=a)=false:=decide_eq_false (by omega)
  first|have t6:decide (a<=57)=true:=decide_eq_true (by omega)|have t6:decide (a<=57)=false:=decide_eq_false (by omega)
  first|have t7:decide (35<=a)=true:=decide_eq_true (by omega)|have t7:decide (35<=a)=false:=decide_eq_false (by omega)
  first|have t8:decide (a<=39)=true:=decide_eq_true (by omega)|have t8:decide (a<=39)=false:=decide_eq_false (by omega)
  first|have t9:decide (94<=a)=true:=decide_eq_true (by omega)|have t9:decide (94<=a)=false:=decide_eq_false (by omega)
  first|have t10:decide (a<=96)=true:=decide_eq_true (by omega)|have t10:decide (a<=96)=false:=decide_eq_false (by omega)
  (first|(have t11:(a==33)=true:=beq_iff_eq.mpr (by omega);have s11:(a != 33)=false:=bne_eq_false_iff_eq.mpr (by omega))|(have t11:(a==33)=false:=beq_eq_false_iff_ne.mpr (by omega);have s11:(a != 33)=true:=bne_iff_ne.mpr (by omega)));(first|(have t12:(a==42)=true:=beq_iff_eq.mpr (by omega);have s12:(a != 42)=false:=bne_eq_false_iff_eq.mpr (by omega))|(have t12:(a==42)=false:=beq_eq_false_iff_ne.mpr (by omega);have s12:(a != 42)=true:=bne_iff_ne.mpr (by omega)));(first|(have t13:(a==43)=true:=beq_iff_eq.mpr (by omega);have s13:(a != 43)=false:=bne_eq_false_iff_eq.mpr (by omega))|(have t13:(a==43)=false:=beq_eq_false_iff_ne.mpr (by omega);have s13:(a != 43)=true:=bne_iff_ne.mpr (by omega)));(first|(have t14:(a==45)=true:=beq_iff_eq.mpr (by omega);have s14:(a != 45)=false:=bne_eq_false_iff_eq.mpr (by omega))|(have t14:(a==45)=false:=beq_eq_false_iff_ne.mpr (by omega);have s14:(a != 45)=true:=bne_iff_ne.mpr (by omega)));(first|(have t15:(a==46)=true:=beq_iff_eq.mpr (by omega);have s15:(a != 46)=false:=bne_eq_false_iff_eq.mpr (by omega))|(have t15:(a==46)=false:=beq_eq_false_iff_ne.mpr (by omega);have s15:(a != 46)=true:=bne_iff_ne.mpr (by omega)));(first|(have t16:(a==124)=true:=beq_iff_eq.mpr (by omega);have s16:(a != 124)=false:=bne_eq_false_iff_eq.mpr (by omega))|(have t16:(a==124)=false:=beq_eq_false_iff_ne.mpr (by omega);have s16:(a != 124)=true:=bne_iff_ne.mpr (by omega)));(first|(have t17:(a==126)=true:=beq_iff_eq.mpr (by omega);have s17:(a != 126)=false:=bne_eq_false_iff_eq.mpr (by omega))|(have t17:(a==126)=false:=beq_eq_false_iff_ne.mpr (by omega);have s17:(a != 126)=true:=bne_iff_ne.mpr (by omega)));clear hc;go_enter Tryz.func89,Tryz.ntmps89;go_wp2;go_ret;exact ⟨by rw [HV.out];rfl,by repeat (first|exact Be.refl _|apply Be.step)⟩
def Dz.f (a:Int):Option Bool:=some (I5 a)
set_option maxHeartbeats 4000000 in
theorem Dz.calls (a:Int) (r:Bool) (w:World) (h:Dz.f a=some r):Calls Tryz.prog 90 #[.int .u8 a] w λe w'=>e= .returned (.bool r)/\Be w w':=by
 obtain rfl:=Option.some.inj h;have hc:(a=33)\/(35<=a/\a<=43)\/(45<=a/\a<=58)\/(60<=a/\a<=91)\/(93<=a/\a<=126)\/(a<33)\/(a=34)\/(a=44)\/(a=59)\/(a=92)\/(126<a):=by omega
 rcases hc with hc|hc|hc|hc|hc|hc|hc|hc|hc|hc|hc
 all_goals
  first|have hv:I5 a=true:=(by unfold I5;simp;omega)|have hv:I5 a=false:=(by unfold I5;simp;omega)
  have HV:=AA.mk hv;clear hv;(first|(have t1:(a==33)=true:=beq_iff_eq.mpr (by omega);have s1:(a != 33)=false:=bne_eq_false_iff_eq.mpr (by omega))|(have t1:(a==33)=false:=beq_eq_false_iff_ne.mpr (by omega);have s1:(a != 33)=true:=bne_iff_ne.mpr (by omega)));first|have t2:decide (35<=a)=true:=decide_eq_true (by omega)|have t2:decide (35<=a)=false:=decide_eq_false (by omega)
  first|have t3:decide (a<=43)=true:=decide_eq_true (by omega)|have t3:decide (a<=43)=false:=decide_eq_false (by omega)
  first|have t4:decide (45<=a)=true:=decide_eq_true (by omega)|have t4:decide (45<=a)=false:=decide_eq_false (by omega)
  first|have t5:decide (a<=58)=true:=decide_eq_true (by omega)|have t5:decide (a<=58)=false:=decide_eq_false (by omega)
  first|have t6:decide (60<=a)=true:=decide_eq_true (by omega)|have t6:decide (60<=a)=false:=decide_eq_false (by omega)
  first|have t7:decide (a<=91)=true:=decide_eq_true (by omega)|have t7:decide (a<=91)=false:=decide_eq_false (by omega)
  first|have t8:decide (93<=a)=true:=decide_eq_true (by omega)|have t8:decide (93<=a)=false:=decide_eq_false (by omega)
  first|have t9:decide (a<=126)=true:=decide_eq_true (by omega)|have t9:decide (a<=126)=false:=decide_eq_false (by omega)
  clear hc;go_enter Tryz.func90,Tryz.ntmps90;go_wp2;go_ret;exact ⟨by rw [HV.out];rfl,by repeat (first|exact Be.refl _|apply Be.step)⟩
end Go.Proofs.YtohjohhcjcljoaaGreatDoor.Print
end
