/- What the program's and the document's functions tell, walked; a part of the claim's proof, said short by a program of this session. No condition. -/
import Derived.Test.YtikggnalmidlhaaGreatDoorM3
namespace Go.Proofs.YtikggnalmidlhaaGreatDoor.Print
open RowKit AR Aa Ad
set_option linter.unusedVariables false
set_option linter.unusedSimpArgs false
def Ga (c:Int):Bool:=decide (97<=c/\c<=122)||decide (65<=c/\c<=90)||decide (48<=c/\c<=57)||decide (c=33)||decide (35<=c/\c<=39)||decide (c=42)||decide (c=43)||decide (c=45)||decide (c=46)||decide (94<=c/\c<=96)||decide (c=124)||decide (c=126)
def Gb (c:Int):Bool:=decide (33<=c/\c<=126)&& !(decide (c=34)||decide (c=44)||decide (c=59)||decide (c=92))
def FP (c:Int):Bool:=decide (33<=c/\c<=126)&& !decide (c=59)
theorem JV {P:Int->Prop} (h:∀ n:Fin 256,P (n.val:Int)) {c:Int} (h0:0<=c) (h1:c<256):P c:=by
 have:=h ⟨c.toNat,by omega⟩;rwa [show ((⟨c.toNat,by omega⟩:Fin 256).val:Int)=c by simp;omega] at this
theorem UY {c:Int} (h0:0<=c) (h1:c<256):Ct.Bh.f 3 c=some (Ga c):=JV (P:=λc=>Ct.Bh.f 3 c=some (Ga c)) (by decide+kernel) h0 h1
theorem UZ {c:Int} (h0:0<=c) (h1:c<256):Ct.Du.f c=some (Gb c):=JV (P:=λc=>Ct.Du.f c=some (Gb c)) (by decide+kernel) h0 h1
theorem RO {c:Int} (h0:0<=c) (h1:c<256):Ct.EB.f c=some (FP c):=JV (P:=λc=>Ct.EB.f c=some (FP c)) (by decide+kernel) h0 h1
theorem K9 (s:ByteArray) (i:Int):0<=bt s i/\bt s i<256:=by
 unfold bt;split
 ·have:=(s[i.toNat]'(by assumption)).toNat_lt;omega
 ·omega
theorem N9 {s:ByteArray} {k:Nat} (h:k<s.size):(bytesOf s).take (k+1)=(bytesOf s).take k++[bt s k]:=by
 have hl:k<(bytesOf s).length:=by rw [bytesOf_length];exact h
 rw [List.take_add_one,List.getElem?_eq_getElem hl];congr 1;rw [<-Jh];unfold rd;rw [Int.toNat_natCast,List.getD_eq_getElem?_getD,List.getElem?_eq_getElem hl];rfl
theorem LA {s:ByteArray} {k:Nat} {g:Int->Bool} (h:k<s.size) (ha:((bytesOf s).take k).all g=true) (hc:g (bt s k)=true):((bytesOf s).take (k+1)).all g=true:=by
 rw [N9 h,List.all_append,ha,List.all_cons,hc];rfl
theorem ND {s:ByteArray} {k:Nat} {g:Int->Bool} (h:k<s.size) (hc:g (bt s k)=false):(bytesOf s).all g=false:=by
 have e:=N9 h;rw [<-List.take_append_drop (k+1) (bytesOf s),List.all_append,e,List.all_append,List.all_cons,hc];simp
theorem LB {s:ByteArray} {k:Nat} {g:Int->Bool} (h:s.size<=k) (ha:((bytesOf s).take k).all g=true):(bytesOf s).all g=true:=by
 rwa [List.take_of_length_le (by rw [bytesOf_length];exact h)] at ha
set_option maxHeartbeats 4000000 in
set_option maxRecDepth 100000 in
theorem Oz (a0:ByteArray) (w:World) (hs:a0.size<=9223372036854775806):
 Calls Tryz.prog 102 #[.string a0, .func (.func 124) #[] #[]] w λe w'=>e= .returned (.bool ((bytesOf a0).all FP))/\Ap w w':=by
 go_enter Tryz.func102,Tryz.ntmps102;go_wp2;go_loopw [8] (λv8 wr=>∃ k:Nat,k<=a0.size/\v8= .int .i64 k/\AA (((bytesOf a0).take k).all FP=true)/\Ap w wr) (λv8 _=>a0.size - (intOf v8).toNat);case atStart=>exact ⟨0,Nat.zero_le _,rfl,⟨rfl⟩,by repeat (first|exact Ap.refl _|apply Ap.step)⟩
 case round=>
  obtain ⟨k,hk,rfl,HA,⟨m1,rfl⟩⟩:=hrel;by_cases hlt:k<a0.size
  ·have hb:=K9 a0 k;have p1:=eq_true (show 0<=(k:Int) by omega);have q1:=eq_true (show (k:Int)<(a0.size:Int) by omega);have ec:bt a0 (k:Int)=((a0[k]'hlt).toNat:Int):=by simp [bt,hlt]
   have HF:=AA.mk (RO hb.1 hb.2);clear hb;cases hg:FP (bt a0 k) with
   |true=>
    rw [hg,ec] at HF;have HY:=AA.mk (LA hlt HA.out hg);clear hg;go_wp2_with (go_at_call 124;refine (Ct.EB.calls (((a0[k]'hlt).toNat:Int)) true _ HF.out).mono ?_;rintro e w2 ⟨rfl,⟨nd,rfl⟩⟩);go_roundw;case rel=>exact ⟨k+1,by omega,by go_num,HY,by repeat (first|exact Ap.refl _|apply Ap.step)⟩
    case measure=>simp [intOf];omega
   |false=>
    rw [hg,ec] at HF;have HY:=AA.mk (ND hlt hg);clear hg;go_wp2_with (go_at_call 124;refine (Ct.EB.calls (((a0[k]'hlt).toNat:Int)) false _ HF.out).mono ?_;rintro e w2 ⟨rfl,⟨nd,rfl⟩⟩);go_ret;exact ⟨by rw [HY.out];rfl,by repeat (first|exact Ap.refl _|apply Ap.step)⟩
  ·have HY:=AA.mk (LB (by omega) HA.out);have hl2:decide ((k:Int)<(a0.size:Int))=false:=decide_eq_false (by omega);have hl3:decide (k<a0.size)=false:=decide_eq_false (by omega);go_wp2;go_ret;exact ⟨by rw [HY.out];rfl,by repeat (first|exact Ap.refl _|apply Ap.step)⟩
def Dx.f (a0:ByteArray):Option Bool:=if a0.size<=9223372036854775806 then some ((bytesOf a0).all FP) else none
theorem Dx.calls (a0:ByteArray) (r:Bool) (w:World) (h:Dx.f a0=some r):
 Calls Tryz.prog 101 #[.string a0] w λe w'=>e= .returned (.bool r)/\Ap w w':=by
 unfold Dx.f at h;by_cases hs:a0.size<=9223372036854775806
 ·rw [if_pos hs] at h;obtain rfl:=Option.some.inj h;clear h;have HS:=AA.mk hs;clear hs;go_enter Tryz.func101,Tryz.ntmps101;go_wp2_with (go_at_call 102;refine (Oz a0 _ HS.out).mono ?_;rintro e w2 ⟨rfl,⟨nd,rfl⟩⟩);go_ret;exact ⟨rfl,by repeat (first|exact Ap.refl _|apply Ap.step)⟩
 ·rw [if_neg hs] at h;exact absurd h (by simp)
set_option maxHeartbeats 4000000 in
set_option maxRecDepth 100000 in
theorem RP (a0:ByteArray) (w:World) (hs:a0.size<=9223372036854775806):
 Calls Tryz.prog 102 #[.string a0, .func (.func 105) #[] #[]] w λe w'=>e= .returned (.bool ((bytesOf a0).all Gb))/\Ap w w':=by
 go_enter Tryz.func102,Tryz.ntmps102;go_wp2;go_loopw [8] (λv8 wr=>∃ k:Nat,k<=a0.size/\v8= .int .i64 k/\AA (((bytesOf a0).take k).all Gb=true)/\Ap w wr) (λv8 _=>a0.size - (intOf v8).toNat);case atStart=>exact ⟨0,Nat.zero_le _,rfl,⟨rfl⟩,by repeat (first|exact Ap.refl _|apply Ap.step)⟩
 case round=>
  obtain ⟨k,hk,rfl,HA,⟨m1,rfl⟩⟩:=hrel;by_cases hlt:k<a0.size
  ·have hb:=K9 a0 k;have p1:=eq_true (show 0<=(k:Int) by omega);have q1:=eq_true (show (k:Int)<(a0.size:Int) by omega);have ec:bt a0 (k:Int)=((a0[k]'hlt).toNat:Int):=by simp [bt,hlt]
   have HF:=AA.mk (UZ hb.1 hb.2);clear hb;cases hg:Gb (bt a0 k) with
   |true=>
    rw [hg,ec] at HF;have HY:=AA.mk (LA hlt HA.out hg);clear hg;go_wp2_with (go_at_call 105;refine (Ct.Du.calls (((a0[k]'hlt).toNat:Int)) true _ HF.out).mono ?_;rintro e w2 ⟨rfl,⟨nd,rfl⟩⟩);go_roundw;case rel=>exact ⟨k+1,by omega,by go_num,HY,by repeat (first|exact Ap.refl _|apply Ap.step)⟩
    case measure=>simp [intOf];omega
   |false=>
    rw [hg,ec] at HF;have HY:=AA.mk (ND hlt hg);clear hg;go_wp2_with (go_at_call 105;refine (Ct.Du.calls (((a0[k]'hlt).toNat:Int)) false _ HF.out).mono ?_;rintro e w2 ⟨rfl,⟨nd,rfl⟩⟩);go_ret;exact ⟨by rw [HY.out];rfl,by repeat (first|exact Ap.refl _|apply Ap.step)⟩
  ·have HY:=AA.mk (LB (by omega) HA.out);have hl2:decide ((k:Int)<(a0.size:Int))=false:=decide_eq_false (by omega);have hl3:decide (k<a0.size)=false:=decide_eq_false (by omega);go_wp2;go_ret;exact ⟨by rw [HY.out];rfl,by repeat (first|exact Ap.refl _|apply Ap.step)⟩
def Cw.f (a0:ByteArray):Option Bool:=if a0.size<=9223372036854775806 then some ((bytesOf a0).all Gb) else none
theorem Cw.calls (a0:ByteArray) (r:Bool) (w:World) (h:Cw.f a0=some r):
 Calls Tryz.prog 68 #[.string a0] w λe w'=>e= .returned (.bool r)/\Ap w w':=by
 unfold Cw.f at h;by_cases hs:a0.size<=9223372036854775806
 ·rw [if_pos hs] at h;obtain rfl:=Option.some.inj h;clear h;have HS:=AA.mk hs;clear hs;go_enter Tryz.func68,Tryz.ntmps68;go_wp2_with (go_at_call 102;refine (RP a0 _ HS.out).mono ?_;rintro e w2 ⟨rfl,⟨nd,rfl⟩⟩);go_ret;exact ⟨rfl,by repeat (first|exact Ap.refl _|apply Ap.step)⟩
 ·rw [if_neg hs] at h;exact absurd h (by simp)
set_option maxHeartbeats 4000000 in
set_option maxRecDepth 100000 in
theorem RQ (a0:ByteArray) (w:World) (hs:a0.size<=9223372036854775806):
 Calls Tryz.prog 102 #[.string a0, .func (.func 103) #[] #[]] w λe w'=>e= .returned (.bool ((bytesOf a0).all Ga))/\Ap w w':=by
 go_enter Tryz.func102,Tryz.ntmps102;go_wp2;go_loopw [8] (λv8 wr=>∃ k:Nat,k<=a0.size/\v8= .int .i64 k/\AA (((bytesOf a0).take k).all Ga=true)/\Ap w wr) (λv8 _=>a0.size - (intOf v8).toNat);case atStart=>exact ⟨0,Nat.zero_le _,rfl,⟨rfl⟩,by repeat (first|exact Ap.refl _|apply Ap.step)⟩
 case round=>
  obtain ⟨k,hk,rfl,HA,⟨m1,rfl⟩⟩:=hrel;by_cases hlt:k<a0.size
  ·have hb:=K9 a0 k;have p1:=eq_true (show 0<=(k:Int) by omega);have q1:=eq_true (show (k:Int)<(a0.size:Int) by omega);have ec:bt a0 (k:Int)=((a0[k]'hlt).toNat:Int):=by simp [bt,hlt]
   have HF:=AA.mk (UY hb.1 hb.2);clear hb;cases hg:Ga (bt a0 k) with
   |true=>
    rw [hg,ec] at HF;have HY:=AA.mk (LA hlt HA.out hg);clear hg;go_wp2_with (go_at_call 103;refine (Ct.Bh.calls 3 (((a0[k]'hlt).toNat:Int)) true _ HF.out).mono ?_;rintro e w2 ⟨rfl,⟨nd,rfl⟩⟩);go_roundw;case rel=>exact ⟨k+1,by omega,by go_num,HY,by repeat (first|exact Ap.refl _|apply Ap.step)⟩
    case measure=>simp [intOf];omega
   |false=>
    rw [hg,ec] at HF;have HY:=AA.mk (ND hlt hg);clear hg;go_wp2_with (go_at_call 103;refine (Ct.Bh.calls 3 (((a0[k]'hlt).toNat:Int)) false _ HF.out).mono ?_;rintro e w2 ⟨rfl,⟨nd,rfl⟩⟩);go_ret;exact ⟨by rw [HY.out];rfl,by repeat (first|exact Ap.refl _|apply Ap.step)⟩
  ·have HY:=AA.mk (LB (by omega) HA.out);have hl2:decide ((k:Int)<(a0.size:Int))=false:=decide_eq_false (by omega);have hl3:decide (k<a0.size)=false:=decide_eq_false (by omega);go_wp2;go_ret;exact ⟨by rw [HY.out];rfl,by repeat (first|exact Ap.refl _|apply Ap.step)⟩
def DT.f (a0:ByteArray):Option Bool:=if a0.size<=9223372036854775806 then some (!decide (a0.toList=([]:List UInt8))&&(bytesOf a0).all Ga) else none
theorem DT.calls (a0:ByteArray) (r:Bool) (w:World) (h:DT.f a0=some r):
 Calls Tryz.prog 67 #[.string a0] w λe w'=>e= .returned (.bool r)/\Ap w w':=by
 unfold DT.f at h;by_cases hs:a0.size<=9223372036854775806
 ·rw [if_pos hs] at h;obtain rfl:=Option.some.inj h;clear h;have HS:=AA.mk hs;clear hs;by_cases hz:a0.toList=([]:List UInt8)
  ·have h1:(a0.toList != ([]:List UInt8))=false:=by rw [hz];rfl
   go_enter Tryz.func67,Tryz.ntmps67;go_wp2;go_ret;exact ⟨by rw [decide_eq_true hz];rfl,by repeat (first|exact Ap.refl _|apply Ap.step)⟩
  ·have h1:(a0.toList != ([]:List UInt8))=true:=by simpa using hz
   have h2:a0.toList.isEmpty=false:=by simpa using hz
   go_enter Tryz.func67,Tryz.ntmps67;go_wp2_with (go_at_call 102;refine (RQ a0 _ HS.out).mono ?_;rintro e w2 ⟨rfl,⟨nd,rfl⟩⟩);go_ret;exact ⟨by rw [decide_eq_false hz];simp [h2],by repeat (first|exact Ap.refl _|apply Ap.step)⟩
 ·rw [if_neg hs] at h;exact absurd h (by simp)
def L6 (m x:Int):Bool:=decide (0<=x)&&decide (x<=m)
theorem LC {m x:Int} (h:0<=x/\x<=m):L6 m x=true:=by unfold L6;rw [decide_eq_true h.1,decide_eq_true h.2];rfl
theorem TR {m x:Int} (h:¬(0<=x/\x<=m)):L6 m x=false:=by
 unfold L6;by_cases a:0<=x
 ·rw [decide_eq_false (p:=x<=m) (λb=>h ⟨a,b⟩)];simp
 ·rw [decide_eq_false a];rfl
theorem Gs {m x a b c:Int} (hx:x=a\/x=b\/x=c) (h:¬(0<=x/\x<=m)):(L6 m a&&(L6 m b&&L6 m c))=false:=by
 have:=TR h;rcases hx with rfl|rfl|rfl<;>rw [this]<;>simp
def DN.f (m a b c:Int):Option Bool:=some (L6 m a&&(L6 m b&&L6 m c))
set_option maxHeartbeats 4000000 in
set_option maxRecDepth 100000 in
theorem DN.calls (m a b c:Int) (r:Bool) (w:World) (h:DN.f m a b c=some r):
 Calls Tryz.prog 69 #[.int .i64 m, .agg #[.int .i64 a, .int .i64 b, .int .i64 c]] w λe w'=>e= .returned (.bool r)/\Below w.heap.size w w':=by
 obtain rfl:=Option.some.inj h;clear h;have hu:=Tryz.underlying94;have hi0:∀ W:World,(Instr.index 94 (.agg #[.int .i64 a, .int .i64 b, .int .i64 c]) (.int .i64 0)).run Tryz.prog W= .ok (.int .i64 a) W:=λW=>by rfl
 have hi1:∀ W:World,(Instr.index 94 (.agg #[.int .i64 a, .int .i64 b, .int .i64 c]) (.int .i64 1)).run Tryz.prog W= .ok (.int .i64 b) W:=λW=>by rfl
 have hi2:∀ W:World,(Instr.index 94 (.agg #[.int .i64 a, .int .i64 b, .int .i64 c]) (.int .i64 2)).run Tryz.prog W= .ok (.int .i64 c) W:=λW=>by rfl
 go_enter Tryz.func69,Tryz.ntmps69;go_wp2;go_loopw [8] (λv8 wr=>∃ k:Nat,v8= .int .i64 k/\AA (k<=3)/\AA ((0<k->0<=a/\a<=m)/\(1<k->0<=b/\b<=m)/\(2<k->0<=c/\c<=m))/\wr=w.alloc (.cells #[.int .i64 a, .int .i64 b, .int .i64 c] 94)) (λv8 _=>3 - (intOf v8).toNat);case atStart=>exact ⟨0,rfl,⟨by omega⟩,⟨by omega⟩,rfl⟩
 case round=>
  obtain ⟨k,rfl,HK,HA,rfl⟩:=hrel;have hk:=HK.out
  match k,hk,HK,HA with
  |0,_,HK,HA=>
   by_cases h0:a<0
   ·have d0:decide (a<0)=true:=decide_eq_true h0;have HY:=AA.mk (Gs (m:=m) (x:=a) (a:=a) (b:=b) (c:=c) (by exact .inl rfl) (by omega));clear h0;go_wp2;go_ret;exact ⟨by rw [HY.out];rfl,Bj (Below.refl _ _) _⟩
   ·by_cases h1:m<a
    ·have d0:decide (a<0)=false:=decide_eq_false h0;have d1:decide (m<a)=true:=decide_eq_true h1;have HY:=AA.mk (Gs (m:=m) (x:=a) (a:=a) (b:=b) (c:=c) (by exact .inl rfl) (by omega));clear h0 h1;go_wp2;go_ret;exact ⟨by rw [HY.out];rfl,Bj (Below.refl _ _) _⟩
    ·have d0:decide (a<0)=false:=decide_eq_false h0;have d1:decide (m<a)=false:=decide_eq_false h1;have HY:=AA.mk (show 0<=a/\a<=m by omega);clear h0 h1;go_wp2;go_roundw;case rel=>exact ⟨1,rfl,⟨by omega⟩,⟨⟨λ_=>HY.out,by omega,by omega⟩⟩,by first|rfl|trivial⟩
     case measure=>simp [intOf]
  |1,_,HK,HA=>
   by_cases h0:b<0
   ·have d0:decide (b<0)=true:=decide_eq_true h0;have HY:=AA.mk (Gs (m:=m) (x:=b) (a:=a) (b:=b) (c:=c) (by exact .inr (.inl rfl)) (by omega));clear h0;go_wp2;go_ret;exact ⟨by rw [HY.out];rfl,Bj (Below.refl _ _) _⟩
   ·by_cases h1:m<b
    ·have d0:decide (b<0)=false:=decide_eq_false h0;have d1:decide (m<b)=true:=decide_eq_true h1;have HY:=AA.mk (Gs (m:=m) (x:=b) (a:=a) (b:=b) (c:=c) (by exact .inr (.inl rfl)) (by omega));clear h0 h1;go_wp2;go_ret;exact ⟨by rw [HY.out];rfl,Bj (Below.refl _ _) _⟩
    ·have d0:decide (b<0)=false:=decide_eq_false h0;have d1:decide (m<b)=false:=decide_eq_false h1;have HY:=AA.mk (show 0<=b/\b<=m by omega);clear h0 h1;go_wp2;go_roundw;case rel=>exact ⟨2,rfl,⟨by omega⟩,⟨⟨λ_=>HA.out.1 (by omega),λ_=>HY.out,by omega⟩⟩,by first|rfl|trivial⟩
     case measure=>simp [intOf]
  |2,_,HK,HA=>
   by_cases h0:c<0
   ·have d0:decide (c<0)=true:=decide_eq_true h0;have HY:=AA.mk (Gs (m:=m) (x:=c) (a:=a) (b:=b) (c:=c) (by exact .inr (.inr rfl)) (by omega));clear h0;go_wp2;go_ret;exact ⟨by rw [HY.out];rfl,Bj (Below.refl _ _) _⟩
   ·by_cases h1:m<c
    ·have d0:decide (c<0)=false:=decide_eq_false h0;have d1:decide (m<c)=true:=decide_eq_true h1;have HY:=AA.mk (Gs (m:=m) (x:=c) (a:=a) (b:=b) (c:=c) (by exact .inr (.inr rfl)) (by omega));clear h0 h1;go_wp2;go_ret;exact ⟨by rw [HY.out];rfl,Bj (Below.refl _ _) _⟩
    ·have d0:decide (c<0)=false:=decide_eq_false h0;have d1:decide (m<c)=false:=decide_eq_false h1;have HY:=AA.mk (show 0<=c/\c<=m by omega);clear h0 h1;go_wp2;go_roundw;case rel=>exact ⟨3,rfl,⟨by omega⟩,⟨⟨λ_=>HA.out.1 (by omega),λ_=>HA.out.2.1 (by omega),λ_=>HY.out⟩⟩,by first|rfl|trivial⟩
     case measure=>simp [intOf]
  |3,_,HK,HA=>
   have HY:=AA.mk (show (L6 m a&&(L6 m b&&L6 m c))=true by rw [LC (HA.out.1 (by omega)),LC (HA.out.2.1 (by omega)),LC (HA.out.2.2 (by omega))];rfl);go_wp2;go_ret;exact ⟨by rw [HY.out];rfl,Bj (Below.refl _ _) _⟩
end Go.Proofs.YtikggnalmidlhaaGreatDoor.Print
