/- Which cookies may be, by the reference: the same plain function on texts and numbers. Texts have at most 3000 bytes. -/
import Derived.Test.YtikggnalmidlhaaGreatDoorM22
import Derived.Test.YtikggnalmidlhaaGreatDoorYhostC
section
namespace Go.Proofs.YtikggnalmidlhaaGreatDoor.Y
set_option linter.unusedVariables false
set_option linter.unusedSimpArgs false
open RowKit Print AR Aa Ad
def J7 (p:ByteArray):Bool:=(bytesOf p).all FP
def JE (p:ByteArray):Bool:=decide ((p.size:Int)>=1)&&(decide ((p.size:Int)<=64)&&(decide (bt p 0=47)&&J7 p))
def Nt (n:ByteArray):Bool:= !decide (n.toList=([]:List UInt8))&&(bytesOf n).all Ga
def Nu (v:ByteArray):Bool:=(bytesOf v).all Gb
theorem Q9 {p:ByteArray} (h:p.size<=3000):Dx.f p=some (J7 p):=by unfold Dx.f;rw [if_pos (by omega)];rfl
theorem UT {n:ByteArray} (h:n.size<=3000):DT.f n=some (Nt n):=by unfold DT.f;rw [if_pos (by omega)];rfl
theorem UU {v:ByteArray} (h:v.size<=3000):Cw.f v=some (Nu v):=by unfold Cw.f;rw [if_pos (by omega)];rfl
theorem Sj {p:ByteArray} (h:p.size<=3000):ET.f p=some (JE p):=by
 unfold ET.f JE;rw [Q9 h];by_cases h1:(p.size:Int)>=1
 ·rw [if_pos h1,decide_eq_true h1];by_cases h2:(p.size:Int)<=64
  ·rw [if_pos h2,decide_eq_true h2,if_pos (show 0<(p.size:Int) by omega)];by_cases h3:bt p 0=47
   ·rw [if_pos h3,decide_eq_true h3];rfl
   ·rw [if_neg h3,decide_eq_false h3];rfl
  ·rw [if_neg h2,decide_eq_false h2];rfl
 ·rw [if_neg h1,decide_eq_false h1];rfl
def Iq (c4 c5 c6:Int):Bool:=L6 253402300799 c4&&(L6 253402300799 c5&&L6 253402300799 c6)
def M8 (v:ByteArray) (c4 c5 c6 ss:Int):Bool:=Nu v&&(!decide ((v.size:Int)>128)&&(Iq c4 c5 c6&&(decide (ss>=0)&&decide (ss<=3))))
def Pn (p n v:ByteArray) (c4 c5 c6 ss:Int):Bool:=JE p&&(Nt n&&(!decide ((n.size:Int)>64)&&M8 v c4 c5 c6 ss))
def Ir (d p n v:ByteArray) (c4 c5 c6:Int) (ho:Bool) (ss:Int):Bool:=(EK d).2&&(decide (bytesOf (EK d).1=bytesOf d)&&(!(Uu d&& !ho)&&Pn p n v c4 c5 c6 ss))
theorem RA {d p n v:ByteArray} {c4 c5 c6:Int} {ho se ht:Bool} {ss:Int} (hd:d.size<=3000) (hp:p.size<=3000) (hn:n.size<=3000) (hv:v.size<=3000):Ev (λk=>AV.f k d p n v c4 c5 c6 ho se ht ss) (Ir d p n v c4 c5 c6 ho ss):=by
 have j1:∀ x:Bool,Ev (λk=>AV.j1 k x d p n v c4 c5 c6 ho se ht ss) (!x&&M8 v c4 c5 c6 ss):=by
  intro x;apply BB;simp only [AV.j1,UU hv,DN.f,Option.bind_some];unfold M8;cases x with
  |true=>exact AU rfl (Am _)
  |false=>
   refine Ah (by decide) ?_;by_cases h1:Nu v=true
   ·refine AU h1 ?_;by_cases h2:(v.size:Int)>128
    ·exact AU h2 (BG (Am _) (by simp [h2]))
    ·refine Ah h2 ?_;by_cases h3:Iq c4 c5 c6=true
     ·refine AU h3 ?_;by_cases h4:ss>=0
      ·exact AU h4 (BG (Am _) (by rw [h1,h3,decide_eq_true h4,decide_eq_false h2];simp))
      ·exact Ah h4 (BG (Am _) (by rw [decide_eq_false h4];simp))
     ·exact Ah h3 (BG (Am _) (by rw [Bool.not_eq_true] at h3;rw [h3];simp))
   ·exact Ah h1 (BG (Am _) (by rw [Bool.not_eq_true] at h1;rw [h1];simp))
 have j0:∀ x:Bool,Ev (λk=>AV.j0 k x d p n v c4 c5 c6 ho se ht ss) (!x&&Pn p n v c4 c5 c6 ss):=by
  intro x;apply BB;simp only [AV.j0,Sj hp,UT hn,Option.bind_some];unfold Pn;cases x with
  |true=>exact AU rfl (Am _)
  |false=>
   refine Ah (by decide) ?_;by_cases h1:JE p=true
   ·refine AU h1 ?_;by_cases h2:Nt n=true
    ·exact AU h2 (BG (j1 _) (by rw [h1,h2];simp))
    ·exact Ah h2 (BG (j1 _) (by rw [Bool.not_eq_true] at h2;rw [h2];simp))
   ·exact Ah h1 (BG (j1 _) (by rw [Bool.not_eq_true] at h1;rw [h1];simp))
 unfold AV.f Ir;refine BL (Qk d) ?_;by_cases h1:(EK d).2=true
 ·refine AU h1 ?_;by_cases h2:(EK d).1.toList=d.toList
  ·have h3:=toList_inj.mp h2;refine AU h2 (BL (Uv (by rw [h3];omega)) ?_);rw [h3,h1,decide_eq_true rfl];by_cases h4:Uu d=true
   ·exact AU h4 (BG (j0 _) (by rw [h4];simp))
   ·exact Ah h4 (BG (j0 _) (by rw [Bool.not_eq_true] at h4;rw [h4];simp))
  ·refine Ah h2 (BG (j0 _) ?_);rw [decide_eq_false (λe=>h2 (EC.mpr e)),bne_iff_ne.mpr h2];simp
 ·refine Ah h1 (BG (j0 _) ?_);rw [Bool.not_eq_true] at h1;rw [h1];simp
end Go.Proofs.YtikggnalmidlhaaGreatDoor.Y
end
section
namespace Go.Proofs.YtikggnalmidlhaaGreatDoor.Y
set_option linter.unusedVariables false
set_option linter.unusedSimpArgs false
open RowKit Print AR Aa Ad
theorem Nv (s:ByteArray) (i:Int):Cy.f (bt s i)=some (Ga (bt s i)):=JV (P:=λc=>Cy.f c=some (Ga c)) (by decide+kernel) (Fz s i).1 (Fz s i).2
theorem M9 (s:ByteArray) (i:Int):Cr.f (bt s i)=some (Gb (bt s i)):=JV (P:=λc=>Cr.f c=some (Gb c)) (by decide+kernel) (Fz s i).1 (Fz s i).2
theorem Lr (s:ByteArray) (hs:s.size<=4294967296) (d:Nat):∀ i:Nat,i+d=s.size->Ev (λk=>Aw.l0 k s i) (decide ((s.size:Int)>0)&&((bytesOf s).drop i).all Ga):=by
 induction d with
 |zero=>
  intro i hi;apply BB;simp only [Aw.l0];exact Ah (by omega) (BG (Am _) (by rw [List.drop_eq_nil_of_le (by rw [bytesOf_length];omega)];simp))
 |succ d ih=>
  intro i hi;apply BB;simp only [Aw.l0,Nv];have hw:wrap64 ((i:Int)+1)=((i+1:Nat):Int):=by rw [KD (by omega) (by omega)];omega
  rw [hw];refine AU (by omega) (AU (by omega) (BL (Am _) ?_));rcases DJ s (i:=i) (by omega) with ⟨h1,_⟩|⟨h1,h2⟩
  ·omega
  ·rw [h2,List.all_cons];by_cases hc:Ga (bt s i)=true
   ·exact AU hc (BG (ih (i+1) (by omega)) (by rw [hc];simp))
   ·exact Ah hc (BG (Am _) (by rw [Bool.not_eq_true] at hc;rw [hc];simp))
theorem Ls (s:ByteArray) (hs:s.size<=4294967296) (d:Nat):∀ i:Nat,i+d=s.size->Ev (λk=>BA.l0 k s i) (((bytesOf s).drop i).all Gb):=by
 induction d with
 |zero=>
  intro i hi;apply BB;simp only [BA.l0];exact Ah (by omega) (BG (Am _) (by rw [List.drop_eq_nil_of_le (by rw [bytesOf_length];omega)];simp))
 |succ d ih=>
  intro i hi;apply BB;simp only [BA.l0,M9];have hw:wrap64 ((i:Int)+1)=((i+1:Nat):Int):=by rw [KD (by omega) (by omega)];omega
  rw [hw];refine AU (by omega) (AU (by omega) (BL (Am _) ?_));rcases DJ s (i:=i) (by omega) with ⟨h1,_⟩|⟨h1,h2⟩
  ·omega
  ·rw [h2,List.all_cons];by_cases hc:Gb (bt s i)=true
   ·exact AU hc (BG (ih (i+1) (by omega)) (by rw [hc];simp))
   ·exact Ah hc (BG (Am _) (by rw [Bool.not_eq_true] at hc;rw [hc];simp))
theorem Nw (c:Int):FP c=decide (¬c<33/\¬c>126/\¬c=59):=by
 unfold FP;rw [Bool.eq_iff_iff];simp only [Bool.and_eq_true,Bool.not_eq_true',decide_eq_true_iff,decide_eq_false_iff_not];omega
theorem J8 (s:ByteArray) (hs:s.size<=4294967296) (d:Nat):∀ i:Nat,i+d=s.size->Ev (λk=>BR.l0 k s i) (((bytesOf s).drop i).all FP):=by
 induction d with
 |zero=>
  intro i hi;apply BB;simp only [BR.l0];exact Ah (by omega) (BG (Am _) (by rw [List.drop_eq_nil_of_le (by rw [bytesOf_length];omega)];simp))
 |succ d ih=>
  intro i hi;apply BB;simp only [BR.l0];have hw:wrap64 ((i:Int)+1)=((i+1:Nat):Int):=by rw [KD (by omega) (by omega)];omega
  rw [hw];refine AU (by omega) (AU (by omega) ?_);rcases DJ s (i:=i) (by omega) with ⟨h1,_⟩|⟨h1,h2⟩
  ·omega
  ·rw [h2,List.all_cons,Nw];by_cases h3:bt s i<33
   ·exact AU h3 (BG (Am _) (by rw [decide_eq_false (by omega)];rfl))
   ·refine Ah h3 ?_;by_cases h4:bt s i>126
    ·exact AU h4 (BG (Am _) (by rw [decide_eq_false (by omega)];rfl))
    ·refine Ah h4 ?_;by_cases h5:bt s i=59
     ·exact AU h5 (BG (Am _) (by rw [decide_eq_false (by omega)];rfl))
     ·exact Ah h5 (BG (ih (i+1) (by omega)) (by rw [decide_eq_true ⟨h3,h4,h5⟩];rfl))
theorem Ny {s:ByteArray} (hs:s.size<=3000):Ev (λk=>Aw.f k s) (Nt s):=by
 have h:=Lr s (by omega) s.size 0 (by omega);have e:decide ((s.size:Int)>0)= !decide (s.toList=([]:List UInt8)):=by
  rw [Bool.eq_iff_iff,Bool.not_eq_true',decide_eq_true_iff,decide_eq_false_iff_not];have hl:s.toList.length=s.size:=by rw [toList_data,Array.length_toList];rfl
  constructor
  ·intro h0 h1;rw [h1] at hl;simp at hl;omega
  ·intro h0;have:s.toList.length≠0:=λz=>h0 (List.eq_nil_of_length_eq_zero z)
   omega
 unfold Nt;rw [<-e];simpa [Aw.f] using h
theorem Nz {s:ByteArray} (hs:s.size<=3000):Ev (λk=>BA.f k s) (Nu s):=by
 have h:=Ls s (by omega) s.size 0 (by omega);simpa [BA.f,Nu] using h
theorem Lt {s:ByteArray} (hs:s.size<=3000):Ev (λk=>BR.f k s) (J7 s):=by
 have h:=J8 s (by omega) s.size 0 (by omega);simpa [BR.f,J7] using h
theorem Lu {p:ByteArray} (h:p.size<=3000):Ev (λk=>CL.f k p) (JE p):=by
 unfold CL.f JE;by_cases h1:(p.size:Int)>=1
 ·refine AU h1 ?_;by_cases h2:(p.size:Int)<=64
  ·refine AU h2 (AU (by omega) ?_);by_cases h3:bt p 0=47
   ·exact AU h3 (BL (Lt h) (BG (Am _) (by rw [decide_eq_true h1,decide_eq_true h2,decide_eq_true h3];rfl)))
   ·exact Ah h3 (BG (Am _) (by rw [decide_eq_false h3];simp))
  ·exact Ah h2 (BG (Am _) (by rw [decide_eq_false h2];simp))
 ·exact Ah h1 (BG (Am _) (by rw [decide_eq_false h1];simp))
theorem RB (c4 c5 c6 ss:Int):(Iq c4 c5 c6&&(decide (ss>=0)&&decide (ss<=3)))=decide (¬c4<0/\¬c4>253402300799/\¬c5<0/\¬c5>253402300799/\¬c6<0/\¬c6>253402300799/\ss>=0/\ss<=3):=by
 unfold Iq L6;rw [Bool.eq_iff_iff];simp only [Bool.and_eq_true,decide_eq_true_iff];omega
theorem Lv {d p n v:ByteArray} {c4 c5 c6:Int} {ho se ht:Bool} {ss:Int} (hd:d.size<=3000) (hp:p.size<=3000) (hn:n.size<=3000) (hv:v.size<=3000):Ev (λk=>AQ.f k d p n v c4 c5 c6 ho se ht ss) (Ir d p n v c4 c5 c6 ho ss):=by
 have j1:∀ x:Bool,Ev (λk=>AQ.j1 k x d p n v c4 c5 c6 ho se ht ss) (!x&&(Iq c4 c5 c6&&(decide (ss>=0)&&decide (ss<=3)))):=by
  intro x;apply BB;simp only [AQ.j1];cases x with
  |true=>exact AU rfl (Am _)
  |false=>
   refine Ah (by decide) ?_;rw [RB,Bool.not_false,Bool.true_and];by_cases h1:c4<0
   ·exact AU h1 (BG (Am _) (decide_eq_false (by omega)).symm)
   refine Ah h1 ?_;by_cases h2:c4>253402300799
   ·exact AU h2 (BG (Am _) (decide_eq_false (by omega)).symm)
   refine Ah h2 ?_;by_cases h3:c5<0
   ·exact AU h3 (BG (Am _) (decide_eq_false (by omega)).symm)
   refine Ah h3 ?_;by_cases h4:c5>253402300799
   ·exact AU h4 (BG (Am _) (decide_eq_false (by omega)).symm)
   refine Ah h4 ?_;by_cases h5:c6<0
   ·exact AU h5 (BG (Am _) (decide_eq_false (by omega)).symm)
   refine Ah h5 ?_;by_cases h6:c6>253402300799
   ·exact AU h6 (BG (Am _) (decide_eq_false (by omega)).symm)
   refine Ah h6 ?_;by_cases h7:ss>=0
   ·refine AU h7 (BG (Am _) ?_);rw [Bool.eq_iff_iff,decide_eq_true_iff,decide_eq_true_iff];omega
   ·exact Ah h7 (BG (Am _) (decide_eq_false (by omega)).symm)
 have j0:∀ x:Bool,Ev (λk=>AQ.j0 k x d p n v c4 c5 c6 ho se ht ss) (!x&&Pn p n v c4 c5 c6 ss):=by
  intro x;apply BB;simp only [AQ.j0];unfold Pn M8;cases x with
  |true=>exact AU rfl (Am _)
  |false=>
   refine Ah (by decide) (BL (Lu hp) ?_);by_cases h1:JE p=true
   ·refine AU h1 (BL (Ny hn) ?_);by_cases h2:Nt n=true
    ·refine AU h2 ?_;by_cases h3:(n.size:Int)>64
     ·exact AU h3 (BG (j1 true) (by rw [decide_eq_true h3];simp))
     ·refine Ah h3 (BL (Nz hv) ?_);by_cases h4:Nu v=true
      ·exact AU h4 (BG (j1 _) (by rw [h1,h2,h4,decide_eq_false h3];simp))
      ·exact Ah h4 (BG (j1 true) (by rw [Bool.not_eq_true] at h4;rw [h4];simp))
    ·exact Ah h2 (BG (j1 true) (by rw [Bool.not_eq_true] at h2;rw [h2];simp))
   ·exact Ah h1 (BG (j1 true) (by rw [Bool.not_eq_true] at h1;rw [h1];simp))
 unfold AQ.f Ir;refine BL (Li (by omega)) ?_;by_cases h1:(EK d).2=true
 ·refine AU h1 ?_;by_cases h2:(EK d).1.toList=d.toList
  ·have h3:=toList_inj.mp h2;refine AU h2 (BL (PW (by omega)) ?_);rw [h3,h1,decide_eq_true rfl];by_cases h4:Uu d=true
   ·exact AU h4 (BG (j0 _) (by rw [h4];simp))
   ·exact Ah h4 (BG (j0 _) (by rw [Bool.not_eq_true] at h4;rw [h4];simp))
  ·refine Ah h2 (BG (j0 true) ?_);rw [decide_eq_false (λe=>h2 (EC.mpr e))];simp
 ·refine Ah h1 (BG (j0 true) ?_);rw [Bool.not_eq_true] at h1;rw [h1];simp
end Go.Proofs.YtikggnalmidlhaaGreatDoor.Y
end
