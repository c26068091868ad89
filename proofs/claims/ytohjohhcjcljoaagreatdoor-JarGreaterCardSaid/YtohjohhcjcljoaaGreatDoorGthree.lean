/- JarThree, walked by hand over its callees' contracts. -/
import Derived.Test.YtohjohhcjcljoaaGreatDoorGalive15
import Derived.Test.YtohjohhcjcljoaaGreatDoorPrint21
namespace Go.Proofs.YtohjohhcjcljoaaGreatDoor.Print
open RowKit Ak BR BS Range Shelf
set_option linter.unusedVariables false
set_option linter.unusedSimpArgs false
attribute [local go_sem] Oper.semAt_some
def WT (W:World) (A:Option Addr) (n c:Nat) (l:List Um):Prop:=l.length=n/\Kd.V E8 43 W 0 (λ_=>True) (.slice A n c) l
theorem WT.below {W w1:World} {A:Option Addr} {n c:Nat} {l:List Um} (h:WT W A n c l) (hb:Below W.heap.size W w1):WT w1 A n c l:=⟨h.1,Kd.CV h.2 hb⟩
theorem WT.VX {W:World} {A:Option Addr} {c:Nat} {l:List Um} (h:Kd.C E8 W A l.length l) (hc:l.length<=c):WT W A l.length c l:=⟨rfl,Kd.CL (base:=0) (Kd.Hd hc (Kd.RQ NN h)) (λ_ _=>trivial)⟩
theorem WT.Vt {W:World} {base:Nat} {ok:Nat->Prop} {v:Value} {l:List Um} (h:Kd.V E8 43 W base ok v l):∃ A c,v= .slice A l.length c/\WT W A l.length c l:=by
 obtain ⟨A,c,rfl⟩:=Kd.Ec h;exact ⟨A,c,rfl,rfl,Kd.CL h (λ_ _=>trivial)⟩
abbrev Cs:=List (Option Addr×Nat×Nat×List Um)
structure St (w W:World) (js:List (Nat×List OW)) (cs:Cs):Prop where
 b:Below w.heap.size w W
 g:C9 W
 j:∀ p∈js,∃ A c,W.heap[p.1]? =some (.cells #[.slice A p.2.length c] 31 (0,0))/\Ij W A p.2.length c p.2
 c:∀ p∈cs,WT W p.1 p.2.1 p.2.2.1 p.2.2.2
section
variable {w W w':World} {js:List (Nat×List OW)} {cs:Cs}
theorem St.below (S:AA (St w W js cs)) (hb:Below W.heap.size W w'):AA (St w w' js cs):=
 ⟨⟨AL S.out.b hb,C9.below S.out.g hb,λp hp=>(S.out.j p hp).imp λA ⟨c,h,t⟩=>⟨c,CR hb h,t.below hb⟩,λp hp=>(S.out.c p hp).below hb⟩⟩
theorem St.push {A:Option Addr} {n c:Nat} {l:List OW} (S:AA (St w W js cs)) (T:Ij W A n c l):AA (St w (W.alloc (.cells #[.slice A n c] 31 (0,0))) ((W.heap.size,l)::js) cs):=by
 have hb:Below W.heap.size W (W.alloc (.cells #[.slice A n c] 31 (0,0))):=(Below.refl _ _).alloc (Nat.le_refl _) _;obtain ⟨S2⟩:=St.below S hb;refine ⟨⟨S2.b,S2.g,λp hp=>?_,S2.c⟩⟩;rcases List.mem_cons.1 hp with rfl|hp
 ·obtain ⟨rfl,hv⟩:=T;exact ⟨A,c,Eb _ _,rfl,Kd.CV hv hb⟩
 ·exact S2.j p hp
theorem St.Wp (S:AA (St w W js cs)) {g:Nat} {l:List OW} (hm:(g,l)∈js):∃ A c,W.cell? ⟨g,0,none⟩=some (.slice A l.length c)/\Ij W A l.length c l:=by
 obtain ⟨A,c,h,t⟩:=S.out.j _ hm;exact ⟨A,c,EM (i:=0) h rfl,t⟩
theorem St.Wh {A:Option Addr} {n c:Nat} {l:List Um} (S:AA (St w W js cs)) (T:WT W A n c l):AA (St w W js ((A,n,c,l)::cs)):=
 ⟨⟨S.out.b,S.out.g,S.out.j,λp hp=>by rcases List.mem_cons.1 hp with rfl|hp<;>first|exact T|exact S.out.c p hp⟩⟩
theorem St.start (hG:C9 w):AA (St w w [] []):=⟨⟨Below.refl _ _,hG,by simp,by simp⟩⟩
theorem St.row {A:Option Addr} {n c:Nat} {l:List Um} (S:AA (St w W js cs)) (hm:(A,n,c,l)∈cs):WT W A n c l:=S.out.c _ hm
theorem W9 {e g:Int} (h:e=152\/g=152):(e==152)=true\/((e==152)=false/\(g==152)=true):=by
 by_cases he:e=152
 ·exact .inl (beq_iff_eq.2 he)
 ·exact .inr ⟨beq_eq_false_iff_ne.2 he,beq_iff_eq.2 (h.resolve_left he)⟩
theorem WV (h:Be W w'):Below W.heap.size W w':=by
 obtain ⟨n,rfl⟩:=h;exact DD (Below.refl _ _) _
variable {k:Nat} {A:Option Addr} {n c:Nat} {l:List Um} {b:Bool}
theorem WZ (S:AA (St w W js cs):=by assumption) (hm:(A,n,c,l)∈cs:=by first|exact .head _|exact .tail _ (.head _)|exact .tail _ (.tail _ (.head _))) (F:AA (Al.f k l=some b):=by assumption):
 Calls Tryz.prog 10 #[.slice A n c] W λe w'=>e= .returned (.bool b)/\AA (St w w' js cs):=by
 obtain ⟨rfl,hv⟩:=(show WT W A n c l from S.out.c _ hm);exact (Al.calls k A c l b W (Kd.Bf hv).2.2 (Kd.Bf hv).2.1 F.out).mono λe w' ⟨he,hd⟩=>⟨he,St.below S (WV hd)⟩
theorem WR (S:AA (St w W js cs):=by assumption) (hm:(A,n,c,l)∈cs:=by first|exact .head _|exact .tail _ (.head _)|exact .tail _ (.tail _ (.head _))) (F:AA (BJ.f k l=some b):=by assumption):
 Calls Tryz.prog 18 #[.slice A n c] W λe w'=>e= .returned (.bool b)/\AA (St w w' js cs):=by
 obtain ⟨rfl,hv⟩:=(show WT W A n c l from S.out.c _ hm);exact (BJ.calls k A c l b W (Kd.Bf hv).2.2 (Kd.Bf hv).2.1 F.out).mono λe w' ⟨he,hd⟩=>⟨he,St.below S hd⟩
theorem WQ (S:AA (St w W js cs):=by assumption):Calls Tryz.prog 11 #[] W λe w'=>e= .returned (.bool true)/\AA (St w w' js cs):=
 (Bh.calls true W ⟨S.out.g⟩ rfl).mono λe w' ⟨he,hd⟩=>⟨he,St.below S hd⟩
theorem XH {r:List OW} {er:Int} (S:AA (St w W js cs):=by assumption) (hm:(A,n,c,l)∈cs:=by first|exact .head _|exact .tail _ (.head _)|exact .tail _ (.tail _ (.head _))) (F:AA (DY.f k l=some (r,er)):=by assumption):
 Calls Tryz.prog 12 #[.slice A n c] W λe w'=>∃ A' c',e= .returned (.tuple #[.agg #[.slice A' r.length c'], .int .i64 er])/\Ij w' A' r.length c' r/\AA (St w w' js cs):=by
 obtain ⟨rfl,hv⟩:=(show WT W A n c l from S.out.c _ hm);exact (VX F.out rfl rfl (Kd.Bf hv).2.2 (Kd.Bf hv).2.1 ⟨S.out.g⟩).mono λe w' ⟨A',c',he,ht,hd⟩=>⟨A',c',he,ht,St.below S hd⟩
theorem WW {a b r:List OW} {er:Int} {A B:Option Addr} {n m c d:Nat} (S:AA (St w W js cs)) (Ta:Ij W A n c a) (Tb:Ij W B m d b) (F:AA (Dy.f k a b=some (r,er))):
 Calls Tryz.prog 28 #[.agg #[.slice A n c], .agg #[.slice B m d]] W λe w'=>∃ A' c',e= .returned (.tuple #[.agg #[.slice A' r.length c'], .int .i64 er])/\Ij w' A' r.length c' r/\AA (St w w' js cs):=
 (Xb F.out rfl Ta Tb).mono λe w' ⟨A',c',he,ht,hd⟩=>⟨A',c',he,ht,St.below S hd⟩
theorem XA {l m r:List Um} {A B:Option Addr} {n n2 c d:Nat} (S:AA (St w W js cs)) (Ta:WT W A n c l) (Tb:WT W B n2 d m) (F:AA (BO.f k l m=some r)):
 Calls Tryz.prog 31 #[.slice A n c, .slice B n2 d] W λe w'=>∃ A' c',e= .returned (.slice A' r.length c')/\WT w' A' r.length c' r/\AA (St w w' js cs):=by
 obtain ⟨rfl,hv⟩:=Ta;obtain ⟨rfl,hv2⟩:=Tb;refine (BO.calls k (λ_=>True) A c l B d m r W hv (Kd.Bf hv2).2.2 (Kd.Bf hv2).2.1 F.out).mono ?_;rintro e w' ⟨v,rfl,hv3,hb⟩;obtain ⟨A',c',rfl,t⟩:=WT.Vt hv3;exact ⟨A',c',rfl,t,St.below S hb⟩
theorem XB {l:List Um} {A:Option Addr} {n c:Nat} (S:AA (St w W js cs)) (Ta:WT W A n c l) (F:AA (Bj.f k l=some b)):
 Calls Tryz.prog 32 #[.slice A n c] W λe w'=>e= .returned (.bool b)/\WT w' A n c l/\AA (St w w' js cs):=by
 obtain ⟨rfl,hv⟩:=Ta;exact (Bj.calls k A c l b W (Kd.Bf hv).2.2 (Kd.Bf hv).2.1 F.out).mono λe w' ⟨he,hd⟩=>⟨he,⟨rfl,Kd.CV hv (WV hd)⟩,St.below S (WV hd)⟩
theorem XF {a:List OW} {r:List Um} {A:Option Addr} {n c:Nat} (S:AA (St w W js cs)) (Ta:Ij W A n c a) (F:AA (Bb.f a=some r)):
 Calls Tryz.prog 15 #[.agg #[.slice A n c]] W λe w'=>∃ A' c',e= .returned (.slice A' r.length c')/\WT w' A' r.length c' r/\AA (St w w' js cs):=by
 obtain ⟨rfl,hv⟩:=Ta;refine (Bb.calls A c a r W (Kd.Bf hv).2.2 (Kd.Bf hv).2.1 F.out).mono ?_;rintro e w' ⟨v,rfl,hv3,hb⟩;obtain ⟨A',c',rfl,t⟩:=WT.Vt (Kd.Ul (base':=0) hv3);exact ⟨A',c',rfl,t,St.below S hb⟩
theorem Wx {l m:List Um} {A B:Option Addr} {n n2 c d:Nat} (S:AA (St w W js cs)) (Ta:WT W A n c l) (Tb:WT W B n2 d m) (F:AA (Ab.f k l m=some b)):
 Calls Tryz.prog 14 #[.slice A n c, .slice B n2 d] W λe w'=>e= .returned (.bool b)/\AA (St w w' js cs):=by
 obtain ⟨rfl,hv⟩:=Ta;obtain ⟨rfl,hv2⟩:=Tb;exact (Ab.calls k A c l B d m b W (Kd.Bf hv).2.2 (Kd.Bf hv).2.1 (Kd.Bf hv2).2.2 (Kd.Bf hv2).2.1 F.out).mono λe w' ⟨he,hd⟩=>⟨he,St.below S (WV hd)⟩
theorem XG {a b:List OW} {A B:Option Addr} {n m c d:Nat} {r:Bool} (S:AA (St w W js cs)) (Ta:Ij W A n c a) (Tb:Ij W B m d b) (F:AA (ES.f k a b=some r)):
 Calls Tryz.prog 30 #[.agg #[.slice A n c], .agg #[.slice B m d]] W λe w'=>e= .returned (.bool r)/\AA (St w w' js cs):=by
 obtain ⟨rfl,hv⟩:=Ta;obtain ⟨rfl,hv2⟩:=Tb;exact (ES.calls k A c a B d b r W (Kd.Bf hv).2.2 (Kd.Bf hv).2.1 (Kd.Bf hv2).2.2 (Kd.Bf hv2).2.1 F.out).mono λe w' ⟨he,hd⟩=>⟨he,St.below S hd⟩
end
end Go.Proofs.YtohjohhcjcljoaaGreatDoor.Print
