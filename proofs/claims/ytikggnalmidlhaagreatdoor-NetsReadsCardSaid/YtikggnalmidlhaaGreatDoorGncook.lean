/- The reference's cookie of a line, walked by hand. -/
import Derived.Test.YtikggnalmidlhaaGreatDoorM22
namespace Go.Proofs.YtikggnalmidlhaaGreatDoor.Print
open RowKit AR Aa Ad
set_option linter.unusedVariables false
set_option linter.unusedSimpArgs false
theorem Wm (a c:ByteArray):Vf.f a c=some (TT a c):=by
 unfold Vf.f TT;by_cases h:c.size<=a.size
 ·rw [if_pos (by omega),if_pos (by omega),if_pos (by omega),decide_eq_true h,Int.toNat_natCast];rfl
 ·rw [if_neg (by omega),decide_eq_false h];rfl
theorem Vj {w W:World} {bs:Bs} {a c:ByteArray} {r:Bool} (S:AA (St w W bs)) (h:TT a c=r):Calls Tryz.prog 17 #[.string a, .string c] W λe W'=>e= .returned (.bool r)/\AA (St w W' bs):=St.P9 S (Vf.calls a c r W (by rw [Wm,h]))
def Vy (k:Nat) (only:Bool) (now:Int) (f0 f1 f2 f3 f4 f5 f6:ByteArray):Option (CU×Int):=
 if Hz f1=true\/Hz f3=true\/TT f0 O4≠P6 f1 then some (Ug,192) else
 (Ai.f k (if P6 f1=true then f0.extract 1 f0.size else f0)).bind λd=>(Ac.f k f4).bind λx=>
  if d.2=false\/x.2=false then some (Ug,192) else
  (AQ.f k d.1 f2 f5 f6 now now x.1 (VP f1) (P6 f3) only 0).bind λt=>if t=true then some (⟨d.1,f2,f5,f6,now,now,x.1,VP f1,P6 f3,only,0⟩,0) else some (Ug,192)
def XL (k:Nat) (only:Bool) (now:Int):List ByteArray->Option (CU×Int)
 |[f0,f1,f2,f3,f4,f5,f6]=>Vy k only now f0 f1 f2 f3 f4 f5 f6
 |_=>some (Ug,191)
def WV (k:Nat) (s:ByteArray) (now:Int):Option (CU×Int):=
 (Va.f k (if TT s Fb=true then s.extract 10 s.size else s)).bind λf=>XL k (TT s Fb) now f
def Ve.f (k:Nat) (s:ByteArray) (now:Int):Option (ByteArray×ByteArray×ByteArray×ByteArray×Int×Int×Int×Bool×Bool×Bool×Int×Int):=
 (WV k s now).bind λr=>some (r.1.f0,r.1.f1,r.1.f2,r.1.f3,r.1.f4,r.1.f5,r.1.f6,r.1.f7,r.1.f8,r.1.f9,r.1.f10,r.2)
theorem Vl {a c:ByteArray} (h:TT a c=true):c.size<=a.size:=by
 unfold TT at h;rw [Bool.and_eq_true] at h;exact of_decide_eq_true h.1
set_option maxHeartbeats 4000000 in
set_option maxRecDepth 100000 in
theorem XI {k:Nat} {s rest:ByteArray} {only:Bool} {now:Int} {f:List ByteArray} {w:World} (H:AA (TT s Fb=only)) (hr:rest=if only=true then s.extract 10 s.size else s) (T:AA (Va.f k rest=some f)) (h7:f.length≠7):
 Calls Tryz.prog 30 #[.string s, .int .i64 now] w λe W'=>e= .returned (.tuple #[.agg Fa, .int .i64 191])/\Below w.heap.size w W':=by
 have u1:=Tryz.underlying53;have u3:=Tryz.underlying4;have S:=St.start w;have n1:((f.length:Int) != 7)=true:=bne_iff_ne.2 (by omega);have n2:(f.length != 7)=true:=bne_iff_ne.2 h7;have n3:(f.length==7)=false:=beq_eq_false_iff_ne.2 h7;have hz:only=true->10<=s.size:=λe=>Vl (c:=Fb) (by rw [H.out,e])
 cases only
 case' false=>rw [if_neg (by decide)] at hr
 case' true=>
  rw [if_pos rfl] at hr;have z0:=hz rfl;have z1:=eq_true z0;have z2:=eq_true (show (10:Int)<=(s.size:Int) by omega);have z3:decide (10<=s.size)=true:=decide_eq_true z0
 all_goals
  clear hz;subst hr;go_enter Tryz.func30,Tryz.ntmps30;go_wp2_with (first|(refine NT (N:=4) Fa 53 (λb4 W_ S_=>?_);replace S:=S_;clear S_)|(refine NT (N:=6) Fa 53 (λb6 W_ S_=>?_);replace S:=S_;clear S_)|(go_at_call 17;refine (Vj S H.out).mono ?_;rintro e W_ ⟨rfl,S_⟩;replace S:=S_;clear S_)|((with_reducible refine DD rfl ?_);refine EM ?_)|((with_reducible refine C8 rfl ?_);refine Gg (λW_ S_=>?_);replace S:=S_;clear S_)|(go_at_call 59;refine (Va.calls k _ f _ T.out).mono ?_;rintro e W_ ⟨v8,rfl,hr,hb⟩;obtain ⟨A8,c8,rfl⟩:=Kd.CE hr;replace S:=St.below S hb;clear hr hb));refine bodyPost_ret (DC rfl _ _ b4 53 _ (0,0) _ rfl (S.out.x _ (.tail _ (.head _))).1 u1 rfl (by kernel_rfl)) rfl ?_;exact ⟨rfl,S.out.b⟩
set_option maxHeartbeats 40000000 in
set_option maxRecDepth 100000 in
theorem XM {k:Nat} {s rest:ByteArray} {only:Bool} {now:Int} {f0 f1 f2 f3 f4 f5 f6:ByteArray} {w:World} (H:AA (TT s Fb=only)) (hr:rest=if only=true then s.extract 10 s.size else s) (T:AA (Va.f k rest=some [f0,f1,f2,f3,f4,f5,f6])) (n1:(f1.toList != ([84,82,85,69]:List UInt8))=true) (n2:(f1.toList != ([70,65,76,83,69]:List UInt8))=true):
 Calls Tryz.prog 30 #[.string s, .int .i64 now] w λe W'=>e= .returned (.tuple #[.agg Fa, .int .i64 192])/\Below w.heap.size w W':=by
 have q1:(f1.toList==([84,82,85,69]:List UInt8))=false:=by simpa [bne] using n1
 have q2:(f1.toList==([70,65,76,83,69]:List UInt8))=false:=by simpa [bne] using n2
 have hz:only=true->10<=s.size:=λe=>Vl (c:=Fb) (by rw [H.out,e])
 have u1:=Tryz.underlying53;have u2:=Tryz.underlying9;have u3:=Tryz.underlying4;have S:=St.start w;cases only
 case' false=>rw [if_neg (by decide)] at hr
 case' true=>
  rw [if_pos rfl] at hr;have z0:=hz rfl;have z1:=eq_true z0;have z2:=eq_true (show (10:Int)<=(s.size:Int) by omega);have z3:decide (10<=s.size)=true:=decide_eq_true z0
 all_goals
  clear hz;subst hr;go_enter Tryz.func30,Tryz.ntmps30;go_wp2_with (first|(refine NT (N:=4) Fa 53 (λb4 W_ S_=>?_);replace S:=S_;clear S_)|(refine NT (N:=6) Fa 53 (λb6 W_ S_=>?_);replace S:=S_;clear S_)|(go_at_call 17;refine (Vj S H.out).mono ?_;rintro e W_ ⟨rfl,S_⟩;replace S:=S_;clear S_)|(go_at_call 59;refine (Va.calls k _ _ _ T.out).mono ?_;rintro e W_ ⟨v8,rfl,hr,hb⟩;obtain ⟨g,cap,cur,rfl,S_,hcur⟩:=St.texts S hb hr (by simp);have h0:=hcur 0 _ rfl;have h1:=hcur 1 _ rfl;have h2:=hcur 2 _ rfl;have h3:=hcur 3 _ rfl;have h4:=hcur 4 _ rfl;have h5:=hcur 5 _ rfl;have h6:=hcur 6 _ rfl;replace S:=S_;clear S_ hr hb hcur)|((with_reducible refine DD rfl ?_);(first|refine EM ?_|refine EM ?_ (hv:=h0)|refine EM ?_ (hv:=h1)|refine EM ?_ (hv:=h2)|refine EM ?_ (hv:=h3)|refine EM ?_ (hv:=h4)|refine EM ?_ (hv:=h5)|refine EM ?_ (hv:=h6)|(refine Gf ?_;(first|refine EM ?_|refine EM ?_ (hv:=h1)|refine EM ?_ (hv:=h3)))))|((with_reducible refine C8 rfl ?_);(first|(refine Gg (λW_ S_=>?_);replace S:=S_;clear S_)|(refine IZ (λW_ S_=>?_);replace S:=S_;clear S_))));refine bodyPost_ret (DC rfl _ _ b4 53 _ (0,0) _ rfl (S.out.x _ (.tail _ (.tail _ (.head _)))).1 u1 rfl (by kernel_rfl)) (by rfl) ?_;exact ⟨rfl,S.out.b⟩
set_option maxHeartbeats 40000000 in
set_option maxRecDepth 100000 in
theorem XN {k:Nat} {s rest:ByteArray} {only:Bool} {now:Int} {f0 f1 f2 f3 f4 f5 f6:ByteArray} {w:World} (H:AA (TT s Fb=only)) (hr:rest=if only=true then s.extract 10 s.size else s) (T:AA (Va.f k rest=some [f0,f1,f2,f3,f4,f5,f6])) {wide:Bool} (e1:(f1.toList==([84,82,85,69]:List UInt8))=wide) (e1':(f1.toList==([70,65,76,83,69]:List UInt8))= !wide) (n1:(f3.toList != ([84,82,85,69]:List UInt8))=true) (n2:(f3.toList != ([70,65,76,83,69]:List UInt8))=true):
 Calls Tryz.prog 30 #[.string s, .int .i64 now] w λe W'=>e= .returned (.tuple #[.agg Fa, .int .i64 192])/\Below w.heap.size w W':=by
 have m1:(f1.toList != ([84,82,85,69]:List UInt8))= !wide:=by unfold bne;rw [e1]
 have m1':(f1.toList != ([70,65,76,83,69]:List UInt8))=wide:=by unfold bne;rw [e1',Bool.not_not]
 have q1:(f3.toList==([84,82,85,69]:List UInt8))=false:=by simpa [bne] using n1
 have q2:(f3.toList==([70,65,76,83,69]:List UInt8))=false:=by simpa [bne] using n2
 have hz:only=true->10<=s.size:=λe=>Vl (c:=Fb) (by rw [H.out,e])
 have u1:=Tryz.underlying53;have u2:=Tryz.underlying9;have u3:=Tryz.underlying4;have S:=St.start w;cases only
 case' false=>rw [if_neg (by decide)] at hr
 case' true=>
  rw [if_pos rfl] at hr;have z0:=hz rfl;have z1:=eq_true z0;have z2:=eq_true (show (10:Int)<=(s.size:Int) by omega);have z3:decide (10<=s.size)=true:=decide_eq_true z0
 all_goals
  clear hz;subst hr;cases wide
 all_goals
  go_enter Tryz.func30,Tryz.ntmps30;go_wp2_with (first|(refine NT (N:=4) Fa 53 (λb4 W_ S_=>?_);replace S:=S_;clear S_)|(refine NT (N:=6) Fa 53 (λb6 W_ S_=>?_);replace S:=S_;clear S_)|(go_at_call 17;refine (Vj S H.out).mono ?_;rintro e W_ ⟨rfl,S_⟩;replace S:=S_;clear S_)|(go_at_call 59;refine (Va.calls k _ _ _ T.out).mono ?_;rintro e W_ ⟨v8,rfl,hr,hb⟩;obtain ⟨g,cap,cur,rfl,S_,hcur⟩:=St.texts S hb hr (by simp);have h0:=hcur 0 _ rfl;have h1:=hcur 1 _ rfl;have h2:=hcur 2 _ rfl;have h3:=hcur 3 _ rfl;have h4:=hcur 4 _ rfl;have h5:=hcur 5 _ rfl;have h6:=hcur 6 _ rfl;replace S:=S_;clear S_ hr hb hcur)|((with_reducible refine DD rfl ?_);(first|refine EM ?_|refine EM ?_ (hv:=h0)|refine EM ?_ (hv:=h1)|refine EM ?_ (hv:=h2)|refine EM ?_ (hv:=h3)|refine EM ?_ (hv:=h4)|refine EM ?_ (hv:=h5)|refine EM ?_ (hv:=h6)|(refine Gf ?_;(first|refine EM ?_|refine EM ?_ (hv:=h1)|refine EM ?_ (hv:=h3)))))|((with_reducible refine C8 rfl ?_);(first|(refine Gg (λW_ S_=>?_);replace S:=S_;clear S_)|(refine IZ (λW_ S_=>?_);replace S:=S_;clear S_))));refine bodyPost_ret (DC rfl _ _ b4 53 _ (0,0) _ rfl (S.out.x _ (.tail _ (.tail _ (.head _)))).1 u1 rfl (by kernel_rfl)) (by rfl) ?_;exact ⟨rfl,S.out.b⟩
set_option maxHeartbeats 40000000 in
set_option maxRecDepth 100000 in
theorem XQ {k:Nat} {s rest:ByteArray} {only:Bool} {now:Int} {f0 f1 f2 f3 f4 f5 f6:ByteArray} {w:World} (H:AA (TT s Fb=only)) (hr:rest=if only=true then s.extract 10 s.size else s) (T:AA (Va.f k rest=some [f0,f1,f2,f3,f4,f5,f6])) {wide sec dot:Bool} (e1:(f1.toList==([84,82,85,69]:List UInt8))=wide) (e1':(f1.toList==([70,65,76,83,69]:List UInt8))= !wide) (e3:(f3.toList==([84,82,85,69]:List UInt8))=sec) (e3':(f3.toList==([70,65,76,83,69]:List UInt8))= !sec) (hd:TT f0 O4=dot) (hne:dot≠wide):
 Calls Tryz.prog 30 #[.string s, .int .i64 now] w λe W'=>e= .returned (.tuple #[.agg Fa, .int .i64 192])/\Below w.heap.size w W':=by
 have hn:(dot != wide)=true:=bne_iff_ne.2 hne;have m1:(f1.toList != ([84,82,85,69]:List UInt8))= !wide:=by unfold bne;rw [e1]
 have m1':(f1.toList != ([70,65,76,83,69]:List UInt8))=wide:=by unfold bne;rw [e1',Bool.not_not]
 have m3:(f3.toList != ([84,82,85,69]:List UInt8))= !sec:=by unfold bne;rw [e3]
 have m3':(f3.toList != ([70,65,76,83,69]:List UInt8))=sec:=by unfold bne;rw [e3',Bool.not_not]
 have hz:only=true->10<=s.size:=λe=>Vl (c:=Fb) (by rw [H.out,e])
 have u1:=Tryz.underlying53;have u2:=Tryz.underlying9;have u3:=Tryz.underlying4;have S:=St.start w;cases only
 case' false=>rw [if_neg (by decide)] at hr
 case' true=>
  rw [if_pos rfl] at hr;have z0:=hz rfl;have z1:=eq_true z0;have z2:=eq_true (show (10:Int)<=(s.size:Int) by omega);have z3:decide (10<=s.size)=true:=decide_eq_true z0
 all_goals
  clear hz;subst hr;go_enter Tryz.func30,Tryz.ntmps30;go_upto_region 7 with (first|(refine NT (N:=4) Fa 53 (λb4 W_ S_=>?_);replace S:=S_;clear S_)|(refine NT (N:=6) Fa 53 (λb6 W_ S_=>?_);replace S:=S_;clear S_)|(go_at_call 17;refine (Vj S H.out).mono ?_;rintro e W_ ⟨rfl,S_⟩;replace S:=S_;clear S_)|(go_at_call 59;refine (Va.calls k _ _ _ T.out).mono ?_;rintro e W_ ⟨v8,rfl,hr,hb⟩;obtain ⟨g,cap,cur,rfl,S_,hcur⟩:=St.texts S hb hr (by simp);have h0:=hcur 0 _ rfl;have h1:=hcur 1 _ rfl;have h2:=hcur 2 _ rfl;have h3:=hcur 3 _ rfl;have h4:=hcur 4 _ rfl;have h5:=hcur 5 _ rfl;have h6:=hcur 6 _ rfl;replace S:=S_;clear S_ hr hb hcur)|((with_reducible refine DD rfl ?_);(first|refine EM ?_|refine EM ?_ (hv:=h0)|refine EM ?_ (hv:=h1)|refine EM ?_ (hv:=h2)|refine EM ?_ (hv:=h3)|refine EM ?_ (hv:=h4)|refine EM ?_ (hv:=h5)|refine EM ?_ (hv:=h6)|(refine Gf ?_;(first|refine EM ?_|refine EM ?_ (hv:=h1)|refine EM ?_ (hv:=h3)))))|((with_reducible refine C8 rfl ?_);(first|(refine Gg (λW_ S_=>?_);replace S:=S_;clear S_)|(refine IZ (λW_ S_=>?_);replace S:=S_;clear S_))))
  cases wide<;>cases sec<;>cases dot<;>first|exact absurd rfl hne|skip
 all_goals
  clear hne;go_upto_region 9 with (first|(refine NT (N:=4) Fa 53 (λb4 W_ S_=>?_);replace S:=S_;clear S_)|(refine NT (N:=6) Fa 53 (λb6 W_ S_=>?_);replace S:=S_;clear S_)|(go_at_call 17;refine (Vj S H.out).mono ?_;rintro e W_ ⟨rfl,S_⟩;replace S:=S_;clear S_)|(go_at_call 59;refine (Va.calls k _ _ _ T.out).mono ?_;rintro e W_ ⟨v8,rfl,hr,hb⟩;obtain ⟨g,cap,cur,rfl,S_,hcur⟩:=St.texts S hb hr (by simp);have h0:=hcur 0 _ rfl;have h1:=hcur 1 _ rfl;have h2:=hcur 2 _ rfl;have h3:=hcur 3 _ rfl;have h4:=hcur 4 _ rfl;have h5:=hcur 5 _ rfl;have h6:=hcur 6 _ rfl;replace S:=S_;clear S_ hr hb hcur)|((with_reducible refine DD rfl ?_);(first|refine EM ?_|refine EM ?_ (hv:=h0)|refine EM ?_ (hv:=h1)|refine EM ?_ (hv:=h2)|refine EM ?_ (hv:=h3)|refine EM ?_ (hv:=h4)|refine EM ?_ (hv:=h5)|refine EM ?_ (hv:=h6)|(refine Gf ?_;(first|refine EM ?_|refine EM ?_ (hv:=h1)|refine EM ?_ (hv:=h3)))))|((with_reducible refine C8 rfl ?_);(first|(refine Gg (λW_ S_=>?_);replace S:=S_;clear S_)|(refine IZ (λW_ S_=>?_);replace S:=S_;clear S_))))
  refine Eg (n:=9) (S:=λw'=>∃ bs',AA (St w w' bs')/\(g,cur,9)∈bs') (ds:=[]) (bm 9 0) (by kernel_rfl) rfl rfl ⟨_,St.below S (CK (Below.refl _ _)), .head _⟩ (λhH=>?_);replace S:=St.below S (CK (Below.refl _ _));refine Ay (i:=0) (N:=some 51) (bm 9 1) rfl rfl (by kernel_rfl) (Or.inl ⟨by rfl,by intro w';go_simp;with_reducible rfl⟩) ?_;refine Ay (i:=1) (N:=some 52) (bm 9 3) rfl rfl (by kernel_rfl) (Or.inl ⟨by rfl,by intro w';go_simp;with_reducible rfl⟩) ?_;refine Cn (i:=2) (N:=some 53) (bm 9 7) rfl rfl (by kernel_rfl) (Or.inl ⟨by rfl,λw' ⟨_,S_,m_⟩=>P8 S_ rfl rfl u2 m_ h0 rfl⟩) hH ?_;refine Ay (i:=4) (N:=some 55) (bm 9 23) rfl rfl (by kernel_rfl) (Or.inl ⟨by rfl,by intro w';go_simp;with_reducible rfl⟩) ?_;refine Ay (i:=5) (N:=some 56) (bm 9 55) rfl rfl (by kernel_rfl) (Or.inl ⟨by rfl,by intro w';go_simp;with_reducible rfl⟩) ?_;refine Cn (i:=6) (N:=some 57) (bm 9 119) rfl rfl (by kernel_rfl) (Or.inl ⟨by rfl,λw' ⟨_,S_,m_⟩=>P8 S_ rfl rfl u2 m_ h1 rfl⟩) hH ?_;refine Ay (i:=7) (N:=some 58) (bm 9 247) rfl rfl (by kernel_rfl) (Or.inl ⟨by rfl,by intro w';go_simp;with_reducible rfl⟩) ?_;refine D8 (i:=3) (N:=some 54) (bm 9 255) rfl rfl (by kernel_rfl) (by decide) (λK hK=>?_);refine Dy Tryz.func17 (by kernel_rfl) rfl #[.string f0, .string O4] (by rfl) rfl rfl xg ?_;refine (Vj S hd).mono ?_;rintro e_ W_ ⟨rfl,S_⟩;refine ⟨_,rfl,?_⟩;replace S:=S_;clear S_;refine hK.out _ _ ⟨_,S, .head _⟩ (λhH=>?_);clear hK K;refine DK (some 54) rfl ?_;refine Ay (i:=8) (N:=some 59) (bm 9 511) rfl rfl (by kernel_rfl) (Or.inl ⟨by rfl,by intro w';go_simp;with_reducible rfl⟩) ?_;refine Fe (by kernel_rfl) ?_;clear hH;go_wp2_with (first|(refine NT (N:=4) Fa 53 (λb4 W_ S_=>?_);replace S:=S_;clear S_)|(refine NT (N:=6) Fa 53 (λb6 W_ S_=>?_);replace S:=S_;clear S_)|(go_at_call 17;refine (Vj S H.out).mono ?_;rintro e W_ ⟨rfl,S_⟩;replace S:=S_;clear S_)|(go_at_call 59;refine (Va.calls k _ _ _ T.out).mono ?_;rintro e W_ ⟨v8,rfl,hr,hb⟩;obtain ⟨g,cap,cur,rfl,S_,hcur⟩:=St.texts S hb hr (by simp);have h0:=hcur 0 _ rfl;have h1:=hcur 1 _ rfl;have h2:=hcur 2 _ rfl;have h3:=hcur 3 _ rfl;have h4:=hcur 4 _ rfl;have h5:=hcur 5 _ rfl;have h6:=hcur 6 _ rfl;replace S:=S_;clear S_ hr hb hcur)|((with_reducible refine DD rfl ?_);(first|refine EM ?_|refine EM ?_ (hv:=h0)|refine EM ?_ (hv:=h1)|refine EM ?_ (hv:=h2)|refine EM ?_ (hv:=h3)|refine EM ?_ (hv:=h4)|refine EM ?_ (hv:=h5)|refine EM ?_ (hv:=h6)|(refine Gf ?_;(first|refine EM ?_|refine EM ?_ (hv:=h1)|refine EM ?_ (hv:=h3)))))|((with_reducible refine C8 rfl ?_);(first|(refine Gg (λW_ S_=>?_);replace S:=S_;clear S_)|(refine IZ (λW_ S_=>?_);replace S:=S_;clear S_))));refine bodyPost_ret (DC rfl _ _ b4 53 _ (0,0) _ rfl (S.out.x _ (.tail _ (.tail _ (.head _)))).1 u1 rfl (by kernel_rfl)) (by rfl) ?_;exact ⟨rfl,S.out.b⟩
set_option maxHeartbeats 40000000 in
set_option maxRecDepth 100000 in
theorem XO {k:Nat} {s rest:ByteArray} {only:Bool} {now:Int} {f0 f1 f2 f3 f4 f5 f6:ByteArray} {w:World} (H:AA (TT s Fb=only)) (hr:rest=if only=true then s.extract 10 s.size else s) (T:AA (Va.f k rest=some [f0,f1,f2,f3,f4,f5,f6])) {wide sec is number:Bool} {dom name:ByteArray} {ex:Int} {rc:Array Value} {re:Int} (e1:(f1.toList==([84,82,85,69]:List UInt8))=wide) (e1':(f1.toList==([70,65,76,83,69]:List UInt8))= !wide) (e3:(f3.toList==([84,82,85,69]:List UInt8))=sec) (e3':(f3.toList==([70,65,76,83,69]:List UInt8))= !sec) (hd:TT f0 O4=wide) (hname:(if wide=true then f0.extract 1 f0.size else f0)=name)
 (D:AA (Ai.f k name=some (dom,is))) (X:AA (Ac.f k f4=some (ex,number)))
 (R:AA ((is=false/\rc=Fa/\re=192)\/(is=true/\number=false/\rc=Fa/\re=192)\/(is=true/\number=true/\AQ.f k dom f2 f5 f6 now now ex (!wide) sec only 0=some false/\rc=Fa/\re=192)\/(is=true/\number=true/\AQ.f k dom f2 f5 f6 now now ex (!wide) sec only 0=some true/\rc=#[.string dom, .string f2, .string f5, .string f6, .int .i64 now, .int .i64 now, .int .i64 ex, .bool (!wide), .bool sec, .bool only, .int .i64 0]/\re=0))):
 Calls Tryz.prog 30 #[.string s, .int .i64 now] w λe W'=>e= .returned (.tuple #[.agg rc, .int .i64 re])/\Below w.heap.size w W':=by
 have hy:wide=true->1<=f0.size:=λe=>Vl (c:=O4) (by rw [hd,e])
 have hn:(wide != wide)=false:=by simp
 have m1:(f1.toList != ([84,82,85,69]:List UInt8))= !wide:=by unfold bne;rw [e1]
 have m1':(f1.toList != ([70,65,76,83,69]:List UInt8))=wide:=by unfold bne;rw [e1',Bool.not_not]
 have m3:(f3.toList != ([84,82,85,69]:List UInt8))= !sec:=by unfold bne;rw [e3]
 have m3':(f3.toList != ([70,65,76,83,69]:List UInt8))=sec:=by unfold bne;rw [e3',Bool.not_not]
 have hz:only=true->10<=s.size:=λe=>Vl (c:=Fb) (by rw [H.out,e])
 have u1:=Tryz.underlying53;have u2:=Tryz.underlying9;have u3:=Tryz.underlying4;have S:=St.start w;cases only
 case' false=>rw [if_neg (by decide)] at hr
 case' true=>
  rw [if_pos rfl] at hr;have z0:=hz rfl;have z1:=eq_true z0;have z2:=eq_true (show (10:Int)<=(s.size:Int) by omega);have z3:decide (10<=s.size)=true:=decide_eq_true z0
 all_goals
  clear hz;subst hr;go_enter Tryz.func30,Tryz.ntmps30;go_upto_region 7 with (first|(refine NT (N:=4) Fa 53 (λb4 W_ S_=>?_);replace S:=S_;clear S_)|(refine NT (N:=6) Fa 53 (λb6 W_ S_=>?_);replace S:=S_;clear S_)|(go_at_call 17;refine (Vj S H.out).mono ?_;rintro e W_ ⟨rfl,S_⟩;replace S:=S_;clear S_)|(go_at_call 59;refine (Va.calls k _ _ _ T.out).mono ?_;rintro e W_ ⟨v8,rfl,hr,hb⟩;obtain ⟨g,cap,cur,rfl,S_,hcur⟩:=St.texts S hb hr (by simp);have h0:=hcur 0 _ rfl;have h1:=hcur 1 _ rfl;have h2:=hcur 2 _ rfl;have h3:=hcur 3 _ rfl;have h4:=hcur 4 _ rfl;have h5:=hcur 5 _ rfl;have h6:=hcur 6 _ rfl;replace S:=S_;clear S_ hr hb hcur)|((with_reducible refine DD rfl ?_);(first|refine EM ?_|refine EM ?_ (hv:=h0)|refine EM ?_ (hv:=h1)|refine EM ?_ (hv:=h2)|refine EM ?_ (hv:=h3)|refine EM ?_ (hv:=h4)|refine EM ?_ (hv:=h5)|refine EM ?_ (hv:=h6)|(refine Gf ?_;(first|refine EM ?_|refine EM ?_ (hv:=h1)|refine EM ?_ (hv:=h3)))))|((with_reducible refine C8 rfl ?_);(first|(refine Gg (λW_ S_=>?_);replace S:=S_;clear S_)|(refine IZ (λW_ S_=>?_);replace S:=S_;clear S_))))
  cases wide
  case' false=>rw [if_neg (by decide)] at hname
  case' true=>
   rw [if_pos rfl] at hname;have y0:=hy rfl;have y1:=eq_true y0;have y2:=eq_true (show (1:Int)<=(f0.size:Int) by omega);have y3:decide (1<=f0.size)=true:=decide_eq_true y0
 all_goals
  clear hy;subst hname;cases sec
 all_goals
  go_upto_region 9 with (first|(refine NT (N:=4) Fa 53 (λb4 W_ S_=>?_);replace S:=S_;clear S_)|(refine NT (N:=6) Fa 53 (λb6 W_ S_=>?_);replace S:=S_;clear S_)|(go_at_call 17;refine (Vj S H.out).mono ?_;rintro e W_ ⟨rfl,S_⟩;replace S:=S_;clear S_)|(go_at_call 59;refine (Va.calls k _ _ _ T.out).mono ?_;rintro e W_ ⟨v8,rfl,hr,hb⟩;obtain ⟨g,cap,cur,rfl,S_,hcur⟩:=St.texts S hb hr (by simp);have h0:=hcur 0 _ rfl;have h1:=hcur 1 _ rfl;have h2:=hcur 2 _ rfl;have h3:=hcur 3 _ rfl;have h4:=hcur 4 _ rfl;have h5:=hcur 5 _ rfl;have h6:=hcur 6 _ rfl;replace S:=S_;clear S_ hr hb hcur)|((with_reducible refine DD rfl ?_);(first|refine EM ?_|refine EM ?_ (hv:=h0)|refine EM ?_ (hv:=h1)|refine EM ?_ (hv:=h2)|refine EM ?_ (hv:=h3)|refine EM ?_ (hv:=h4)|refine EM ?_ (hv:=h5)|refine EM ?_ (hv:=h6)|(refine Gf ?_;(first|refine EM ?_|refine EM ?_ (hv:=h1)|refine EM ?_ (hv:=h3)))))|((with_reducible refine C8 rfl ?_);(first|(refine Gg (λW_ S_=>?_);replace S:=S_;clear S_)|(refine IZ (λW_ S_=>?_);replace S:=S_;clear S_))))
  refine Eg (n:=9) (S:=λw'=>∃ bs',AA (St w w' bs')/\(g,cur,9)∈bs') (ds:=[]) (bm 9 0) (by kernel_rfl) rfl rfl ⟨_,St.below S (CK (Below.refl _ _)), .head _⟩ (λhH=>?_);replace S:=St.below S (CK (Below.refl _ _));refine Ay (i:=0) (N:=some 51) (bm 9 1) rfl rfl (by kernel_rfl) (Or.inl ⟨by rfl,by intro w';go_simp;with_reducible rfl⟩) ?_;refine Ay (i:=1) (N:=some 52) (bm 9 3) rfl rfl (by kernel_rfl) (Or.inl ⟨by rfl,by intro w';go_simp;with_reducible rfl⟩) ?_;refine Cn (i:=2) (N:=some 53) (bm 9 7) rfl rfl (by kernel_rfl) (Or.inl ⟨by rfl,λw' ⟨_,S_,m_⟩=>P8 S_ rfl rfl u2 m_ h0 rfl⟩) hH ?_;refine Ay (i:=4) (N:=some 55) (bm 9 23) rfl rfl (by kernel_rfl) (Or.inl ⟨by rfl,by intro w';go_simp;with_reducible rfl⟩) ?_;refine Ay (i:=5) (N:=some 56) (bm 9 55) rfl rfl (by kernel_rfl) (Or.inl ⟨by rfl,by intro w';go_simp;with_reducible rfl⟩) ?_;refine Cn (i:=6) (N:=some 57) (bm 9 119) rfl rfl (by kernel_rfl) (Or.inl ⟨by rfl,λw' ⟨_,S_,m_⟩=>P8 S_ rfl rfl u2 m_ h1 rfl⟩) hH ?_;refine Ay (i:=7) (N:=some 58) (bm 9 247) rfl rfl (by kernel_rfl) (Or.inl ⟨by rfl,by intro w';go_simp;with_reducible rfl⟩) ?_;refine D8 (i:=3) (N:=some 54) (bm 9 255) rfl rfl (by kernel_rfl) (by decide) (λK hK=>?_);refine Dy Tryz.func17 (by kernel_rfl) rfl #[.string f0, .string O4] (by rfl) rfl rfl xg ?_;refine (Vj S hd).mono ?_;rintro e_ W_ ⟨rfl,S_⟩;refine ⟨_,rfl,?_⟩;replace S:=S_;clear S_;refine hK.out _ _ ⟨_,S, .head _⟩ (λhH=>?_);clear hK K;refine DK (some 54) rfl ?_;refine Ay (i:=8) (N:=some 59) (bm 9 511) rfl rfl (by kernel_rfl) (Or.inl ⟨by rfl,by intro w';go_simp;with_reducible rfl⟩) ?_;refine Fe (by kernel_rfl) ?_;clear hH;go_upto_region 16 with (first|(refine NT (N:=4) Fa 53 (λb4 W_ S_=>?_);replace S:=S_;clear S_)|(refine NT (N:=6) Fa 53 (λb6 W_ S_=>?_);replace S:=S_;clear S_)|(go_at_call 17;refine (Vj S H.out).mono ?_;rintro e W_ ⟨rfl,S_⟩;replace S:=S_;clear S_)|(go_at_call 59;refine (Va.calls k _ _ _ T.out).mono ?_;rintro e W_ ⟨v8,rfl,hr,hb⟩;obtain ⟨g,cap,cur,rfl,S_,hcur⟩:=St.texts S hb hr (by simp);have h0:=hcur 0 _ rfl;have h1:=hcur 1 _ rfl;have h2:=hcur 2 _ rfl;have h3:=hcur 3 _ rfl;have h4:=hcur 4 _ rfl;have h5:=hcur 5 _ rfl;have h6:=hcur 6 _ rfl;replace S:=S_;clear S_ hr hb hcur)|((with_reducible refine DD rfl ?_);(first|refine EM ?_|refine EM ?_ (hv:=h0)|refine EM ?_ (hv:=h1)|refine EM ?_ (hv:=h2)|refine EM ?_ (hv:=h3)|refine EM ?_ (hv:=h4)|refine EM ?_ (hv:=h5)|refine EM ?_ (hv:=h6)|(refine Gf ?_;(first|refine EM ?_|refine EM ?_ (hv:=h1)|refine EM ?_ (hv:=h3)))))|((with_reducible refine C8 rfl ?_);(first|(refine Gg (λW_ S_=>?_);replace S:=S_;clear S_)|(refine IZ (λW_ S_=>?_);replace S:=S_;clear S_)))|(go_at_call 60;refine (St.OL S (Ai.calls k _ dom is _ D.out)).mono ?_;rintro e W_ ⟨rfl,S_⟩;replace S:=S_;clear S_)|(go_at_call 61;refine (St.OL S (Ac.calls k f4 ex number _ X.out)).mono ?_;rintro e W_ ⟨rfl,S_⟩;replace S:=S_;clear S_))
  clear D X H T;rcases R.out with ⟨rfl,rfl,rfl⟩|⟨rfl,rfl,rfl,rfl⟩|⟨rfl,rfl,RT,rfl,rfl⟩|⟨rfl,rfl,RT,rfl,rfl⟩
  ·clear R;go_wp2_with (first|(refine NT (N:=4) Fa 53 (λb4 W_ S_=>?_);replace S:=S_;clear S_)|(refine NT (N:=6) Fa 53 (λb6 W_ S_=>?_);replace S:=S_;clear S_)|(go_at_call 17;refine (Vj S H.out).mono ?_;rintro e W_ ⟨rfl,S_⟩;replace S:=S_;clear S_)|(go_at_call 59;refine (Va.calls k _ _ _ T.out).mono ?_;rintro e W_ ⟨v8,rfl,hr,hb⟩;obtain ⟨g,cap,cur,rfl,S_,hcur⟩:=St.texts S hb hr (by simp);have h0:=hcur 0 _ rfl;have h1:=hcur 1 _ rfl;have h2:=hcur 2 _ rfl;have h3:=hcur 3 _ rfl;have h4:=hcur 4 _ rfl;have h5:=hcur 5 _ rfl;have h6:=hcur 6 _ rfl;replace S:=S_;clear S_ hr hb hcur)|((with_reducible refine DD rfl ?_);(first|refine EM ?_|refine EM ?_ (hv:=h0)|refine EM ?_ (hv:=h1)|refine EM ?_ (hv:=h2)|refine EM ?_ (hv:=h3)|refine EM ?_ (hv:=h4)|refine EM ?_ (hv:=h5)|refine EM ?_ (hv:=h6)|(refine Gf ?_;(first|refine EM ?_|refine EM ?_ (hv:=h1)|refine EM ?_ (hv:=h3)))))|((with_reducible refine C8 rfl ?_);(first|(refine Gg (λW_ S_=>?_);replace S:=S_;clear S_)|(refine IZ (λW_ S_=>?_);replace S:=S_;clear S_))));refine bodyPost_ret (DC rfl _ _ b4 53 _ (0,0) _ rfl (S.out.x _ (.tail _ (.tail _ (.head _)))).1 u1 rfl (by kernel_rfl)) (by rfl) ?_;exact ⟨rfl,S.out.b⟩
  ·clear R;go_wp2_with (first|(refine NT (N:=4) Fa 53 (λb4 W_ S_=>?_);replace S:=S_;clear S_)|(refine NT (N:=6) Fa 53 (λb6 W_ S_=>?_);replace S:=S_;clear S_)|(go_at_call 17;refine (Vj S H.out).mono ?_;rintro e W_ ⟨rfl,S_⟩;replace S:=S_;clear S_)|(go_at_call 59;refine (Va.calls k _ _ _ T.out).mono ?_;rintro e W_ ⟨v8,rfl,hr,hb⟩;obtain ⟨g,cap,cur,rfl,S_,hcur⟩:=St.texts S hb hr (by simp);have h0:=hcur 0 _ rfl;have h1:=hcur 1 _ rfl;have h2:=hcur 2 _ rfl;have h3:=hcur 3 _ rfl;have h4:=hcur 4 _ rfl;have h5:=hcur 5 _ rfl;have h6:=hcur 6 _ rfl;replace S:=S_;clear S_ hr hb hcur)|((with_reducible refine DD rfl ?_);(first|refine EM ?_|refine EM ?_ (hv:=h0)|refine EM ?_ (hv:=h1)|refine EM ?_ (hv:=h2)|refine EM ?_ (hv:=h3)|refine EM ?_ (hv:=h4)|refine EM ?_ (hv:=h5)|refine EM ?_ (hv:=h6)|(refine Gf ?_;(first|refine EM ?_|refine EM ?_ (hv:=h1)|refine EM ?_ (hv:=h3)))))|((with_reducible refine C8 rfl ?_);(first|(refine Gg (λW_ S_=>?_);replace S:=S_;clear S_)|(refine IZ (λW_ S_=>?_);replace S:=S_;clear S_))));refine bodyPost_ret (DC rfl _ _ b4 53 _ (0,0) _ rfl (S.out.x _ (.tail _ (.tail _ (.head _)))).1 u1 rfl (by kernel_rfl)) (by rfl) ?_;exact ⟨rfl,S.out.b⟩
  ·clear R;replace RT:=AA.mk RT;go_wp2_with (first|(refine NT (N:=4) Fa 53 (λb4 W_ S_=>?_);replace S:=S_;clear S_)|(refine NT (N:=6) Fa 53 (λb6 W_ S_=>?_);replace S:=S_;clear S_)|(go_at_call 17;refine (Vj S H.out).mono ?_;rintro e W_ ⟨rfl,S_⟩;replace S:=S_;clear S_)|(go_at_call 59;refine (Va.calls k _ _ _ T.out).mono ?_;rintro e W_ ⟨v8,rfl,hr,hb⟩;obtain ⟨g,cap,cur,rfl,S_,hcur⟩:=St.texts S hb hr (by simp);have h0:=hcur 0 _ rfl;have h1:=hcur 1 _ rfl;have h2:=hcur 2 _ rfl;have h3:=hcur 3 _ rfl;have h4:=hcur 4 _ rfl;have h5:=hcur 5 _ rfl;have h6:=hcur 6 _ rfl;replace S:=S_;clear S_ hr hb hcur)|((with_reducible refine DD rfl ?_);(first|refine EM ?_|refine EM ?_ (hv:=h0)|refine EM ?_ (hv:=h1)|refine EM ?_ (hv:=h2)|refine EM ?_ (hv:=h3)|refine EM ?_ (hv:=h4)|refine EM ?_ (hv:=h5)|refine EM ?_ (hv:=h6)|(refine Gf ?_;(first|refine EM ?_|refine EM ?_ (hv:=h1)|refine EM ?_ (hv:=h3)))))|((with_reducible refine C8 rfl ?_);(first|(refine Gg (λW_ S_=>?_);replace S:=S_;clear S_)|(refine IZ (λW_ S_=>?_);replace S:=S_;clear S_)))|(go_at_call 62;refine (St.OL S (AQ.calls k dom f2 f5 f6 now now ex _ _ _ 0 _ _ RT.out)).mono ?_;rintro e W_ ⟨rfl,S_⟩;replace S:=S_;clear S_)|((with_reducible refine DD rfl ?_);refine Fw ?_));refine bodyPost_ret (DC rfl _ _ b4 53 _ (0,0) _ rfl (S.out.x _ (.tail _ (.tail _ (.head _)))).1 u1 rfl (by kernel_rfl)) (by rfl) ?_;exact ⟨rfl,S.out.b⟩
  ·clear R;replace RT:=AA.mk RT;go_wp2_with (first|(refine NT (N:=4) Fa 53 (λb4 W_ S_=>?_);replace S:=S_;clear S_)|(refine NT (N:=6) Fa 53 (λb6 W_ S_=>?_);replace S:=S_;clear S_)|(go_at_call 17;refine (Vj S H.out).mono ?_;rintro e W_ ⟨rfl,S_⟩;replace S:=S_;clear S_)|(go_at_call 59;refine (Va.calls k _ _ _ T.out).mono ?_;rintro e W_ ⟨v8,rfl,hr,hb⟩;obtain ⟨g,cap,cur,rfl,S_,hcur⟩:=St.texts S hb hr (by simp);have h0:=hcur 0 _ rfl;have h1:=hcur 1 _ rfl;have h2:=hcur 2 _ rfl;have h3:=hcur 3 _ rfl;have h4:=hcur 4 _ rfl;have h5:=hcur 5 _ rfl;have h6:=hcur 6 _ rfl;replace S:=S_;clear S_ hr hb hcur)|((with_reducible refine DD rfl ?_);(first|refine EM ?_|refine EM ?_ (hv:=h0)|refine EM ?_ (hv:=h1)|refine EM ?_ (hv:=h2)|refine EM ?_ (hv:=h3)|refine EM ?_ (hv:=h4)|refine EM ?_ (hv:=h5)|refine EM ?_ (hv:=h6)|(refine Gf ?_;(first|refine EM ?_|refine EM ?_ (hv:=h1)|refine EM ?_ (hv:=h3)))))|((with_reducible refine C8 rfl ?_);(first|(refine Gg (λW_ S_=>?_);replace S:=S_;clear S_)|(refine IZ (λW_ S_=>?_);replace S:=S_;clear S_)))|(go_at_call 62;refine (St.OL S (AQ.calls k dom f2 f5 f6 now now ex _ _ _ 0 _ _ RT.out)).mono ?_;rintro e W_ ⟨rfl,S_⟩;replace S:=S_;clear S_)|((with_reducible refine DD rfl ?_);refine Fw ?_));refine bodyPost_ret (DC rfl _ _ b4 53 _ (0,0) _ rfl (S.out.x _ (.tail _ (.tail _ (.head _)))).1 u1 rfl (by kernel_rfl)) (by rfl) ?_;exact ⟨rfl,S.out.b⟩
theorem Vz {k:Nat} {only:Bool} {now:Int} {f:List ByteArray} (h:f.length≠7):XL k only now f=some (Ug,191):=by
 unfold XL;split
 ·exact absurd rfl h
 ·rfl
theorem WG {s:ByteArray} (h:Hz s=true):(s.toList != ([84,82,85,69]:List UInt8))=true/\(s.toList != ([70,65,76,83,69]:List UInt8))=true:=by
 unfold Hz P6 VP at h;rw [Bool.and_eq_true] at h;exact h
theorem Vs {s:ByteArray} (h:¬Hz s=true):(s.toList==([84,82,85,69]:List UInt8))=P6 s/\(s.toList==([70,65,76,83,69]:List UInt8))= !P6 s:=by
 refine ⟨rfl,?_⟩;show VP s= !P6 s;unfold Hz at h;cases hT:P6 s with
 |false=>rw [hT] at h;simpa using h
 |true=>
  have h1:s.toList=([84,82,85,69]:List UInt8):=beq_iff_eq.1 hT;unfold VP;rw [h1];rfl
theorem Ve.calls (k:Nat) (a0:ByteArray) (a1:Int) (r1 r2 r3 r4:ByteArray) (r5 r6 r7:Int) (r8 r9 r10:Bool) (r11 r12:Int) (w:World) (h:Ve.f k a0 a1=some (r1,r2,r3,r4,r5,r6,r7,r8,r9,r10,r11,r12)):
 Calls Tryz.prog 30 #[.string a0, .int .i64 a1] w λe w'=>e= .returned (.tuple #[.agg #[.string r1, .string r2, .string r3, .string r4, .int .i64 r5, .int .i64 r6, .int .i64 r7, .bool r8, .bool r9, .bool r10, .int .i64 r11], .int .i64 r12])/\Below w.heap.size w w':=by
 unfold Ve.f WV at h;obtain ⟨⟨c,e⟩,h1,h2⟩:=Option.bind_eq_some_iff.1 h;clear h;simp only [Option.some.injEq,Prod.mk.injEq] at h2;obtain ⟨rfl,rfl,rfl,rfl,rfl,rfl,rfl,rfl,rfl,rfl,rfl,rfl⟩:=h2;obtain ⟨f,T,h⟩:=Option.bind_eq_some_iff.1 h1;clear h1;by_cases h7:f.length=7
 ·obtain ⟨f0,f1,f2,f3,f4,f5,f6,rfl⟩:=seven h7;change Vy k (TT a0 Fb) a1 f0 f1 f2 f3 f4 f5 f6=some (c,e) at h;unfold Vy at h;split at h
  ·rename_i hb;have h:=(Option.some.inj h);simp only [Prod.mk.injEq] at h;obtain ⟨rfl,rfl⟩:=h;by_cases o1:Hz f1=true
   ·exact XM ⟨rfl⟩ rfl ⟨T⟩ (WG o1).1 (WG o1).2
   obtain ⟨e1,e1'⟩:=Vs o1;by_cases o3:Hz f3=true
   ·exact XN ⟨rfl⟩ rfl ⟨T⟩ e1 e1' (WG o3).1 (WG o3).2
   obtain ⟨e3,e3'⟩:=Vs o3;rcases hb with hb|hb|hb
   ·exact absurd hb o1
   ·exact absurd hb o3
   ·exact XQ ⟨rfl⟩ rfl ⟨T⟩ e1 e1' e3 e3' rfl hb
  ·rename_i hb;have o1:¬Hz f1=true:=λo=>hb (.inl o)
   have o3:¬Hz f3=true:=λo=>hb (.inr (.inl o))
   have hd:TT f0 O4=P6 f1:=Classical.byContradiction λo=>hb (.inr (.inr o))
   obtain ⟨e1,e1'⟩:=Vs o1;obtain ⟨e3,e3'⟩:=Vs o3;have hF:VP f1= !P6 f1:=e1';obtain ⟨⟨dom,is⟩,D,h⟩:=Option.bind_eq_some_iff.1 h;obtain ⟨⟨ex,number⟩,X,h⟩:=Option.bind_eq_some_iff.1 h;dsimp only at h;rw [hF] at h;refine XO (re:=e) ⟨rfl⟩ rfl ⟨T⟩ e1 e1' e3 e3' hd rfl ⟨D⟩ ⟨X⟩ ⟨?_⟩;split at h
   ·rename_i hq;have h:=(Option.some.inj h);simp only [Prod.mk.injEq] at h;obtain ⟨rfl,rfl⟩:=h;cases is with
    |false=>exact .inl ⟨rfl,rfl,rfl⟩
    |true=>
     refine .inr (.inl ⟨rfl,?_,rfl,rfl⟩);rcases hq with hq|hq
     ·cases hq
     ·exact hq
   ·rename_i hq;have i1:is=true:=by
     cases is with
     |false=>exact absurd (.inl rfl) hq
     |true=>rfl
    have i2:number=true:=by
     cases number with
     |false=>exact absurd (.inr rfl) hq
     |true=>rfl
    obtain ⟨t,RT,h⟩:=Option.bind_eq_some_iff.1 h;cases t with
    |false=>
     rw [if_neg (by decide)] at h;have h:=(Option.some.inj h);simp only [Prod.mk.injEq] at h;obtain ⟨rfl,rfl⟩:=h;exact .inr (.inr (.inl ⟨i1,i2,RT,rfl,rfl⟩))
    |true=>
     rw [if_pos rfl] at h;have h:=(Option.some.inj h);simp only [Prod.mk.injEq] at h;obtain ⟨rfl,rfl⟩:=h;exact .inr (.inr (.inr ⟨i1,i2,RT,rfl,rfl⟩))
 ·rw [Vz h7] at h;have h:=(Option.some.inj h);simp only [Prod.mk.injEq] at h;obtain ⟨rfl,rfl⟩:=h;exact XI ⟨rfl⟩ rfl ⟨T⟩ h7
end Go.Proofs.YtikggnalmidlhaaGreatDoor.Print
