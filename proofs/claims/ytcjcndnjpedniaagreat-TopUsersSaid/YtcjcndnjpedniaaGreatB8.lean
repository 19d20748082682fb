/- A part of the proof of TopUsers. -/
import Derived.Test.YtcjcndnjpedniaaGreatB7
namespace Go.Proofs.YtcjcndnjpedniaaGreat
set_option linter.all false
set_option maxRecDepth 100000
set_option maxHeartbeats 8000000
open Go.RowKit
section
variable {w:Bc}
theorem Bh {g:Nat} {b signer frm c serial:Int} {speaker:BB} {n:Nat} {A:Option Addr} {k:Nat} {t:TypeId} (a:AX w g t #[zI b,zU signer,.string speaker,.slice A n k,zI frm,zI c,zI serial]):Cl w g 0 (zI b)/\Cl w g 1 (zU signer)/\Cl w g 2 (.string speaker)/\Cl w g 3 (.slice A n k)/\Cl w g 4 (zI frm)/\Cl w g 5 (zI c)/\Cl w g 6 (zI serial) :=
 ⟨a.cell 0,a.cell 1,a.cell 2,a.cell 3,a.cell 4,a.cell 5,a.cell 6⟩
theorem l8 (signer frm g serial:Int) (speaker f:BB) (A:Option Addr) (k:Nat) (w:Bc) (T:speaker.size<=16) (S:f.size<=16) (K:Ay Value.string w w.heap.size 1 A [f]) (F:Ev speaker [1]=true) (G:Cc f=2) (H:G6 f 0/8192=3) (I:G6 f 1/8192=5) :
  Calls Tryz.prog 153 #[.agg #[zI 1,zU signer,.string speaker,.slice A 1 k,zI frm,zI g,zI serial]] w (Rt (.bool true) (Au w)):=by
 have C:=Lh fun c=>F5 f c (by unfold maxLen;omega)
 have y:=fun(c:Bc) (t k:Nat) (u:AX c t 3 #[zI 1])=>JA (k:=k) (n:=1) [1] speaker (by omega) rfl rfl (by decide) c u
 rw[F] at y;have N:=Lh y;have L:=Lh fun c=>Ms f 0 c (by unfold maxLen;omega) (K3 (by omega) (by omega))
 have M:=Lh fun c=>Ms f 1 c (by unfold maxLen;omega) (K3 (by omega) (by omega))
 have z:=fun(c:Bc) (t k:Nat) (u:AX c t 3 #[zI 3])=>Ni (k:=k) (n:=1) [3] (G6 f 0) rfl rfl (by decide) (IJ f 0) c u
 have B:=fun(c:Bc) (t k:Nat) (u:AX c t 3 #[zI 5])=>Ni (k:=k) (n:=1) [5] (G6 f 1) rfl rfl (by decide) (IJ f 1) c u
 rw[H] at z;rw[I] at B;have O:=Lh z;have P:=Lh B;rw[G] at C;have b:Hid (AX (w.alloc (.cells #[zI 1,zU signer,.string speaker,.slice A 1 k,zI frm,zI g,zI serial] 31)) w.heap.size 31 #[zI 1,zU signer,.string speaker,.slice A 1 k,zI frm,zI g,zI serial]):=Lh (AX.new w _ _);have d:Hid (Au w (w.alloc (.cells #[zI 1,zU signer,.string speaker,.slice A 1 k,zI frm,zI g,zI serial] 31))):=Lh ((Aa _ w).alloc _);obtain⟨x,off,rfl,R,J⟩:=Ay.BV (V:=Value.string) (fun _=>rfl) K (j:=0) (by simp);have Q:(w.alloc (.cells #[zI 1,zU signer,.string speaker,zS x off 1 k,zI frm,zI g,zI serial] 31)).cell? (zA x off)=some (.string f):=(d.out.cell (p:=zA x off) R id).trans J;generalize G6 f 0=U at *;generalize G6 f 1=W at *;clear y z B F G H I;clear K J T S;go_in;go_wp2_with fail;generalize w.alloc (.cells #[zI 1,zU signer,.string speaker,zS x off 1 k,zI frm,zI g,zI serial] 31)=X at b d Q ⊢;obtain⟨h,i,l,m,o,q,r⟩:=Bh b.out;have E:=C.out;clear C;refine(E _).mono ?_;rintro s e ⟨rfl,rfl⟩;clear E;go_wp2_with (first
  |(go_at_call 196;(with_reducible refine(N.out _ _ _ ?_).mono ?_);(exact AX.new _ _ _);rintro s e ⟨rfl,a⟩;replace a:=((T0 _).alloc _).to a;replace b:=Lh (b.out.Ab a id);replace d:=Lh (d.out.to a);obtain⟨h,i,l,m,o,q,r⟩:=Bh b.out;clear a)
  |(go_at_call 134;(with_reducible refine(L.out _).mono ?_);rintro s e ⟨rfl,D,v⟩;have a:Au _ e:=v ▸ ((T0 _).drewN D);clear v;replace b:=Lh (b.out.Ab a id);replace d:=Lh (d.out.to a);obtain⟨h,i,l,m,o,q,r⟩:=Bh b.out;clear a)
  |(go_at_call 134;(with_reducible refine(M.out _).mono ?_);rintro s e ⟨rfl,D,v⟩;have a:Au _ e:=v ▸ ((T0 _).drewN D);clear v;replace b:=Lh (b.out.Ab a id);replace d:=Lh (d.out.to a);obtain⟨h,i,l,m,o,q,r⟩:=Bh b.out;clear a)
  |(go_at_call 151;(with_reducible refine(O.out _ _ _ ?_).mono ?_);(exact AX.new _ _ _);rintro s e ⟨rfl,a⟩;replace a:Au _ e:=a ▸ ((T0 _).alloc _);replace b:=Lh (b.out.Ab a id);replace d:=Lh (d.out.to a);obtain⟨h,i,l,m,o,q,r⟩:=Bh b.out;clear a)
  |(go_at_call 151;(with_reducible refine(P.out _ _ _ ?_).mono ?_);(exact AX.new _ _ _);rintro s e ⟨rfl,a⟩;replace a:Au _ e:=a ▸ ((T0 _).alloc _);replace b:=Lh (b.out.Ab a id);replace d:=Lh (d.out.to a);obtain⟨h,i,l,m,o,q,r⟩:=Bh b.out;clear a))
 go_ret;exact⟨rfl,d.out⟩
theorem mD (signer frm e serial:Int) (speaker f:BB) (A:Option Addr) (k:Nat) (w:Bc) (M:speaker.size<=16) (L:f.size<=16) (E:Ay Value.string w w.heap.size 1 A [f]) (B:Ev speaker [1]=true) (C:f=C8 [signer]) (F:Ey signer) :
  Calls Tryz.prog 153 #[.agg #[zI 2,zU signer,.string speaker,.slice A 1 k,zI frm,zI e,zI serial]] w (Rt (.bool true) (Au w)):=by
 have q:=Lh fun d=>F5 f d (by unfold maxLen;omega)
 have h:=fun(d:Bc) (l k:Nat) (m:AX d l 3 #[zI 1])=>JA (k:=k) (n:=1) [1] speaker (by omega) rfl rfl (by decide) d m
 rw[B] at h;have H:=Lh h;have i:=fun(d:Bc) (l k:Nat) (m:AX d l 25 #[zU signer])=>KW (k:=k) (n:=1) [signer] rfl rfl (by simp) (by intro P hx;simp at hx;subst hx;exact F) d m
 rw[<- C] at i;have I:=Lh i;clear C;have b:Hid (AX (w.alloc (.cells #[zI 2,zU signer,.string speaker,.slice A 1 k,zI frm,zI e,zI serial] 31)) w.heap.size 31 #[zI 2,zU signer,.string speaker,.slice A 1 k,zI frm,zI e,zI serial]):=Lh (AX.new w _ _);have c:Hid (Au w (w.alloc (.cells #[zI 2,zU signer,.string speaker,.slice A 1 k,zI frm,zI e,zI serial] 31))):=Lh ((Aa _ w).alloc _);obtain⟨g,off,rfl,K,D⟩:=Ay.BV (V:=Value.string) (fun _=>rfl) E (j:=0) (by simp);have J:(w.alloc (.cells #[zI 2,zU signer,.string speaker,zS g off 1 k,zI frm,zI e,zI serial] 31)).cell? (zA g off)=some (.string f):=(c.out.cell (p:=zA g off) K id).trans D;generalize Cc f=N at *;clear h i B F;clear E D M L;go_in;go_wp2_with fail;generalize w.alloc (.cells #[zI 2,zU signer,.string speaker,zS g off 1 k,zI frm,zI e,zI serial] 31)=O at b c J ⊢;obtain⟨r,s,t,u,v,x,y⟩:=Bh b.out;have o:=q.out;clear q;refine(o _).mono ?_;rintro z G ⟨rfl,rfl⟩;clear o;go_wp2_with (first
  |(go_at_call 196;refine(H.out _ _ _ ?_).mono ?_;(exact AX.new _ _ _);rintro z G ⟨rfl,a⟩;replace a:=((T0 _).alloc _).to a;replace b:=Lh (b.out.Ab a id);replace c:=Lh (c.out.to a);obtain⟨r,s,t,u,v,x,y⟩:=Bh b.out;clear a)
  |(go_at_call 91;refine(I.out _ _ _ ?_).mono ?_;(exact AX.new _ _ _);rintro z G ⟨rfl,a⟩;replace a:=((T0 _).alloc _).to a;replace b:=Lh (b.out.Ab a id);replace c:=Lh (c.out.to a);obtain⟨r,s,t,u,v,x,y⟩:=Bh b.out;clear a))
 go_ret;exact⟨rfl,c.out⟩
theorem mE (signer frm a serial:Int) (speaker f:BB) (A:Option Addr) (k:Nat) (w:Bc) (H:speaker.size<=16) (G:f.size<=16) (q:Ay Value.string w w.heap.size 1 A [f]) (m:Ev speaker [2]=true) :
  Calls Tryz.prog 153 #[.agg #[zI 3,zU signer,.string speaker,.slice A 1 k,zI frm,zI a,zI serial]] w (Rt (.bool true) (Au w)):=by
 have l:=Lh fun e=>F5 f e (by unfold maxLen;omega)
 have h:=fun(e:Bc) (D k:Nat) (E:AX e D 3 #[zI 2])=>JA (k:=k) (n:=1) [2] speaker (by omega) rfl rfl (by decide) e E
 rw[m] at h;have r:=Lh h;have b:Hid (AX (w.alloc (.cells #[zI 3,zU signer,.string speaker,.slice A 1 k,zI frm,zI a,zI serial] 31)) w.heap.size 31 #[zI 3,zU signer,.string speaker,.slice A 1 k,zI frm,zI a,zI serial]):=Lh (AX.new w _ _);have c:Hid (Au w (w.alloc (.cells #[zI 3,zU signer,.string speaker,.slice A 1 k,zI frm,zI a,zI serial] 31))):=Lh ((Aa _ w).alloc _);obtain⟨g,off,rfl,F,o⟩:=Ay.BV (V:=Value.string) (fun _=>rfl) q (j:=0) (by simp);have B:(w.alloc (.cells #[zI 3,zU signer,.string speaker,zS g off 1 k,zI frm,zI a,zI serial] 31)).cell? (zA g off)=some (.string f):=(c.out.cell (p:=zA g off) F id).trans o;generalize Cc f=J at *;clear h m;clear q o H G;go_in;go_wp2_with fail;generalize w.alloc (.cells #[zI 3,zU signer,.string speaker,zS g off 1 k,zI frm,zI a,zI serial] 31)=K at b c B ⊢;obtain⟨s,t,u,v,x,y,z⟩:=Bh b.out;have i:=l.out;clear l;refine(i _).mono ?_;rintro C I ⟨rfl,rfl⟩;clear i;go_wp2_with (first
  |(go_at_call 196;refine(r.out _ _ _ ?_).mono ?_;(exact AX.new _ _ _);rintro C I ⟨rfl,d⟩;replace d:=((T0 _).alloc _).to d;replace b:=Lh (b.out.Ab d id);replace c:=Lh (c.out.to d);obtain⟨s,t,u,v,x,y,z⟩:=Bh b.out;clear d))
 go_ret;exact⟨rfl,c.out⟩
theorem mF (signer frm e serial:Int) (speaker f:BB) (A:Option Addr) (k:Nat) (w:Bc) (L:speaker.size<=16) (K:f.size<=16) (E:Ay Value.string w w.heap.size 1 A [f]) (B:Ev speaker [3]=true) (C:Ev f [4]=true) :
  Calls Tryz.prog 153 #[.agg #[zI 4,zU signer,.string speaker,.slice A 1 k,zI frm,zI e,zI serial]] w (Rt (.bool true) (Au w)):=by
 have q:=Lh fun d=>F5 f d (by unfold maxLen;omega)
 have i:=fun(d:Bc) (l k:Nat) (m:AX d l 3 #[zI 3])=>JA (k:=k) (n:=1) [3] speaker (by omega) rfl rfl (by decide) d m
 rw[B] at i;have H:=Lh i;have h:=fun(d:Bc) (l k:Nat) (m:AX d l 3 #[zI 4])=>JA (k:=k) (n:=1) [4] f (by omega) rfl rfl (by decide) d m
 rw[C] at h;have G:=Lh h;have b:Hid (AX (w.alloc (.cells #[zI 4,zU signer,.string speaker,.slice A 1 k,zI frm,zI e,zI serial] 31)) w.heap.size 31 #[zI 4,zU signer,.string speaker,.slice A 1 k,zI frm,zI e,zI serial]):=Lh (AX.new w _ _);have c:Hid (Au w (w.alloc (.cells #[zI 4,zU signer,.string speaker,.slice A 1 k,zI frm,zI e,zI serial] 31))):=Lh ((Aa _ w).alloc _);obtain⟨g,off,rfl,J,D⟩:=Ay.BV (V:=Value.string) (fun _=>rfl) E (j:=0) (by simp);have I:(w.alloc (.cells #[zI 4,zU signer,.string speaker,zS g off 1 k,zI frm,zI e,zI serial] 31)).cell? (zA g off)=some (.string f):=(c.out.cell (p:=zA g off) J id).trans D;generalize Cc f=M at *;clear i h B C;clear E D L K;go_in;go_wp2_with fail;generalize w.alloc (.cells #[zI 4,zU signer,.string speaker,zS g off 1 k,zI frm,zI e,zI serial] 31)=N at b c I ⊢;obtain⟨r,s,t,u,v,x,y⟩:=Bh b.out;have o:=q.out;clear q;refine(o _).mono ?_;rintro z F ⟨rfl,rfl⟩;clear o;go_wp2_with (first
  |(go_at_call 196;(with_reducible refine(H.out _ _ _ ?_).mono ?_);(exact AX.new _ _ _);rintro z F ⟨rfl,a⟩;replace a:=((T0 _).alloc _).to a;replace b:=Lh (b.out.Ab a id);replace c:=Lh (c.out.to a);obtain⟨r,s,t,u,v,x,y⟩:=Bh b.out;clear a)
  |(go_at_call 196;(with_reducible refine(G.out _ _ _ ?_).mono ?_);(exact AX.new _ _ _);rintro z F ⟨rfl,a⟩;replace a:=((T0 _).alloc _).to a;replace b:=Lh (b.out.Ab a id);replace c:=Lh (c.out.to a);obtain⟨r,s,t,u,v,x,y⟩:=Bh b.out;clear a))
 go_ret;exact⟨rfl,c.out⟩
theorem mG (signer frm e serial:Int) (speaker f:BB) (A:Option Addr) (k:Nat) (w:Bc) (P:speaker.size<=16) (O:f.size<=16) (H:Ay Value.string w w.heap.size 1 A [f]) (D:Ev speaker [1,2]=true) (M:2<=Cc f) (E:G6 f (Cc f-1)/8192=5) :
  Calls Tryz.prog 153 #[.agg #[zI 5,zU signer,.string speaker,.slice A 1 k,zI frm,zI e,zI serial]] w (Rt (.bool true) (Au w)):=by
 have C:=Lh fun d=>F5 f d (by unfold maxLen;omega)
 have T:=(Sb (s:=f) (by unfold maxLen;omega)).2;have i:=fun(d:Bc) (y k:Nat) (z:AX d y 3 #[zI 1,zI 2])=>JA (k:=k) (n:=2) [1,2] speaker (by omega) rfl rfl (by decide) d z
 rw[D] at i;have J:=Lh i;have I:=Lh fun d=>Ms f (Cc f-1) d (by unfold maxLen;omega) (by unfold i64;omega)
 have l:=fun(d:Bc) (y k:Nat) (z:AX d y 3 #[zI 5])=>Ni (k:=k) (n:=1) [5] (G6 f (Cc f-1)) rfl rfl (by decide) (IJ f _) d z
 rw[E] at l;have K:=Lh l;have S:decide (2<=Cc f)=true:=by simpa using M
 have b:Hid (AX (w.alloc (.cells #[zI 5,zU signer,.string speaker,.slice A 1 k,zI frm,zI e,zI serial] 31)) w.heap.size 31 #[zI 5,zU signer,.string speaker,.slice A 1 k,zI frm,zI e,zI serial]):=Lh (AX.new w _ _);have c:Hid (Au w (w.alloc (.cells #[zI 5,zU signer,.string speaker,.slice A 1 k,zI frm,zI e,zI serial] 31))):=Lh ((Aa _ w).alloc _);obtain⟨h,off,rfl,N,F⟩:=Ay.BV (V:=Value.string) (fun _=>rfl) H (j:=0) (by simp);have L:(w.alloc (.cells #[zI 5,zU signer,.string speaker,zS h off 1 k,zI frm,zI e,zI serial] 31)).cell? (zA h off)=some (.string f):=(c.out.cell (p:=zA h off) N id).trans F;generalize G6 f (Cc f-1)=R at *;generalize Cc f=U at *;clear i l D E;clear H F P O;go_in;go_wp2_with fail;generalize w.alloc (.cells #[zI 5,zU signer,.string speaker,zS h off 1 k,zI frm,zI e,zI serial] 31)=W at b c L ⊢;obtain⟨m,o,q,r,t,u,v⟩:=Bh b.out;have B:=C.out;clear C;refine(B _).mono ?_;rintro x g ⟨rfl,rfl⟩;clear B;go_wp2_with (first
  |(go_at_call 196;refine(J.out _ _ _ ?_).mono ?_;(exact AX.new _ _ _);rintro x g ⟨rfl,a⟩;replace a:=((T0 _).alloc _).to a;replace b:=Lh (b.out.Ab a id);replace c:=Lh (c.out.to a);obtain⟨m,o,q,r,t,u,v⟩:=Bh b.out;clear a)
  |(go_at_call 134;refine(I.out _).mono ?_;rintro x g ⟨rfl,Q,G⟩;have a:Au _ g:=G ▸ ((T0 _).drewN Q);clear G;replace b:=Lh (b.out.Ab a id);replace c:=Lh (c.out.to a);obtain⟨m,o,q,r,t,u,v⟩:=Bh b.out;clear a)
  |(go_at_call 151;refine(K.out _ _ _ ?_).mono ?_;(exact AX.new _ _ _);rintro x g ⟨rfl,a⟩;replace a:Au _ g:=a ▸ ((T0 _).alloc _);replace b:=Lh (b.out.Ab a id);replace c:=Lh (c.out.to a);obtain⟨m,o,q,r,t,u,v⟩:=Bh b.out;clear a))
 go_ret;exact⟨rfl,c.out⟩
end

section
variable {w w' W:Bc}
theorem mH (signer frm a serial:Int) (speaker:BB) (n:Nat) (A:Option Addr) (k:Nat) (w:Bc) :
  Calls Tryz.prog 153 #[.agg #[zI 6,zU signer,.string speaker,.slice A n k,zI frm,zI a,zI serial]] w (Rt (.bool true) (Au w)):=by
 have b:Hid (Au w (w.alloc (.cells #[zI 6,zU signer,.string speaker,.slice A n k,zI frm,zI a,zI serial] 31))):=Lh ((Aa _ w).alloc _);go_in;go_wp2;go_ret;exact⟨rfl,b.out⟩
theorem Cg:(Tryz.prog.info? 31).map (·.size)=some 7:=by kernel_rfl
theorem mI (signer frm a serial:Int) (speaker:BB) (n:Nat) (A:Option Addr) (k:Nat) (w:Bc)
  (d:Hid (∀ W,Au w W->Calls Tryz.prog 195 #[.agg #[zI 7,zU signer,.string speaker,.slice A n k,zI frm,zI a,zI serial]] W (Rt (.bool true) (Au W)))) :
  Calls Tryz.prog 153 #[.agg #[zI 7,zU signer,.string speaker,.slice A n k,zI frm,zI a,zI serial]] w (Rt (.bool true) (Au w)):=by
 have c:Hid (AX (w.alloc (.cells #[zI 7,zU signer,.string speaker,.slice A n k,zI frm,zI a,zI serial] 31)) w.heap.size 31 #[zI 7,zU signer,.string speaker,.slice A n k,zI frm,zI a,zI serial]):=Lh (AX.new w _ _);have b:Hid (Au w (w.alloc (.cells #[zI 7,zU signer,.string speaker,.slice A n k,zI frm,zI a,zI serial] 31))):=Lh ((Aa _ w).alloc _);go_in;go_wp2_with (first
  |(refine AA rfl (.tmp 1) rfl rfl c.out Tryz.underlying31 rfl Cg ?_)
  |(go_at_call 195;refine(d.out _ b.out).mono ?_;rintro f g ⟨rfl,e⟩))
 go_ret;exact⟨rfl,b.out.to e⟩
theorem YJ {s:BB} (b:s.size<=16):(Kq s).size<=100:=by
 unfold Kq IY;have a:(C8 [1]).size=2:=by rw[FD];rfl
 split
 ·show(0:Nat)<=100;omega
 ·split
  ·split
   ·show(0:Nat)<=100;omega
   ·simp only[ByteArray.size_append,ByteArray.size_extract,a];omega
  ·show(0:Nat)<=100;omega
theorem aT (c:Ca) (A:Option Addr) (k:Nat) (w:Bc) (h:Cn c) (g:Ay Value.string w w.heap.size 1 A c.Bl) :
  Calls Tryz.prog 153 #[.agg (Cu c A k)] w (Rt (.bool true) (Au w)):=by
 obtain⟨a,signer,speaker,fors,frm,v,serial⟩:=c;have f:speaker.size<=16:=h.sp;have n:∀ u∈fors,u.size<=16:=h.fo;rcases h.like with m|⟨m,s⟩|⟨p,q,e,t,j⟩
 ·obtain rfl:a=6:=m;exact mH _ _ _ _ _ _ _ _ _
 ·obtain rfl:a=7:=m;exact mI _ _ _ _ _ _ _ _ _ (Lh fun W r=>X7 ⟨7,signer,speaker,fors,frm,v,serial⟩ A k W s h.set f n (YJ f) (g.AB r))
 ·have x:1<=a:=p;have y:a<=5:=q;obtain rfl:fors=[e]:=t;have i:=n e (by simp);obtain rfl|rfl|rfl|rfl|rfl:a=1∨a=2∨a=3∨a=4∨a=5:=by omega
  ·obtain⟨b,d,l,o⟩:=j.one rfl;exact l8 _ _ _ _ _ e _ _ _ f i g b d l o
  ·obtain⟨b,d⟩:=j.two rfl;exact mD _ _ _ _ _ e _ _ _ f i g b d h.su
  ·exact mE _ _ _ _ _ e _ _ _ f i g (j.three rfl)
  ·obtain⟨b,d⟩:=j.four rfl;exact mF _ _ _ _ _ e _ _ _ f i g b d
  ·obtain⟨b,d,l⟩:=j.five rfl;exact mG _ _ _ _ _ e _ _ _ f i g b d l
theorem iQ {b n k:Nat} {cs:Array Value} {t:TypeId} (xs:List Int) (e:xs.length=n) (d:cs.toList=xs.map iV) (f:xs.length<=1000) (c:∀ x∈xs,0<=x/\x<=4611686018427387904) (W:Bc) (a:AX W b t cs) :
  Calls Tryz.prog 152 #[zS b 0 n k] W (Rt (.bool true) fun w'=>W=w'):=by
 subst e;exact ZG _ _ _ xs _ (by omega) (Gf (fun _=>rfl) a xs d) c
theorem Ku (c:Ca) (A:Option Addr) (k:Nat) (w:Bc) (a:Cn c) (v:Ay Value.string w w.heap.size 1 A c.Bl) :
  Calls Tryz.prog 111 #[.agg (Cu c A k)] w (Rt zO (Au w)):=by
 have P:=Lh fun W (E:Au w W)=>aT c A k W a (v.AB E)
 have O:=Lh a;have ac:=Lh v;obtain⟨ar,au,ai⟩:=Cm a.set;have bc:=fun W=>Jk c.Ad W (by have:=a.sp;omega)
 rw[a.may] at bc;have Z:=Lh bc;have y:=fun W (E:Au w W) (k:Nat)=>Km A k c.Bl W (by omega) (fun g u=>by have:=a.fo g u;omega) (v.AB E)
 rw[a.set] at y;have ab:=Lh y;have z:=Lh fun(W:Bc) (C k:Nat) (D:AX W C 3 #[zI 1])=>Ni (k:=k) (n:=1) [1] c.Aq rfl rfl (by decide) a.su W D
 have aa:=Lh fun(W:Bc) (C k:Nat) (D:AX W C 2 #[zI c.BX,zI c.till,zI c.AO])=>iQ (k:=k) (n:=3) [c.BX,c.till,c.AO] rfl rfl (by simp) (by intro x hx;simp at hx;have:=a.f0;have:=a.ft;have:=a.tm;have:=a.s0;have:=a.sm;rcases hx with rfl|rfl|rfl<;>omega) W D
 have M:=Lh fun W=>F5 c.Ad W (by have:=a.sp;unfold maxLen;omega)
 have hsk:=a.sk;rw[hsk] at z;have T:Cu c A k=#[zI c.kind,zU c.Aq,.string c.Ad,.slice A c.Bl.length k,zI c.BX,zI c.till,zI c.AO]:=rfl;have af:=a.k1;have ah:=a.k7;have ae:=a.ft;have d:Hid (AX (w.alloc (.cells (Cu c A k) 31)) w.heap.size 31 (Cu c A k)):=Lh (AX.new w _ _);have e:Hid (Au w (w.alloc (.cells (Cu c A k) 31))):=Lh ((Aa _ w).alloc _);rw[T] at d e P ⊢;clear T bc y hsk;generalize c.kind=I at *;generalize c.Aq=signer at *;generalize c.BX=frm at *;generalize c.till=Y at *;generalize c.AO=serial at *;have an:decide (I<1)=false:=dF;have ao:decide (7<I)=false:=dF;have ap:decide (Y<frm)=false:=dF;clear a v ai af ah ae;go_in;go_upto_region 3 with(fail)
 generalize w.alloc (.cells #[zI I,zU signer,.string c.Ad,.slice A c.Bl.length k,zI frm,zI Y,zI serial] 31)=ay at d e ⊢;obtain⟨bb,j,l,m,o,q,r⟩:=Bh d.out;have S:decide ((1:Int)∈[1])=true:=by decide
 rw[S] at z;clear S;go_wp2_with (first
  |(go_at_call 151;refine(z.out _ _ _ ?_).mono ?_;(exact AX.new _ _ _);rintro s h ⟨rfl,b⟩;replace b:Au _ h:=b ▸ ((T0 _).alloc _);replace d:=Lh (d.out.Ab b id);replace e:=Lh (e.out.to b);obtain⟨bb,j,l,m,o,q,r⟩:=Bh d.out;clear b)
  |(go_at_call 103;refine(Z.out _).mono ?_;rintro s h ⟨rfl,J,t⟩;have b:Au _ h:=t ▸ ((T0 _).drewN J);clear t;replace d:=Lh (d.out.Ab b id);replace e:=Lh (e.out.to b);obtain⟨bb,j,l,m,o,q,r⟩:=Bh d.out;clear b)
  |(go_at_call 122;refine(ab.out _ e.out _).mono ?_;rintro s h ⟨rfl,J,t⟩;have b:Au _ h:=t ▸ ((T0 _).drewN J);clear t;replace d:=Lh (d.out.Ab b id);replace e:=Lh (e.out.to b);obtain⟨bb,j,l,m,o,q,r⟩:=Bh d.out;clear b)
  |(go_at_call 152;refine(aa.out _ _ _ ?_).mono ?_;(exact AX.new _ _ _);rintro s h ⟨rfl,b⟩;replace b:Au _ h:=b ▸ ((T0 _).alloc _);replace d:=Lh (d.out.Ab b id);replace e:=Lh (e.out.to b);obtain⟨bb,j,l,m,o,q,r⟩:=Bh d.out;clear b))
 go_loopg [49] c.Bl.length fun gk i wr=>∃ f:Nat,f+gk=c.Bl.length/\i=zI f/\Au h wr
 case atStart=>exact⟨0,Bz _,rfl,Aa _ _⟩
 case round =>
  obtain⟨f,aq,rfl,G⟩:=hrel;have N:=Lh (d.out.Ab G id);have B:=Lh (e.out.to G);clear bb j l m o q r;obtain⟨bb,j,l,m,o,q,r⟩:=Bh N.out;by_cases U:f<c.Bl.length
  ·obtain⟨Q,X,rfl,ad,F⟩:=Ay.BV (V:=Value.string) (fun _=>rfl) ac.out U;obtain⟨g,u⟩:∃ g,g=c.Bl[f]:=⟨_,rfl⟩
   have H:g∈c.Bl:=by rw[u];exact Br U
   rw[<- u] at F;have am:Cl wr Q (X+f) (.string g):=(B.out.cell (p:=zA Q (X+f)) ad id).trans F;have L:=Lh fun W=>F5 g W (by have:=O.out.fo g H;unfold maxLen;omega)
   have R:decide (Cc g<Cc c.Ad)=false:=by rw[Ag];have:=O.out.len g H;omega
   have K:=Lh M.out;clear M;generalize Cc g=ax at L R;generalize Cc c.Ad=aw at K R;have av:(0:Int)<=(f:Int):=by omega
   have ak:(f:Int)<(c.Bl.length:Int):=by omega
   clear u H F;go_wp2_with (first
    |(go_at_call 133;(with_reducible refine(K.out _).mono ?_);rintro s al ⟨rfl,rfl⟩)
    |(go_at_call 133;(with_reducible refine(L.out _).mono ?_);rintro s al ⟨rfl,rfl⟩))
   go_roundg (gk-1)
   case measure=>omega
   case rel=>exact⟨f+1,by omega,by go_num,G⟩
  ·have ak:¬(f:Int)<(c.Bl.length:Int):=by omega
   go_wp2_with (first
    |(refine AA rfl (.tmp 1) rfl rfl N.out Tryz.underlying31 rfl Cg ?_)
    |(go_at_call 153;refine(P.out _ B.out).mono ?_;rintro s az ⟨rfl,ag⟩))
   go_ret;exact⟨rfl,B.out.to ag⟩
end

def Db (c:Ca):List UInt8:=BL c.kind.toNat++BL c.Aq.toNat++GH c.Ad++JY c.Bl++BL c.BX.toNat++BL (c.till-c.BX).toNat++BL c.AO.toNat
theorem OW {l:List BB} (a:∀ s∈l,s.size<=16) (b:l.length<=16):(JY l).length<=300:=by
 unfold JY;have:=P9 a b;rw[BF];omega
theorem Q6 {s:BB} (a:s.size<=16):(GH s).length<=17:=by
 unfold GH;rw[BF];have:s.data.toList.length=s.size:=rfl;omega
section
variable {w w' W:Bc}
theorem Ja (c:Ca) (A:Option Addr) (k:Nat) (w:Bc) (d:Cn c) (H:Ay Value.string w w.heap.size 1 A c.Bl) :
  Calls Tryz.prog 60 #[.agg (Cu c A k)] w (Rt (.tuple #[.string (Dy (Db c)),zO]) (Au w)):=by
 have P:=fun W (an:Au w W)=>Ku c A k W d (H.AB an)
 have av:=Lh d;have aw:=Lh H;obtain⟨be,aq,au⟩:=Cm d.set;have T:(BL c.kind.toNat).length<=9:=BS (by have:=d.k7;omega);have U:(BL c.Aq.toNat).length<=9:=BS (by have:=d.su.2;omega);have X:=Q6 d.sp;have Y:=OW d.fo aq;have Z:(BL c.BX.toNat).length<=9:=BS (by have:=d.ft;have:=d.tm;omega);have aa:(BL (c.till-c.BX).toNat).length<=9:=BS (by have:=d.f0;have:=d.tm;omega);obtain⟨m,J⟩:∃ x,x=BL c.kind.toNat:=⟨_,rfl⟩
 obtain⟨y,K⟩:∃ x,x=BL c.Aq.toNat:=⟨_,rfl⟩
 obtain⟨z,L⟩:∃ x,x=GH c.Ad:=⟨_,rfl⟩
 obtain⟨B,M⟩:∃ x,x=JY c.Bl:=⟨_,rfl⟩
 obtain⟨D,N⟩:∃ x,x=BL c.BX.toNat:=⟨_,rfl⟩
 obtain⟨I,O⟩:∃ x,x=BL (c.till-c.BX).toNat:=⟨_,rfl⟩
 obtain⟨R,Q⟩:∃ x,x=BL c.AO.toNat:=⟨_,rfl⟩
 have al:Hid (Db c=m++(y++(z++(B++(D++(I++R)))))):=by show Db c=_;rw[J,K,L,M,N,O,Q];unfold Db;simp only[BJ]
 rw[<- J] at T;rw[<- K] at U;rw[<- L] at X;rw[<- M] at Y;rw[<- N] at Z;rw[<- O] at aa
 -- the writes
 have ad:Hid (∀ {w bl a},BK w bl a []->Calls Tryz.prog 71 #[zP a,zI c.kind] w (Rt (.tuple #[]) fun w'=>BK w' bl a m/\Am (BO bl a w) w w')):=by
  intro w bl a u;have:=El u c.kind (by have:=d.k1;omega) (by have:=d.k7;omega) (by simp)
  rwa [<- J,BU] at this
 have ae:Hid (∀ {w bl a},BK w bl a m->Calls Tryz.prog 71 #[zP a,zI c.Aq] w (Rt (.tuple #[]) fun w'=>BK w' bl a (m++y)/\Am (BO bl a w) w w')):=by
  intro w bl a u;have:=El u c.Aq d.su.1 (by have:=d.su.2;omega) (by omega)
  rwa [<- K] at this
 have af:Hid (∀ {w bl a},BK w bl a (m++y)->Calls Tryz.prog 112 #[zP a,.string c.Ad] w (Rt (.tuple #[]) fun w'=>BK w' bl a (m++y++z)/\Am (BO bl a w) w w')):=by
  intro w bl a u;have:=Rs u c.Ad d.may d.sp (by rw[Ap];omega)
  rwa [<- L] at this
 have ag:Hid (∀ {W bl a} (k:Nat),BK W bl a (m++y++z)->Au w W->w.heap.size<=bl->Calls Tryz.prog 72 #[zP a,.slice A c.Bl.length k] W (Rt (.tuple #[]) fun w'=>BK w' bl a (m++y++z++B)/\Am (BO bl a W) W w')):=by
  intro W bl a k u ao bc;have:=Us u A k c.Bl d.set d.fo (H.AB ao) (fun b bf am g=>by
   have bb:=BO.ge u.ge g;obtain⟨ay,bg,S,bd,_⟩:=Ay.BV (V:=Value.string) (fun _=>rfl) H (j:=0) (by omega);rw[am] at S;cases S;omega) (by simp only[Ap];omega)
  rwa [<- M] at this
 have ah:Hid (∀ {w bl a},BK w bl a (m++y++z++B)->Calls Tryz.prog 71 #[zP a,zI c.BX] w (Rt (.tuple #[]) fun w'=>BK w' bl a (m++y++z++B++D)/\Am (BO bl a w) w w')):=by
  intro w bl a u;have:=El u c.BX d.f0 (by have:=d.ft;have:=d.tm;omega) (by simp only[Ap];omega)
  rwa [<- N] at this
 have ai:Hid (∀ {w bl a},BK w bl a (m++y++z++B++D)->Calls Tryz.prog 71 #[zP a,zI (c.till-c.BX)] w (Rt (.tuple #[]) fun w'=>BK w' bl a (m++y++z++B++D++I)/\Am (BO bl a w) w w')):=by
  intro w bl a u;have:=El u (c.till-c.BX) (by have:=d.ft;omega) (by have:=d.f0;have:=d.tm;omega) (by simp only[Ap];omega)
  rwa [<- O] at this
 have aj:Hid (∀ {w bl a},BK w bl a (m++y++z++B++D++I)->Calls Tryz.prog 71 #[zP a,zI c.AO] w (Rt (.tuple #[]) fun w'=>BK w' bl a (m++y++z++B++D++I++R)/\Am (BO bl a w) w w')):=by
  intro w bl a u;have:=El u c.AO d.s0 d.sm (by simp only[Ap];omega)
  rwa [<- Q] at this
 have ap:-9223372036854775808<=c.till-c.BX/\c.till-c.BX<=9223372036854775807:=⟨by have:=d.ft;omega,by have:=d.f0;have:=d.tm;omega⟩
 obtain⟨az,ba⟩:=ap;obtain⟨bh,bi⟩:=d.su;have ac:Cu c A k=#[zI c.kind,zU c.Aq,.string c.Ad,.slice A c.Bl.length k,zI c.BX,zI c.till,zI c.AO]:=rfl;have f:Hid (AX (w.alloc (.cells (Cu c A k) 31)) w.heap.size 31 (Cu c A k)):=Lh (AX.new w _ _);have i:Hid (Au w (w.alloc (.cells (Cu c A k) 31))):=Lh ((Aa _ w).alloc _);rw[ac] at f i P ⊢;have ak:=Lh P;clear ac P J K L M N O Q T U X Y Z aa d H au;go_in;go_upto_region 5 with(first
  |(refine AA rfl (.tmp 1) rfl rfl f.out Tryz.underlying31 rfl Cg ?_)
  |(go_at_call 111;refine(ak.out _ i.out).mono ?_;rintro C F ⟨rfl,e⟩;replace f:=Lh (f.out.Ab e id);replace i:=Lh (i.out.to e);clear e))
 have h:Hid (BK (F.alloc (.cells #[zO,zN] 175)) F.heap.size F.heap.size []):=Lh (BK.new F);have ar:=f.out.lt;replace f:=Lh (f.out.alloc (.cells #[zO,zN] 175));replace i:=Lh (i.out.alloc (.cells #[zO,zN] 175));generalize F.alloc (.cells #[zO,zN] 175)=bj at f i h ⊢;obtain⟨n,o,p,q,r,s,t⟩:=Bh f.out;obtain⟨bl,ab⟩:∃ bl,bl=F.heap.size:=⟨_,rfl⟩
 rw[<- ab] at h ar ⊢;clear ab;go_wp2_with (first
  |(go_at_call 71;(with_reducible refine(ad.out h.out).mono ?_);rintro C G ⟨rfl,l,e⟩;have v:=BK.ge h.out;replace f:=Lh (f.out.Ab e fun g=>by(have:=BO.ge (AY _) g;omega));replace i:=Lh (i.out.AJ e fun k E g=>by(have:=BO.ge (AY _) g;omega));replace h:=Lh l;clear n o p q r s t;obtain⟨n,o,p,q,r,s,t⟩:=Bh f.out;clear e l v)
  |(go_at_call 71;(with_reducible refine(ae.out h.out).mono ?_);rintro C G ⟨rfl,l,e⟩;have v:=BK.ge h.out;replace f:=Lh (f.out.Ab e fun g=>by(have:=BO.ge (AY _) g;omega));replace i:=Lh (i.out.AJ e fun k E g=>by(have:=BO.ge (AY _) g;omega));replace h:=Lh l;clear n o p q r s t;obtain⟨n,o,p,q,r,s,t⟩:=Bh f.out;clear e l v)
  |(go_at_call 112;(with_reducible refine(af.out h.out).mono ?_);rintro C G ⟨rfl,l,e⟩;have v:=BK.ge h.out;replace f:=Lh (f.out.Ab e fun g=>by(have:=BO.ge (AY _) g;omega));replace i:=Lh (i.out.AJ e fun k E g=>by(have:=BO.ge (AY _) g;omega));replace h:=Lh l;clear n o p q r s t;obtain⟨n,o,p,q,r,s,t⟩:=Bh f.out;clear e l v)
  |(go_at_call 72;(with_reducible refine(ag.out _ h.out i.out (by omega)).mono ?_);rintro C G ⟨rfl,l,e⟩;have v:=BK.ge h.out;replace f:=Lh (f.out.Ab e fun g=>by(have:=BO.ge (AY _) g;omega));replace i:=Lh (i.out.AJ e fun k E g=>by(have:=BO.ge (AY _) g;omega));replace h:=Lh l;clear n o p q r s t;obtain⟨n,o,p,q,r,s,t⟩:=Bh f.out;clear e l v)
  |(go_at_call 71;(with_reducible refine(ah.out h.out).mono ?_);rintro C G ⟨rfl,l,e⟩;have v:=BK.ge h.out;replace f:=Lh (f.out.Ab e fun g=>by(have:=BO.ge (AY _) g;omega));replace i:=Lh (i.out.AJ e fun k E g=>by(have:=BO.ge (AY _) g;omega));replace h:=Lh l;clear n o p q r s t;obtain⟨n,o,p,q,r,s,t⟩:=Bh f.out;clear e l v)
  |(go_at_call 71;(with_reducible refine(ai.out h.out).mono ?_);rintro C G ⟨rfl,l,e⟩;have v:=BK.ge h.out;replace f:=Lh (f.out.Ab e fun g=>by(have:=BO.ge (AY _) g;omega));replace i:=Lh (i.out.AJ e fun k E g=>by(have:=BO.ge (AY _) g;omega));replace h:=Lh l;clear n o p q r s t;obtain⟨n,o,p,q,r,s,t⟩:=Bh f.out;clear e l v)
  |(go_at_call 71;(with_reducible refine(aj.out h.out).mono ?_);rintro C G ⟨rfl,l,e⟩;have v:=BK.ge h.out;replace f:=Lh (f.out.Ab e fun g=>by(have:=BO.ge (AY _) g;omega));replace i:=Lh (i.out.AJ e fun k E g=>by(have:=BO.ge (AY _) g;omega));replace h:=Lh l;clear n o p q r s t;obtain⟨n,o,p,q,r,s,t⟩:=Bh f.out;clear e l v)
  |(go_at_call 73;(with_reducible refine(Je h.out).mono ?_);rintro C bk ⟨rfl,rfl⟩))
 go_ret2;exact⟨by rw[al.out];rfl,i.out⟩
theorem XD (c:Ca) (A:Option Addr) (k:Nat) (t:Int) (w:Bc) :
  Calls Tryz.prog 204 #[.agg (Cu c A k),zI t] w (Rt (.bool (decide (c.BX<=t/\t<=c.till))) (Au w)):=by
 have f:Cu c A k=#[zI c.kind,zU c.Aq,.string c.Ad,.slice A c.Bl.length k,zI c.BX,zI c.till,zI c.AO]:=rfl;have d:Hid (Au w (w.alloc (.cells (Cu c A k) 31))):=Lh ((Aa _ w).alloc _);rw[f] at d ⊢;clear f;generalize c.BX=frm at *;generalize c.till=e at *;by_cases a:frm<=t
 ·have g:decide (frm<=t)=true:=by simpa using a
  have b:Hid (decide (frm<=t/\t<=e)=decide (t<=e)):=by show decide _=_;simp[a]
  clear a;go_in;go_wp2;go_ret;exact⟨by rw[b.out];rfl,d.out⟩
 ·have g:decide (frm<=t)=false:=by simpa using a
  have b:Hid (decide (frm<=t/\t<=e)=false):=by show decide _=_;simp[a]
  clear a;go_in;go_wp2;go_ret;exact⟨by rw[b.out];rfl,d.out⟩
structure Dj where
 BX:BB
 Kn:BB
def FH (r:Dj):Value:=.agg #[.string r.BX,.string r.Kn]
theorem K9:(Tryz.prog.info? 381).map (fun i=>(i.zero,i.size,i.bytes))=some (some (.agg #[zE,zE]),2,32):=by kernel_rfl
theorem Du {base base' e size n:Nat} {v:Value} {xs:List Value} (a:w.ownsRow base e size v n xs) (h:base'<=base):w.ownsRow base' e size v n xs:=by
 refine⟨a.1,?_⟩;rcases a.2 with f|⟨d,b,c,g,i,rest⟩
 ·exact .inl f
 ·exact .inr ⟨d,b,c,g,by omega,rest⟩
def Gr (c:Ca):List Dj:=c.Bl.map fun a=>⟨a,c.Ad⟩
theorem Yz (c:Ca) (A:Option Addr) (k:Nat) (w:Bc) (an:c.Bl.length<=1000) (J:Ay Value.string w w.heap.size 1 A c.Bl) :
  Calls Tryz.prog 283 #[.agg (Cu c A k)] w fun e w'=>∃ z E,e= .returned (.slice z c.Bl.length E)/\w'.ownsRow w.heap.size 381 2 (.slice z c.Bl.length E) c.Bl.length (BN FH (Gr c))/\Au w w':=by
 obtain⟨N,H,K,L,M⟩:=info_parts K9;have F:Cu c A k=#[zI c.kind,zU c.Aq,.string c.Ad,.slice A c.Bl.length k,zI c.BX,zI c.till,zI c.AO]:=rfl;have b:Hid (AX (w.alloc (.cells (Cu c A k) 31)) w.heap.size 31 (Cu c A k)):=Lh (AX.new w _ _);have h:Hid (Au w (w.alloc (.cells (Cu c A k) 31))):=Lh ((Aa _ w).alloc _);have S:=Lh J;have ah:Hid (∀ a,BN FH ((c.Bl.take a).map fun u=>(⟨u,c.Ad⟩:Dj))=BN FH ((Gr c).take a)):=by
  intro a;unfold Gr;rw[List.map_take]
 rw[F] at b h ⊢;clear F J;go_in;go_upto_region 1 with(fail)
 have ac:=b.out.lt;generalize w.alloc (.cells #[zI c.kind,zU c.Aq,.string c.Ad,.slice A c.Bl.length k,zI c.BX,zI c.till,zI c.AO] 31)=d at b h ac ⊢;obtain⟨j,l,m,n,o,q,r⟩:=Bh b.out;have ap:w.heap.size<=d.heap.size:=by omega
 go_wp2_with (at_make;refine wpList_make_own _ rfl _ _ 334 rfl d.heap.size 381 N (.agg #[zE,zE]) 2 Tryz.underlying334 H K L .i64 .i64 _ c.Bl.length rfl rfl (by omega) (by rw[M];omega) (by unfold maxLen;omega) (AY _) ?_;intro P C G;have aw:Au d P:=(Aa _ d).grown G (fun _ f=>by cases f);replace b:=Lh (b.out.Ab aw id);replace h:=Lh (h.out.to aw);clear j l m n o q r;obtain⟨j,l,m,n,o,q,r⟩:=Bh b.out);have aq:=aw.size;go_loopg [3,13] c.Bl.length fun gk v i wr=>∃ a:Nat,a+gk=c.Bl.length/\i=zI a/\wr.ownsRow d.heap.size 381 2 v a (BN FH ((c.Bl.take a).map fun u=>(⟨u,c.Ad⟩:Dj)))/\Am (fun k=>d.heap.size<=k) P wr
 case atStart=>exact⟨0,Bz _,rfl,C,Aa _ _⟩
 case round =>
  clear C G;obtain⟨a,am,rfl,av,s⟩:=hrel;have ar:=s.size;obtain⟨Q,W,rfl⟩:=BD av;have R:=Lh (b.out.Ab s (by omega));have B:=Lh (h.out.AJ s fun k ab f=>by omega);clear j l m n o q r;obtain⟨j,l,m,n,o,q,r⟩:=Bh R.out;by_cases I:a<c.Bl.length
  ·obtain⟨D,O,rfl,Z,x⟩:=Ay.BV (V:=Value.string) (fun _=>rfl) S.out I;obtain⟨g,y⟩:∃ g,g=c.Bl[a]:=⟨_,rfl⟩
   rw[<- y] at x;have aj:Cl wr D (O+a) (.string g):=(B.out.cell (p:=zA D (O+a)) Z id).trans x;have T:Hid (c.Bl.take (a+1)=c.Bl.take a++[g]):=by show c.Bl.take (a+1)=_;rw[AP I,y]
   have au:(0:Int)<=(a:Int):=by omega
   have ae:(a:Int)<(c.Bl.length:Int):=by omega
   clear y x;go_wp2_with (at_builtin;refine wpList_append_lies _ rfl (.tmp 17) (.tmp 22) 334 rfl d.heap.size 381 N _ 2 32 Tryz.underlying334 H K L M rfl (by omega) (.slice Q a W) a _ rfl (av.alloc _) (zA wr.heap.size 0) 1 1 [.string g,.string c.Ad] rfl rfl (World.news_of_block (cs:=#[.string g,.string c.Ad]) (t:=381) (fr:=(0,0)) (heap_alloc_new wr _)) (by simp[Value.oneCell']) (by omega) (by unfold maxLen;omega) (by omega) (by simp;omega) (wr.heap.size+1) (by simp) ?_;intro ak ai ag U aa al ao);have X:Am (fun k=>d.heap.size<=k) wr ag:=((Aa _ wr).alloc _).grown aa fun k f ab=>BQ av f
   have Y:=s.AJ X fun _ _ f=>f
   go_roundg (gk-1)
   case measure=>omega
   case rel=>exact⟨a+1,by omega,by go_num,by rw[T.out,Bw,Ez];exact U,Y⟩
  ·obtain rfl:a=c.Bl.length:=by omega
   have ae:¬(c.Bl.length:Int)<(c.Bl.length:Int):=by omega
   rw[Cr] at av;go_wp2;go_ret;exact⟨_,_,rfl,Du av (by omega),B.out⟩
end

section
variable {w w' W:Bc}
theorem V8 (c:Ca) (s:BB) (w:Bc) (g:Cn c) (K:s.data.toList=Db c) :
  Calls Tryz.prog 209 #[.string s] w fun e w'=>∃ A k,e= .returned (.tuple #[.agg (Cu c A k),zO])/\w'.ownsRow w.heap.size 27 1 (.slice A c.Bl.length k) c.Bl.length (c.Bl.map Value.string)/\Au w w':=by
 obtain⟨br,aw,ax⟩:=Cm g.set;have ba:=Lh g;have am:(BL c.kind.toNat).length<=9:=BS (by have:=g.k7;omega);have an:(BL c.Aq.toNat).length<=9:=BS (by have:=g.su.2;omega);have ao:=Q6 g.sp;have ap:=OW g.fo aw;have aq:(BL c.BX.toNat).length<=9:=BS (by have:=g.ft;have:=g.tm;omega);have ar:(BL (c.till-c.BX).toNat).length<=9:=BS (by have:=g.f0;have:=g.tm;omega);have au:(BL c.AO.toNat).length<=9:=BS (by have:=g.sm;omega);have ac:s.size<=1000000:=by
  have:s.size=(Db c).length:=by rw[<- K];rfl
  rw[this];unfold Db;simp only[Ap];omega
 clear am an ao ap aq ar au;have ab:s.data.toList=BL c.kind.toNat++(BL c.Aq.toNat++(GH c.Ad++(JY c.Bl++(BL c.BX.toNat++(BL (c.till-c.BX).toNat++(BL c.AO.toNat++[])))))):=by rw[K];unfold Db;simp only[BJ,Dc]
 have I:=fun W=>JO s W ac
 rw[ab] at I;have M:=Lh I;obtain⟨cc,cd⟩:=g.su;have bp:=g.k1;have bq:=g.k7;have bn:=g.f0;have bo:=g.ft;have bx:=g.tm;have bv:=g.s0;have bw:=g.sm;have ad:=Lh fun A k W (D:Ay Value.string W W.heap.size 1 A c.Bl)=>Ku c A k W g D
 have R:((c.kind.toNat:Nat):Int)=c.kind:=by omega
 have S:((c.Aq.toNat:Nat):Int)=c.Aq:=by omega
 have T:((c.BX.toNat:Nat):Int)=c.BX:=by omega
 have U:(((c.till-c.BX).toNat:Nat):Int)=c.till-c.BX:=by omega
 have X:((c.AO.toNat:Nat):Int)=c.AO:=by omega
 have ae:Hid (∀ W d rest,BP W d (BL c.kind.toNat++rest)->Calls Tryz.prog 125 #[zP d,zI 7] W (Rt (zI c.kind) fun w'=>BP w' d rest/\Am (fun k=>k=d) W w')):=by
  intro W d rest u;have:=Ej (most:=7) u (by omega) (by omega)
  rwa [R] at this
 have af:Hid (∀ W d rest,BP W d (BL c.Aq.toNat++rest)->Calls Tryz.prog 125 #[zP d,zI 49151] W (Rt (zI c.Aq) fun w'=>BP w' d rest/\Am (fun k=>k=d) W w')):=by
  intro W d rest u;have:=Ej (most:=49151) u (by omega) (by have:=g.sk;omega)
  rwa [S] at this
 have ag:Hid (∀ W d rest,BP W d (GH c.Ad++rest)->Calls Tryz.prog 168 #[zP d] W (Rt (.string c.Ad) fun w'=>BP w' d rest/\Am (fun k=>k=d) W w')):=fun W d rest u=>Re u g.may g.sp
 have ah:Hid (∀ W d rest,BP W d (JY c.Bl++rest)->Calls Tryz.prog 126 #[zP d] W fun e w'=>∃ A k,e= .returned (.slice A c.Bl.length k)/\w'.ownsRow W.heap.size 27 1 (.slice A c.Bl.length k) c.Bl.length (c.Bl.map Value.string)/\BP w' d rest/\Am (fun k=>k=d) W w'):=fun W d rest u=>TQ u g.set g.fo
 have ai:Hid (∀ W d rest,BP W d (BL c.BX.toNat++rest)->Calls Tryz.prog 125 #[zP d,zI 4611686018427387904] W (Rt (zI c.BX) fun w'=>BP w' d rest/\Am (fun k=>k=d) W w')):=by
  intro W d rest u;have:=Ej (most:=4611686018427387904) u (by omega) (by omega)
  rwa [T] at this
 have aj:Hid (∀ W d rest,BP W d (BL (c.till-c.BX).toNat++rest)->Calls Tryz.prog 125 #[zP d,zI (4611686018427387904-c.BX)] W (Rt (zI (c.till-c.BX)) fun w'=>BP w' d rest/\Am (fun k=>k=d) W w')):=by
  intro W d rest u;have:=Ej (most:=4611686018427387904-c.BX) u (by omega) (by omega)
  rwa [U] at this
 have ak:Hid (∀ W d rest,BP W d (BL c.AO.toNat++rest)->Calls Tryz.prog 125 #[zP d,zI 4611686018427387904] W (Rt (zI c.AO) fun w'=>BP w' d rest/\Am (fun k=>k=d) W w')):=by
  intro W d rest u;have:=Ej (most:=4611686018427387904) u (by omega) (by omega)
  rwa [X] at this
 have bl:IntKind.i64.wrap (4611686018427387904-c.BX)=4611686018427387904-c.BX:=Dp _ (by omega) (by omega);have bm:IntKind.i64.wrap (c.BX+(c.till-c.BX))=c.till:=by rw[Dp _ (by omega) (by omega)];omega
 clear R S T U X ab K g ax I ac;have h:Hid (AX (w.alloc (.cells #[zO,zU 0,zE,zN,zO,zO,zO] 31)) w.heap.size 31 #[zO,zU 0,zE,zN,zO,zO,zO]):=Lh (AX.new w _ _);have i:Hid (Au w (w.alloc (.cells #[zO,zU 0,zE,zN,zO,zO,zO] 31))):=Lh ((Aa _ w).alloc _);go_in;go_wp2_with fail;have J:=h.out.lt;generalize w.alloc (.cells #[zO,zU 0,zE,zN,zO,zO,zO] 31)=az at h i J ⊢;obtain⟨F,D⟩:∃ F,F=w.heap.size:=⟨_,rfl⟩
 rw[<- D] at h J ⊢;have P:=Lh D;clear D;refine(M.out _).mono ?_;rintro e G ⟨rfl,p,o⟩;obtain⟨d,H⟩:∃ d,d=az.heap.size:=⟨_,rfl⟩
 rw[<- H] at p ⊢;have N:=Lh H;clear H;replace h:=Lh (h.out.Ab o id);replace i:=Lh (i.out.to o);have aa:=p.lt;have m:=Lh p;clear M p o;go_upto_region 3 with(fail)
 have b:Hid (AX (G.alloc (.cells #[zO,zU 0,zE,zN,zO,zO,zO] 31)) G.heap.size 31 #[zO,zU 0,zE,zN,zO,zO,zO]):=Lh (AX.new G _ _);replace h:=Lh (h.out.alloc (.cells #[zO,zU 0,zE,zN,zO,zO,zO] 31));replace i:=Lh (i.out.alloc (.cells #[zO,zU 0,zE,zN,zO,zO,zO] 31));replace m:=Lh (m.out.AB ((Aa _ G).alloc (.cells #[zO,zU 0,zE,zN,zO,zO,zO] 31)));obtain⟨a,hq⟩:∃ a,a=G.heap.size:=⟨_,rfl⟩
 generalize G.alloc (.cells #[zO,zU 0,zE,zN,zO,zO,zO] 31)=y at h i b m ⊢;rw[<- hq] at b aa ⊢;have D:=P.out;have H:=N.out;have cb:w.heap.size<=F:=by omega
 have bz:w.heap.size<d:=by omega
 have ca:w.heap.size<a:=by omega
 have C:d≠a:=by omega
 have bs:d<a:=by omega
 have bu:F<a:=by omega
 have E:F≠a:=by omega
 have bt:F≠d:=by omega
 clear H hq D J aa P N;go_wp2_with fail;refine(ae.out _ _ _ m.out).mono ?_;rintro e f ⟨rfl,p,j⟩;clear m;replace b:=Lh (b.out.Ab j (by omega));replace h:=Lh (h.out.Ab j (by omega));replace i:=Lh (i.out.AJ j fun k o g=>by omega);have t:=b.out.frozen 0;have z:=b.out.cell 0;go_upto_region 4 with(fail)
 have l:Am (fun k=>k=a) f (f.setCell (zA a 0) (zI c.kind)):=(Aa (fun k=>k=a) f).setCell (p:=zA a 0) (fun _=>rfl) _;replace b:Hid (AX (f.setCell (zA a 0) (zI c.kind)) a 31 #[zI c.kind,zU 0,zE,zN,zO,zO,zO]):=Lh (b.out.Dw 0 (zI c.kind));replace h:=Lh (h.out.Ab l E);replace i:=Lh (i.out.AJ l fun k o g=>by omega);have m:=Lh (p.Ab l C);generalize f.setCell (zA a 0) (zI c.kind)=y at h i b m ⊢;clear j l p z t f;go_wp2_with fail;refine(af.out _ _ _ m.out).mono ?_;rintro e f ⟨rfl,p,j⟩;clear m;replace b:=Lh (b.out.Ab j (by omega));replace h:=Lh (h.out.Ab j (by omega));replace i:=Lh (i.out.AJ j fun k o g=>by omega);have t:=b.out.frozen 1;have z:=b.out.cell 1;go_upto_region 5 with(fail)
 have l:Am (fun k=>k=a) f (f.setCell (zA a 1) (zU c.Aq)):=(Aa (fun k=>k=a) f).setCell (p:=zA a 1) (fun _=>rfl) _;replace b:Hid (AX (f.setCell (zA a 1) (zU c.Aq)) a 31 #[zI c.kind,zU c.Aq,zE,zN,zO,zO,zO]):=Lh (b.out.Dw 1 (zU c.Aq));replace h:=Lh (h.out.Ab l E);replace i:=Lh (i.out.AJ l fun k o g=>by omega);have m:=Lh (p.Ab l C);generalize f.setCell (zA a 1) (zU c.Aq)=y at h i b m ⊢;clear j l p z t f;go_wp2_with fail;refine(ag.out _ _ _ m.out).mono ?_;rintro e f ⟨rfl,p,j⟩;clear m;replace b:=Lh (b.out.Ab j (by omega));replace h:=Lh (h.out.Ab j (by omega));replace i:=Lh (i.out.AJ j fun k o g=>by omega);have t:=b.out.frozen 2;have z:=b.out.cell 2;go_upto_region 6 with(fail)
 have l:Am (fun k=>k=a) f (f.setCell (zA a 2) (.string c.Ad)):=(Aa (fun k=>k=a) f).setCell (p:=zA a 2) (fun _=>rfl) _;replace b:Hid (AX (f.setCell (zA a 2) (.string c.Ad)) a 31 #[zI c.kind,zU c.Aq,.string c.Ad,zN,zO,zO,zO]):=Lh (b.out.Dw 2 (.string c.Ad));replace h:=Lh (h.out.Ab l E);replace i:=Lh (i.out.AJ l fun k o g=>by omega);have m:=Lh (p.Ab l C);generalize f.setCell (zA a 2) (.string c.Ad)=y at h i b m ⊢;clear j l p z t f;go_wp2_with fail;refine(ah.out _ _ _ m.out).mono ?_;rintro e f ⟨r,x,rfl,Y,p,j⟩;have n:=Lh (Du Y (base':=a+1) (by have:=b.out.lt;omega));clear Y;clear m;replace b:=Lh (b.out.Ab j (by omega));replace h:=Lh (h.out.Ab j (by omega));replace i:=Lh (i.out.AJ j fun k o g=>by omega);have t:=b.out.frozen 3;have z:=b.out.cell 3;go_upto_region 7 with(fail)
 have l:Am (fun k=>k=a) f (f.setCell (zA a 3) (.slice r c.Bl.length x)):=(Aa (fun k=>k=a) f).setCell (p:=zA a 3) (fun _=>rfl) _;replace b:Hid (AX (f.setCell (zA a 3) (.slice r c.Bl.length x)) a 31 #[zI c.kind,zU c.Aq,.string c.Ad,.slice r c.Bl.length x,zO,zO,zO]):=Lh (b.out.Dw 3 (.slice r c.Bl.length x));replace h:=Lh (h.out.Ab l E);replace i:=Lh (i.out.AJ l fun k o g=>by omega);have m:=Lh (p.Ab l C);replace n:=Lh (Aj n.out l fun B q g=>by have:=BQ n.out q;omega);generalize f.setCell (zA a 3) (.slice r c.Bl.length x)=y at h i b m n ⊢;clear j l p z t f;go_wp2_with fail;refine(ai.out _ _ _ m.out).mono ?_;rintro e f ⟨rfl,p,j⟩;replace n:=Lh (Aj n.out j fun B q g=>by have:=BQ n.out q;omega);clear m;replace b:=Lh (b.out.Ab j (by omega));replace h:=Lh (h.out.Ab j (by omega));replace i:=Lh (i.out.AJ j fun k o g=>by omega);have t:=b.out.frozen 4;have z:=b.out.cell 4;go_upto_region 8 with(fail)
 have l:Am (fun k=>k=a) f (f.setCell (zA a 4) (zI c.BX)):=(Aa (fun k=>k=a) f).setCell (p:=zA a 4) (fun _=>rfl) _;replace b:Hid (AX (f.setCell (zA a 4) (zI c.BX)) a 31 #[zI c.kind,zU c.Aq,.string c.Ad,.slice r c.Bl.length x,zI c.BX,zO,zO]):=Lh (b.out.Dw 4 (zI c.BX));replace h:=Lh (h.out.Ab l E);replace i:=Lh (i.out.AJ l fun k o g=>by omega);have m:=Lh (p.Ab l C);replace n:=Lh (Aj n.out l fun B q g=>by have:=BQ n.out q;omega);generalize f.setCell (zA a 4) (zI c.BX)=y at h i b m n ⊢;clear j l p z t f;have Q:Cl y a 4 (zI c.BX):=b.out.cell 4;have t:y.frozen? (zA a 5)=false:=b.out.frozen 5;go_cut [] fun W=>∃ f,W=f.setCell (zA a 5) (zI c.till)/\BP f d (BL c.AO.toNat++[])/\Am (fun k=>k=d) y f
 case first =>
  go_region_with (first
   |(go_at_call 125;refine(aj.out _ _ _ (m.out.AB ((Aa _ y).drew))).mono ?_;rintro e f ⟨rfl,p,j⟩;replace j:=((Aa (fun k=>k=d) y).drew).AJ j fun _ _ g=>g;have bb:Cl f a 4 (zI c.BX):=(j.cell (p:=zA a 4) b.out.lt (by simp;omega)).trans Q;have O:=b.out.Ab j (by omega);have bd:f.frozen? (zA a 5)=false:=O.frozen 5;have bc:Cl f a 5 zO:=O.cell 5))
  all_goals(go_wp2_with fail;go_meet;exact⟨_,rfl,p,j⟩)
 case rest =>
 obtain⟨f,rfl,p,j⟩:=hcut;replace n:=Lh (Aj n.out j fun B q g=>by have:=BQ n.out q;omega);clear m Q t;replace b:=Lh (b.out.Ab j (by omega));replace h:=Lh (h.out.Ab j (by omega));replace i:=Lh (i.out.AJ j fun k o g=>by omega)
 skip
 have l:Am (fun k=>k=a) f (f.setCell (zA a 5) (zI c.till)):=(Aa (fun k=>k=a) f).setCell (p:=zA a 5) (fun _=>rfl) _;replace b:Hid (AX (f.setCell (zA a 5) (zI c.till)) a 31 #[zI c.kind,zU c.Aq,.string c.Ad,.slice r c.Bl.length x,zI c.BX,zI c.till,zO]):=Lh (b.out.Dw 5 (zI c.till));replace h:=Lh (h.out.Ab l E);replace i:=Lh (i.out.AJ l fun k o g=>by omega);have m:=Lh (p.Ab l C);replace n:=Lh (Aj n.out l fun B q g=>by have:=BQ n.out q;omega);generalize f.setCell (zA a 5) (zI c.till)=y at h i b m n ⊢;clear j l p f;go_wp2_with fail;refine(ak.out _ _ _ m.out).mono ?_;rintro e f ⟨rfl,p,j⟩;replace n:=Lh (Aj n.out j fun B q g=>by have:=BQ n.out q;omega);clear m;replace b:=Lh (b.out.Ab j (by omega));replace h:=Lh (h.out.Ab j (by omega));replace i:=Lh (i.out.AJ j fun k o g=>by omega);have t:=b.out.frozen 6;have z:=b.out.cell 6;go_upto_region 10 with(fail)
 have l:Am (fun k=>k=a) f (f.setCell (zA a 6) (zI c.AO)):=(Aa (fun k=>k=a) f).setCell (p:=zA a 6) (fun _=>rfl) _;replace b:Hid (AX (f.setCell (zA a 6) (zI c.AO)) a 31 #[zI c.kind,zU c.Aq,.string c.Ad,.slice r c.Bl.length x,zI c.BX,zI c.till,zI c.AO]):=Lh (b.out.Dw 6 (zI c.AO));replace h:=Lh (h.out.Ab l E);replace i:=Lh (i.out.AJ l fun k o g=>by omega);have m:=Lh (p.Ab l C);replace n:=Lh (Aj n.out l fun B q g=>by have:=BQ n.out q;omega);generalize f.setCell (zA a 6) (zI c.AO)=y at h i b m n ⊢;clear j l p z t f;go_wp2_with fail;refine(Jb m.out).mono ?_;rintro e f ⟨rfl,o⟩;replace b:=Lh (b.out.Ab o id);replace h:=Lh (h.out.Ab o id);replace i:=Lh (i.out.to o);replace n:=Lh (Aj n.out o fun _ _ g=>g);clear o m;have L:=Lh (ad.out r x f (Ay.Ea (V:=Value.string) (fun _=>rfl) n.out));have av:Cu c r x=#[zI c.kind,zU c.Aq,.string c.Ad,.slice r c.Bl.length x,zI c.BX,zI c.till,zI c.AO]:=rfl;rw[av] at L;obtain⟨be,bf,bg,bh,bi,bj,bk⟩:=Bh b.out;go_wp2_with (first
  |(refine AA rfl (.tmp 5) rfl rfl b.out Tryz.underlying31 rfl Cg ?_)
  |(go_at_call 111;refine L.out.mono ?_;rintro e ce ⟨rfl,o⟩;replace b:=Lh (b.out.Ab o id);replace h:=Lh (h.out.Ab o id);replace i:=Lh (i.out.to o);replace n:=Lh (Aj n.out o fun _ _ g=>g))
  |(refine Bo rfl (.tmp 2) (.tmp 45) rfl rfl (cs':=#[zI c.kind,zU c.Aq,.string c.Ad,.slice r c.Bl.length x,zI c.BX,zI c.till,zI c.AO]) rfl h.out Cg rfl (by simp[Value.oneCell']) ?_;intro cf al Z ay;clear ay))
 refine bodyPost_ret (v:=.tuple #[.agg (Cu c r x),zO]) (CB (p:=2) (q:=3) Tryz.results209 _ rfl rfl al Tryz.underlying31 rfl Cg) rfl ?_;exact⟨_,_,rfl,Du (Aj n.out Z fun B q g=>by have:=BQ n.out q;omega) (by omega),i.out.AJ Z fun k o g=>by omega⟩
end

end Go.Proofs.YtcjcndnjpedniaaGreat
