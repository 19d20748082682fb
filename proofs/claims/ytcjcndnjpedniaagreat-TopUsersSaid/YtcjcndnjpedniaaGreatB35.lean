/- A part of the proof of TopUsers. -/
import Derived.Test.YtcjcndnjpedniaaGreatB34
namespace Go.Proofs.YtcjcndnjpedniaaGreat
set_option linter.all false
set_option maxRecDepth 100000
set_option maxHeartbeats 8000000
open Go.RowKit
theorem R3 (n m:Int) (w:Bc) (a:(n=0/\m=1)∨(n=0/\m=3)∨(n=1/\m=3)):Calls Tryz.prog 25 #[zI n,zI m] w (Rt (zI n) fun w'=>w=w'):=by
 rcases a with⟨rfl,rfl⟩|⟨rfl,rfl⟩|⟨rfl,rfl⟩ <;>
 ·go_in;go_wp2;go_ret;exact⟨rfl,rfl⟩
theorem NK:(Tryz.prog.info? 37).map (·.size)=some 6:=by kernel_rfl
theorem iE (g a c:Nat):∀ W:Bc,(Instr.index 37 (.agg #[zO,zN,zO,zS g a 1 c,zO,zN]) zO).run Tryz.prog W= .ok (.agg #[zO,zN]) W:=fun W=>by kernel_rfl
theorem iF (g a c:Nat):∀ W:Bc,(Instr.index 37 (.agg #[zO,zN,zO,zS g a 1 c,zO,zN]) (zI 1)).run Tryz.prog W= .ok (.agg #[zO,zS g a 1 c]) W:=fun W=>by kernel_rfl
theorem iG (g a c:Nat):∀ W:Bc,(Instr.index 37 (.agg #[zO,zN,zO,zS g a 1 c,zO,zN]) (zI 2)).run Tryz.prog W= .ok (.agg #[zO,zN]) W:=fun W=>by kernel_rfl
def I4 (ob:Option DZ):List UInt8:=Jj (List.replicate 2080 0) 33 1 1 (Dy (FM 0 ob))
section
variable {w W:Bc} {x:DZ} {g a g2 a2 g3 a3 c2 c3:Nat}
def oN (w:Bc) (x:DZ) (e:Ending) (w':Bc):Prop :=
 ∃ f c a b g d,e= .returned (.tuple #[zP f,zO])/\ED [Dr ⟨f,none,a,none,b,g,c,[]⟩,Eg c [] [] [],II a (I4 none),II b (I4 (some x))] w' d/\Ew none (fun _=>0) d w w'
theorem UV (c:Nat) (w:Bc) (bj:Er w g a g2 a2 g3 a3 c2 c3 x) (hx:G9 x) (bi:(FM 0 (some x)).length<=32) :
  Calls Tryz.prog 8 #[.agg #[zO,zN,zO,zS g a 1 c,zO,zN]] w (oN w x):=by
 have bu:=Lh fun W=>Led.p9 W
 have aq:=Lh fun W=>VB W
 have bb:=Lh fun(d av ax aw:Nat) (W:Bc) (b:Ef W d av ax aw (List.replicate 2080 0))=>PD b none 0 0 none ⟨none,0,rfl⟩ (fun _ e=>by cases e) (Oc (by omega))
 have bv:=Lh fun(d av ax aw:Nat) (W:Bc) (b:Ef W d av ax aw (List.replicate 2080 0)) (cd:Au w W)=>PD b (some (zA g a)) 1 c (some x) ⟨g,a,c,g2,a2,g3,a3,c2,c3,rfl,bj.AB cd⟩ (fun _ e=>by cases e;exact hx) bi
 have aa:Hid (AX (w.alloc (.cells #[zO,zN,zO,zS g a 1 c,zO,zN] 37)) w.heap.size 37 #[zO,zN,zO,zS g a 1 c,zO,zN]):=Lh (AX.new w _ _);have da:Hid (Au w (w.alloc (.cells #[zO,zN,zO,zS g a 1 c,zO,zN] 37))):=Lh ((Aa _ w).alloc _);have ar:Hid (w.heap.size<(w.alloc (.cells #[zO,zN,zO,zS g a 1 c,zO,zN] 37)).heap.size):=Lh (by simp);clear bj hx bi;go_in;go_upto_region 1 with(fail)
 generalize w.alloc (.cells #[zO,zN,zO,zS g a 1 c,zO,zN] 37)=cj at aa da ar ⊢;obtain⟨cl,be⟩:∃ r,r=w.heap.size:=⟨_,rfl⟩
 rw[<- be] at aa ⊢;clear be;go_upto_region 2 with(go_at_call 22;refine(bu.out _).mono ?_;rintro e M ⟨rfl,bf,l,bk⟩;have k:=Lh bf;have bc:=Lh (aa.out.Ab l id);have Z:=Lh (Bf ar.out bk);have bd:=Lh (da.out.to l);clear bf l bk;generalize cj.heap.size=s at k Z ⊢)
 have h:Hid (AX (M.alloc (.cells #[.pointer none,.pointer none,zO,.pointer none,.pointer none,zO,.pointer none,.pointer none,zO,zP s,zN] 91)) M.heap.size 91 #[.pointer none,.pointer none,zO,.pointer none,.pointer none,zO,.pointer none,.pointer none,zO,zP s,zN]):=Lh (AX.new M _ _);have al:=Lh ((T0 M).alloc (.cells #[.pointer none,.pointer none,zO,.pointer none,.pointer none,zO,.pointer none,.pointer none,zO,zP s,zN] 91));replace k:=Lh (k.out.AB al.out);replace aa:=Lh (bc.out.Ab al.out id);replace da:=Lh (bd.out.to al.out);have v:Hid (w.heap.size<=s/\s<M.heap.size/\M.heap.size<(M.alloc (.cells #[.pointer none,.pointer none,zO,.pointer none,.pointer none,zO,.pointer none,.pointer none,zO,zP s,zN] 91)).heap.size):=Lh ⟨by have:=Z.out;omega,by have:=Z.out;omega,by simp⟩;generalize M.alloc (.cells #[.pointer none,.pointer none,zO,.pointer none,.pointer none,zO,.pointer none,.pointer none,zO,zP s,zN] 91)=ah at h k aa da v ⊢;generalize M.heap.size=f at h v ⊢;clear al Z bc bd ar;go_upto_region 3 with(refine AA rfl (.tmp 1) rfl rfl aa.out Tryz.underlying37 rfl NK ?_)
 refine wp_loop_rounds 4 ?_;rw[rounds_succ];have ai:=iE g a c;have ab:Hid (AX (ah.alloc (.cells #[zO,zN] 36)) ah.heap.size 36 #[zO,zN]):=Lh (AX.new ah _ _);have i:=Lh ((T0 ah).alloc (.cells #[zO,zN] 36));go_upto_region 5 with(fail)
 clear ai;replace k:=Lh (k.out.AB i.out);replace h:=Lh (h.out.Ab i.out id);replace da:=Lh (da.out.to i.out);generalize ah.alloc (.cells #[zO,zN] 36)=ay at k h da ab  i ⊢;clear i;generalize ah.heap.size=ct at ab ⊢;have q:Hid (f<ay.heap.size):=Lh h.out.lt;go_upto_region 7 with(first
  |(go_at_call 23;refine(aq.out _).mono ?_;rintro e an ⟨t,bl,br,bo,rfl,db,X,B,D,G,l⟩;have Q:=Lh db;have y:=Lh (Bf X (Bf B (Bf D (Bf G db.lt))));replace ab:=Lh (ab.out.Ab l id);replace k:=Lh (k.out.AB l);replace h:=Lh (h.out.Ab l id);replace da:=Lh (da.out.to l);skip;have F:=Lh l.size;clear db X B D G l;have z:Hid (w.heap.size<=ay.heap.size):=Lh (by have:=v.out;have:=q.out;omega);generalize ay.heap.size=K at y q F z  ⊢)
  |(refine AA rfl (.tmp 6) rfl rfl ab.out Tryz.underlying36 rfl Ep ?_)
  |(go_at_call 24;refine(bb.out _ _ _ _ _ Q.out).mono ?_;rintro e L ⟨rfl,db,m⟩;have i:=Lh (m.mono fun cz _ (e:Ha bl br bo cz)=>show K<=cz from by have:=y.out;rcases e with e|e|e<;>omega);have E:Hid ((II t (I4 (none))).P L fun cz=>K<=cz/\cz<an.heap.size):=Lh (by have:=y.out;exact⟨bl,br,bo,db,⟨by omega,by omega⟩,⟨by omega,by omega⟩,⟨by omega,by omega⟩,⟨by omega,by omega⟩⟩);have S:=Lh m.size;clear db m))
 replace k:=Lh (k.out.Ab i.out fun cz e b=>by have:=v.out;have:=q.out;have b:K<=cz:=b;omega);replace h:=Lh (h.out.Ab i.out fun b=>by have:=q.out;have b:K<=f:=b;omega);replace da:=Lh (da.out.AJ i.out fun cz l b=>by have:=z.out;have b:K<=cz:=b;omega);have R:Hid (f<K/\w.heap.size<=K/\K<=an.heap.size/\an.heap.size<=L.heap.size):=Lh ⟨q.out,z.out,F.out,S.out⟩;have aj:Cl L f 1 (.pointer none):=h.out.cell 1;have ak:=h.out.frozen 1;clear Q y i q z F S ab;generalize an.heap.size=bg at E R ⊢;go_wp2_with fail;have m:Am (fun n=>n=f) L (L.setCell (zA f 1) (zP t)):=(Aa (fun n=>n=f) L).setCell (p:=zA f 1) (fun _=>rfl) _;have V:Hid (AX (L.setCell (zA f 1) (zP t)) f 91 #[.pointer none,zP t,zO,.pointer none,.pointer none,zO,.pointer none,.pointer none,zO,zP s,zN]):=Lh (h.out.Dw 1 (zP t));replace h:=V;replace k:=Lh (k.out.Ab m fun cz e b=>by have:=v.out;have b:cz=f:=b;omega);replace da:=Lh (da.out.AJ m fun cz l b=>by have:=v.out;have b:cz=f:=b;omega);have o:=Lh ((II t (I4 (none))).Ab E.out m fun n e b=>by have:=R.out;have b:n=f:=b;have:=e.1;omega);have T:Hid (bg<=(L.setCell (zA f 1) (zP t)).heap.size):=Lh (by have:=R.out;have:=m.size;omega);clear V E m aj ak;generalize L.setCell (zA f 1) (zP t)=af at h k da o T ⊢;rw[rounds_succ];have ai:=iF g a c;have ac:Hid (AX (af.alloc (.cells #[zO,zS g a 1 c] 36)) af.heap.size 36 #[zO,zS g a 1 c]):=Lh (AX.new af _ _);have i:=Lh ((T0 af).alloc (.cells #[zO,zS g a 1 c] 36));go_upto_region 5 with(fail)
 clear ai;replace k:=Lh (k.out.AB i.out);replace h:=Lh (h.out.Ab i.out id);replace da:=Lh (da.out.to i.out);replace o:=Lh (Eb.AB _ o.out i.out);replace T:=Lh (AV T.out i.out.size);generalize af.alloc (.cells #[zO,zS g a 1 c] 36)=az at k h da ac o T i ⊢;clear i;generalize af.heap.size=cu at ac ⊢;have q:Hid (f<az.heap.size):=Lh h.out.lt;go_upto_region 7 with(first
  |(go_at_call 23;refine(aq.out _).mono ?_;rintro e ao ⟨A,bm,bs,bp,rfl,db,X,B,D,G,l⟩;have Q:=Lh db;have y:=Lh (Bf X (Bf B (Bf D (Bf G db.lt))));replace ac:=Lh (ac.out.Ab l id);replace k:=Lh (k.out.AB l);replace h:=Lh (h.out.Ab l id);replace da:=Lh (da.out.to l);replace o:=Lh (Eb.AB _ o.out l);have F:=Lh l.size;clear db X B D G l;have z:Hid (w.heap.size<=az.heap.size):=Lh (by have:=v.out;have:=q.out;omega);generalize az.heap.size=I at y q F z T ⊢)
  |(refine AA rfl (.tmp 6) rfl rfl ac.out Tryz.underlying36 rfl Ep ?_)
  |(go_at_call 24;refine(bv.out _ _ _ _ _ Q.out da.out).mono ?_;rintro e N ⟨rfl,db,m⟩;have i:=Lh (m.mono fun cz _ (e:Ha bm bs bp cz)=>show I<=cz from by have:=y.out;rcases e with e|e|e<;>omega);have E:Hid ((II A (I4 (some x))).P N fun cz=>I<=cz/\cz<ao.heap.size):=Lh (by have:=y.out;exact⟨bm,bs,bp,db,⟨by omega,by omega⟩,⟨by omega,by omega⟩,⟨by omega,by omega⟩,⟨by omega,by omega⟩⟩);have S:=Lh m.size;clear db m))
 replace k:=Lh (k.out.Ab i.out fun cz e b=>by have:=v.out;have:=q.out;have b:I<=cz:=b;omega);replace h:=Lh (h.out.Ab i.out fun b=>by have:=q.out;have b:I<=f:=b;omega);replace da:=Lh (da.out.AJ i.out fun cz l b=>by have:=z.out;have b:I<=cz:=b;omega);replace o:=Lh ((II t (I4 (none))).Ab o.out i.out fun n e b=>by have:=T.out;have:=R.out;have b:I<=n:=b;have:=e.2;omega);have Y:Hid (f<I/\w.heap.size<=I/\I<=ao.heap.size/\ao.heap.size<=N.heap.size):=Lh ⟨q.out,z.out,F.out,S.out⟩;have aj:Cl N f 4 (.pointer none):=h.out.cell 4;have ak:=h.out.frozen 4;clear Q y i q z F S ac;generalize ao.heap.size=bh at E Y ⊢;go_wp2_with fail;have m:Am (fun n=>n=f) N (N.setCell (zA f 4) (zP A)):=(Aa (fun n=>n=f) N).setCell (p:=zA f 4) (fun _=>rfl) _;have V:Hid (AX (N.setCell (zA f 4) (zP A)) f 91 #[.pointer none,zP t,zO,.pointer none,zP A,zO,.pointer none,.pointer none,zO,zP s,zN]):=Lh (h.out.Dw 4 (zP A));replace h:=V;replace k:=Lh (k.out.Ab m fun cz e b=>by have:=v.out;have b:cz=f:=b;omega);replace da:=Lh (da.out.AJ m fun cz l b=>by have:=v.out;have b:cz=f:=b;omega);have C:=Lh ((II A (I4 (some x))).Ab E.out m fun n e b=>by have:=Y.out;have b:n=f:=b;have:=e.1;omega);replace o:=Lh ((II t (I4 (none))).Ab o.out m fun n e b=>by have:=R.out;have b:n=f:=b;have:=e.1;omega);have U:Hid (bh<=(N.setCell (zA f 4) (zP A)).heap.size):=Lh (by have:=Y.out;have:=m.size;omega);clear V E m aj ak;generalize N.setCell (zA f 4) (zP A)=ag at h k da o C U ⊢;rw[rounds_succ];have ai:=iG g a c;have ad:Hid (AX (ag.alloc (.cells #[zO,zN] 36)) ag.heap.size 36 #[zO,zN]):=Lh (AX.new ag _ _);have i:=Lh ((T0 ag).alloc (.cells #[zO,zN] 36));go_upto_region 5 with(fail)
 clear ai;replace k:=Lh (k.out.AB i.out);replace h:=Lh (h.out.Ab i.out id);replace da:=Lh (da.out.to i.out);replace o:=Lh (Eb.AB _ o.out i.out);replace C:=Lh (Eb.AB _ C.out i.out);replace U:=Lh (AV U.out i.out.size);generalize ag.alloc (.cells #[zO,zN] 36)=ba at k h da ad o C U i ⊢;clear i;generalize ag.heap.size=cv at ad ⊢;have q:Hid (f<ba.heap.size):=Lh h.out.lt;go_upto_region 7 with(first
  |(go_at_call 23;refine(aq.out _).mono ?_;rintro e ap ⟨H,bn,bt,bq,rfl,db,X,B,D,G,l⟩;have Q:=Lh db;have y:=Lh (Bf X (Bf B (Bf D (Bf G db.lt))));replace ad:=Lh (ad.out.Ab l id);replace k:=Lh (k.out.AB l);replace h:=Lh (h.out.Ab l id);replace da:=Lh (da.out.to l);replace o:=Lh (Eb.AB _ o.out l);replace C:=Lh (Eb.AB _ C.out l);have F:=Lh l.size;clear db X B D G l;have z:Hid (w.heap.size<=ba.heap.size):=Lh (by have:=v.out;have:=q.out;omega);generalize ba.heap.size=J at y q F z U ⊢)
  |(refine AA rfl (.tmp 6) rfl rfl ad.out Tryz.underlying36 rfl Ep ?_)
  |(go_at_call 24;refine(bb.out _ _ _ _ _ Q.out).mono ?_;rintro e O ⟨rfl,db,m⟩;have i:=Lh (m.mono fun cz _ (e:Ha bn bt bq cz)=>show J<=cz from by have:=y.out;rcases e with e|e|e<;>omega);have E:Hid ((II H (I4 (none))).P O fun cz=>J<=cz/\cz<ap.heap.size):=Lh (by have:=y.out;exact⟨bn,bt,bq,db,⟨by omega,by omega⟩,⟨by omega,by omega⟩,⟨by omega,by omega⟩,⟨by omega,by omega⟩⟩);have S:=Lh m.size;clear db m))
 replace k:=Lh (k.out.Ab i.out fun cz e b=>by have:=v.out;have:=q.out;have b:J<=cz:=b;omega);replace h:=Lh (h.out.Ab i.out fun b=>by have:=q.out;have b:J<=f:=b;omega);replace da:=Lh (da.out.AJ i.out fun cz l b=>by have:=z.out;have b:J<=cz:=b;omega);replace o:=Lh ((II t (I4 (none))).Ab o.out i.out fun n e b=>by have:=T.out;have:=R.out;have:=U.out;have:=Y.out;have b:J<=n:=b;have:=e.2;omega);replace C:=Lh ((II A (I4 (some x))).Ab C.out i.out fun n e b=>by have:=U.out;have:=Y.out;have b:J<=n:=b;have:=e.2;omega);have am:Hid (f<J/\w.heap.size<=J/\J<=ap.heap.size/\ap.heap.size<=O.heap.size):=Lh ⟨q.out,z.out,F.out,S.out⟩;have aj:Cl O f 7 (.pointer none):=h.out.cell 7;have ak:=h.out.frozen 7;clear Q y i q z F S ad;generalize ap.heap.size=cf at E am ⊢;go_wp2_with fail;have m:Am (fun n=>n=f) O (O.setCell (zA f 7) (zP H)):=(Aa (fun n=>n=f) O).setCell (p:=zA f 7) (fun _=>rfl) _;have V:Hid (AX (O.setCell (zA f 7) (zP H)) f 91 #[.pointer none,zP t,zO,.pointer none,zP A,zO,.pointer none,zP H,zO,zP s,zN]):=Lh (h.out.Dw 7 (zP H));replace h:=V;replace k:=Lh (k.out.Ab m fun cz e b=>by have:=v.out;have b:cz=f:=b;omega);replace da:=Lh (da.out.AJ m fun cz l b=>by have:=v.out;have b:cz=f:=b;omega);have bw:=Lh ((II H (I4 (none))).Ab E.out m fun n e b=>by have:=am.out;have b:n=f:=b;have:=e.1;omega);replace o:=Lh ((II t (I4 (none))).Ab o.out m fun n e b=>by have:=R.out;have b:n=f:=b;have:=e.1;omega);replace C:=Lh ((II A (I4 (some x))).Ab C.out m fun n e b=>by have:=Y.out;have b:n=f:=b;have:=e.1;omega);have Z:Hid (cf<=(O.setCell (zA f 7) (zP H)).heap.size):=Lh (by have:=am.out;have:=m.size;omega);clear V E m aj ak;generalize O.setCell (zA f 7) (zP H)=ck at h k da o C bw Z ⊢;rw[rounds_succ];go_wp2;go_ret2;have hq:=v.out;have cn:=R.out;have co:=Y.out;have cp:=am.out;have cw:=T.out;have cx:=U.out;have cy:=Z.out;have cg:ED [] ck (fun _=>0):=⟨fun j c b=>by simp at b,fun _ _=>rfl⟩
 obtain⟨cq,bz,B,_⟩:=cg.add (Dr ⟨f,none,t,none,A,H,s,[]⟩) (fun cz=>cz=f) (fun cz e=>⟨rfl,by have b:cz=f:=e;rw[b];exact h.out.lt⟩) ⟨zN,h.out,rfl,World.ownsRow_nil _ _ _ _,fun g ce=>by cases ce⟩;obtain⟨cr,ca,D,_⟩:=bz.add (Eg s [] [] []) (fun cz=>cz=s) (fun cz e=>⟨B cz fun u=>by have b:cz=s:=e;have ae:cz=f:=u;omega,by have b:cz=s:=e;omega⟩) k.out;obtain⟨cs,cb,G,_⟩:=ca.add (II t (I4 none)) (fun cz=>K<=cz/\cz<bg) (fun cz e=>⟨(D cz fun u=>by have ae:cz=s:=u;omega).trans (B cz fun u=>by have ae:cz=f:=u;omega),by omega⟩) o.out;obtain⟨ch,cc,bx,_⟩:=cb.add (II A (I4 (some x))) (fun cz=>I<=cz/\cz<bh) (fun cz e=>⟨(G cz fun u=>by omega).trans ((D cz fun u=>by have ae:cz=s:=u;omega).trans (B cz fun u=>by have ae:cz=f:=u;omega)),by omega⟩) C.out;exact⟨f,s,t,A,H,ch,rfl,cc,da.out.mono fun _ _ b=>b.elim,fun cz l _=>(bx cz fun u=>by omega).trans ((G cz fun u=>by omega).trans ((D cz fun u=>by have ae:cz=s:=u;omega).trans (B cz fun u=>by have ae:cz=f:=u;omega)))⟩
end

theorem Jr:(Tryz.prog.info? 51).map (·.size)=some 19:=by kernel_rfl
def Za (Q:Bc->Bc->Prop) (a:Bc) (e:Ending) (w':Bc):Prop:=e= .returned (.tuple #[])/\Q a w'
def qB (Q:Bc->Bc->Prop) (w:Bc) (e:Ending) (w':Bc):Prop:=e= .returned (.tuple #[])/\∃ a,Au w a/\Q a w'
theorem Mx (D:Nat) (k n m op arg:Int) (i j l o p q r:Value) (Q:Bc->Bc->Prop) (w:Bc) (aj:D<w.heap.size)
  (hk:(k=1/\n=0/\m=0)∨(k=1/\n=1/\m=0)∨(k=2/\n=0/\m=1)∨(k=3/\n=0/\m=0)∨(k=8/\n=0/\m=0)∨(k=13/\n=0/\m=1))
  (U:k=2∨k=3->∃ nb,Cl w D 0 (zP nb)) (T:k=8->∃ A c,Cl w D 10 (.slice A 1 c))
  (I:∀ e,Au w e->k=1->Calls Tryz.prog 28 #[zP D,zI n] e (Za Q e))
  (K:∀ e,Au w e->k=2∨k=3->Calls Tryz.prog 29 #[zP D,zP D,zI m,.agg #[zI k,zI n,zI m,zO,zI op,zI arg,zO,zN,i,j,l,o,p,q,r,zU 0,zE,zE,zN]] e (Za Q e))
  (L:∀ e,Au w e->k=8->Calls Tryz.prog 30 #[zP D,zI 8,zO] e (Za Q e))
  (P:k=8->∀ e w' g vs,Au w e->Q e w'->w.heap.size<=g->AX e g 51 vs->AX w' g 51 vs)
  (J:∀ e,Au w e->k=13->Calls Tryz.prog 33 #[zP D,zO,zI 1,.agg #[i,j,l,o,p,q,r]] e (Za Q e)) :
  Calls Tryz.prog 9 #[zP D,.agg #[zI k,zI n,zI m,zO,zI op,zI arg,zO,zN,i,j,l,o,p,q,r,zU 0,zE,zE,zN]] w (qB Q w):=by
 unfold Za at I K L J;have y:=Lh fun(n:Int) (e:Bc) (H:n=0∨n=1)=>R3 n 3 e (H.elim (fun H=>.inr (.inl ⟨H,rfl⟩)) fun H=>.inr (.inr ⟨H,rfl⟩))
 have V:=Lh fun(e:Bc)=>R3 0 1 e (.inl ⟨rfl,rfl⟩)
 have N:=Lh I;have O:=Lh K;have X:=Lh L;have W:=Lh J;have S:=Lh U;have Y:=Lh P;have Z:=Lh T;clear I K L J U T P;rcases hk with⟨rfl,rfl,rfl⟩|⟨rfl,rfl,rfl⟩|⟨rfl,rfl,rfl⟩|⟨rfl,rfl,rfl⟩|⟨rfl,rfl,rfl⟩|⟨rfl,rfl,rfl⟩
 ·have a:Hid (AX (w.alloc (.cells #[zI 1,zO,zO,zO,zI op,zI arg,zO,zN,i,j,l,o,p,q,r,zU 0,zE,zE,zN] 51)) w.heap.size 51 #[zI 1,zO,zO,zO,zI op,zI arg,zO,zN,i,j,l,o,p,q,r,zU 0,zE,zE,zN]):=Lh (AX.new w _ _);have d:Hid (Au w (w.alloc (.cells #[zI 1,zO,zO,zO,zI op,zI arg,zO,zN,i,j,l,o,p,q,r,zU 0,zE,zE,zN] 51))):=Lh ((Aa _ w).alloc _);go_in;go_upto_region 1 with(fail)
  generalize w.alloc (.cells #[zI 1,zO,zO,zO,zI op,zI arg,zO,zN,i,j,l,o,p,q,r,zU 0,zE,zE,zN] 51)=B at a d ⊢;obtain⟨h,t⟩:∃ g,g=w.heap.size:=⟨_,rfl⟩
  rw[<- t] at a ⊢;have F:=Lh t;clear t;refine GZ (fun e=>Cl e h 1 zO/\Cl e h 2 zO) ⟨a.out.cell 1,a.out.cell 2⟩ fun b=>?_
  replace a:=Lh a.out.drew;replace d:=Lh d.out.drew;generalize B.drew=v at a d b ⊢;refine hq 0 8 b ?_;refine hq 1 9 b ?_;refine hq 3 11 b ?_;refine hq 4 12 b ?_;refine Gg 2 fun s f=>?_
  go_simp;refine(y.out _ _ (by simp)).mono ?_;rintro u x ⟨rfl,rfl⟩;go_wp2;refine f.out _ _ ⟨a.out.cell 1,a.out.cell 2⟩ fun b=>?_
  clear f s;refine Gg 5 fun s f=>?_
  go_simp;refine(y.out _ _ (by simp)).mono ?_;rintro u x ⟨rfl,rfl⟩;go_wp2;refine f.out _ _ ⟨a.out.cell 1,a.out.cell 2⟩ fun b=>?_
  clear f s;refine hq 6 4 b ?_;refine hq 7 5 b ?_;refine zw ?_;clear b;have C:Cl v h 0 (zI 1):=a.out.cell 0;go_wp2_with (go_at_call 28;refine(N.out _ d.out (by simp)).mono ?_;rintro u G ⟨rfl,hq⟩;have z:=Lh hq;clear hq);go_end0;exact⟨rfl,_,d.out,z.out⟩
 ·have a:Hid (AX (w.alloc (.cells #[zI 1,zI 1,zO,zO,zI op,zI arg,zO,zN,i,j,l,o,p,q,r,zU 0,zE,zE,zN] 51)) w.heap.size 51 #[zI 1,zI 1,zO,zO,zI op,zI arg,zO,zN,i,j,l,o,p,q,r,zU 0,zE,zE,zN]):=Lh (AX.new w _ _);have d:Hid (Au w (w.alloc (.cells #[zI 1,zI 1,zO,zO,zI op,zI arg,zO,zN,i,j,l,o,p,q,r,zU 0,zE,zE,zN] 51))):=Lh ((Aa _ w).alloc _);go_in;go_upto_region 1 with(fail)
  generalize w.alloc (.cells #[zI 1,zI 1,zO,zO,zI op,zI arg,zO,zN,i,j,l,o,p,q,r,zU 0,zE,zE,zN] 51)=B at a d ⊢;obtain⟨h,t⟩:∃ g,g=w.heap.size:=⟨_,rfl⟩
  rw[<- t] at a ⊢;have F:=Lh t;clear t;refine GZ (fun e=>Cl e h 1 (zI 1)/\Cl e h 2 zO) ⟨a.out.cell 1,a.out.cell 2⟩ fun b=>?_
  replace a:=Lh a.out.drew;replace d:=Lh d.out.drew;generalize B.drew=v at a d b ⊢;refine hq 0 8 b ?_;refine hq 1 9 b ?_;refine hq 3 11 b ?_;refine hq 4 12 b ?_;refine Gg 2 fun s f=>?_
  go_simp;refine(y.out _ _ (by simp)).mono ?_;rintro u x ⟨rfl,rfl⟩;go_wp2;refine f.out _ _ ⟨a.out.cell 1,a.out.cell 2⟩ fun b=>?_
  clear f s;refine Gg 5 fun s f=>?_
  go_simp;refine(y.out _ _ (by simp)).mono ?_;rintro u x ⟨rfl,rfl⟩;go_wp2;refine f.out _ _ ⟨a.out.cell 1,a.out.cell 2⟩ fun b=>?_
  clear f s;refine hq 6 4 b ?_;refine hq 7 5 b ?_;refine zw ?_;clear b;have C:Cl v h 0 (zI 1):=a.out.cell 0;go_wp2_with (go_at_call 28;refine(N.out _ d.out (by simp)).mono ?_;rintro u G ⟨rfl,hq⟩;have z:=Lh hq;clear hq);go_end0;exact⟨rfl,_,d.out,z.out⟩
 ·have a:Hid (AX (w.alloc (.cells #[zI 2,zO,zI 1,zO,zI op,zI arg,zO,zN,i,j,l,o,p,q,r,zU 0,zE,zE,zN] 51)) w.heap.size 51 #[zI 2,zO,zI 1,zO,zI op,zI arg,zO,zN,i,j,l,o,p,q,r,zU 0,zE,zE,zN]):=Lh (AX.new w _ _);have d:Hid (Au w (w.alloc (.cells #[zI 2,zO,zI 1,zO,zI op,zI arg,zO,zN,i,j,l,o,p,q,r,zU 0,zE,zE,zN] 51))):=Lh ((Aa _ w).alloc _);go_in;go_upto_region 1 with(fail)
  generalize w.alloc (.cells #[zI 2,zO,zI 1,zO,zI op,zI arg,zO,zN,i,j,l,o,p,q,r,zU 0,zE,zE,zN] 51)=B at a d ⊢;obtain⟨h,t⟩:∃ g,g=w.heap.size:=⟨_,rfl⟩
  rw[<- t] at a ⊢;have F:=Lh t;clear t;refine GZ (fun e=>Cl e h 1 zO/\Cl e h 2 (zI 1)) ⟨a.out.cell 1,a.out.cell 2⟩ fun b=>?_
  replace a:=Lh a.out.drew;replace d:=Lh d.out.drew;generalize B.drew=v at a d b ⊢;refine hq 0 8 b ?_;refine hq 1 9 b ?_;refine hq 3 11 b ?_;refine hq 4 12 b ?_;refine Gg 2 fun s f=>?_
  go_simp;refine(y.out _ _ (by simp)).mono ?_;rintro u x ⟨rfl,rfl⟩;go_wp2;refine f.out _ _ ⟨a.out.cell 1,a.out.cell 2⟩ fun b=>?_
  clear f s;refine Gg 5 fun s f=>?_
  go_simp;refine(y.out _ _ (by simp)).mono ?_;rintro u x ⟨rfl,rfl⟩;go_wp2;refine f.out _ _ ⟨a.out.cell 1,a.out.cell 2⟩ fun b=>?_
  clear f s;refine hq 6 4 b ?_;refine hq 7 5 b ?_;refine zw ?_;clear b;have C:Cl v h 0 (zI 2):=a.out.cell 0;obtain⟨nb,M⟩:=S.out (by simp);have E:=Ae M d.out;go_wp2_with (first|(go_at_call 26;refine(Oa _ _ _ _ E).mono ?_;rintro u x ⟨rfl,rfl⟩)|(refine AA rfl (.tmp 3) rfl rfl a.out Tryz.underlying51 rfl Jr ?_)|(go_at_call 29;refine(O.out _ d.out (by simp)).mono ?_;rintro u G ⟨rfl,hq⟩;have z:=Lh hq;clear hq E C));go_end0;exact⟨rfl,_,d.out,z.out⟩
 ·have a:Hid (AX (w.alloc (.cells #[zI 3,zO,zO,zO,zI op,zI arg,zO,zN,i,j,l,o,p,q,r,zU 0,zE,zE,zN] 51)) w.heap.size 51 #[zI 3,zO,zO,zO,zI op,zI arg,zO,zN,i,j,l,o,p,q,r,zU 0,zE,zE,zN]):=Lh (AX.new w _ _);have d:Hid (Au w (w.alloc (.cells #[zI 3,zO,zO,zO,zI op,zI arg,zO,zN,i,j,l,o,p,q,r,zU 0,zE,zE,zN] 51))):=Lh ((Aa _ w).alloc _);go_in;go_upto_region 1 with(fail)
  generalize w.alloc (.cells #[zI 3,zO,zO,zO,zI op,zI arg,zO,zN,i,j,l,o,p,q,r,zU 0,zE,zE,zN] 51)=B at a d ⊢;obtain⟨h,t⟩:∃ g,g=w.heap.size:=⟨_,rfl⟩
  rw[<- t] at a ⊢;have F:=Lh t;clear t;refine GZ (fun e=>Cl e h 1 zO/\Cl e h 2 zO) ⟨a.out.cell 1,a.out.cell 2⟩ fun b=>?_
  replace a:=Lh a.out.drew;replace d:=Lh d.out.drew;generalize B.drew=v at a d b ⊢;refine hq 0 8 b ?_;refine hq 1 9 b ?_;refine hq 3 11 b ?_;refine hq 4 12 b ?_;refine Gg 2 fun s f=>?_
  go_simp;refine(y.out _ _ (by simp)).mono ?_;rintro u x ⟨rfl,rfl⟩;go_wp2;refine f.out _ _ ⟨a.out.cell 1,a.out.cell 2⟩ fun b=>?_
  clear f s;refine Gg 5 fun s f=>?_
  go_simp;refine(y.out _ _ (by simp)).mono ?_;rintro u x ⟨rfl,rfl⟩;go_wp2;refine f.out _ _ ⟨a.out.cell 1,a.out.cell 2⟩ fun b=>?_
  clear f s;refine hq 6 4 b ?_;refine hq 7 5 b ?_;refine zw ?_;clear b;have C:Cl v h 0 (zI 3):=a.out.cell 0;obtain⟨nb,M⟩:=S.out (by simp);have E:=Ae M d.out;go_wp2_with (first|(go_at_call 26;refine(Oa _ _ _ _ E).mono ?_;rintro u x ⟨rfl,rfl⟩)|(refine AA rfl (.tmp 3) rfl rfl a.out Tryz.underlying51 rfl Jr ?_)|(go_at_call 29;refine(O.out _ d.out (by simp)).mono ?_;rintro u G ⟨rfl,hq⟩;have z:=Lh hq;clear hq E C));go_end0;exact⟨rfl,_,d.out,z.out⟩
 ·have a:Hid (AX (w.alloc (.cells #[zI 8,zO,zO,zO,zI op,zI arg,zO,zN,i,j,l,o,p,q,r,zU 0,zE,zE,zN] 51)) w.heap.size 51 #[zI 8,zO,zO,zO,zI op,zI arg,zO,zN,i,j,l,o,p,q,r,zU 0,zE,zE,zN]):=Lh (AX.new w _ _);have d:Hid (Au w (w.alloc (.cells #[zI 8,zO,zO,zO,zI op,zI arg,zO,zN,i,j,l,o,p,q,r,zU 0,zE,zE,zN] 51))):=Lh ((Aa _ w).alloc _);go_in;go_upto_region 1 with(fail)
  generalize w.alloc (.cells #[zI 8,zO,zO,zO,zI op,zI arg,zO,zN,i,j,l,o,p,q,r,zU 0,zE,zE,zN] 51)=B at a d ⊢;obtain⟨h,t⟩:∃ g,g=w.heap.size:=⟨_,rfl⟩
  rw[<- t] at a ⊢;have F:=Lh t;clear t;refine GZ (fun e=>Cl e h 1 zO/\Cl e h 2 zO) ⟨a.out.cell 1,a.out.cell 2⟩ fun b=>?_
  replace a:=Lh a.out.drew;replace d:=Lh d.out.drew;generalize B.drew=v at a d b ⊢;refine hq 0 8 b ?_;refine hq 1 9 b ?_;refine hq 3 11 b ?_;refine hq 4 12 b ?_;refine Gg 2 fun s f=>?_
  go_simp;refine(y.out _ _ (by simp)).mono ?_;rintro u x ⟨rfl,rfl⟩;go_wp2;refine f.out _ _ ⟨a.out.cell 1,a.out.cell 2⟩ fun b=>?_
  clear f s;refine Gg 5 fun s f=>?_
  go_simp;refine(y.out _ _ (by simp)).mono ?_;rintro u x ⟨rfl,rfl⟩;go_wp2;refine f.out _ _ ⟨a.out.cell 1,a.out.cell 2⟩ fun b=>?_
  clear f s;refine hq 6 4 b ?_;refine hq 7 5 b ?_;refine zw ?_;clear b;have C:Cl v h 0 (zI 8):=a.out.cell 0;obtain⟨ai,ak,ah⟩:=Z.out (by simp);have E:=Ae ah d.out;go_upto_region 23 with(fail)
  refine GZ (fun e=>Cl e h 0 (zI 8)/\Cl e h 1 zO) ⟨a.out.cell 0,a.out.cell 1⟩ fun b=>?_
  replace a:=Lh a.out.drew;replace d:=Lh d.out.drew;clear C E;generalize v.drew=x at a d b ⊢;refine hq 0 69 b ?_;refine hq 1 70 b ?_;refine hq 2 71 b ?_;refine hq 3 72 b ?_;refine hq 4 73 b ?_;refine hq 5 74 b ?_;refine Gg 6 fun s f=>?_
  go_simp;refine(V.out _).mono ?_;rintro u G ⟨rfl,rfl⟩;go_wp2;refine f.out _ _ ⟨a.out.cell 0,a.out.cell 1⟩ fun b=>?_
  clear f s;refine Gg 7 fun s f=>?_
  go_simp;refine(X.out _ d.out (by simp)).mono ?_;rintro u G ⟨rfl,hq⟩;have z:=Lh hq;have R:=Lh (Y.out (by simp) _ _ _ _ d.out hq (by have:=F.out;omega) a.out);clear hq;go_wp2;refine f.out _ _ ⟨R.out.cell 0,R.out.cell 1⟩ fun b=>?_
  clear f s;refine zw ?_;clear b;go_wp2;go_end0;exact⟨rfl,_,d.out,z.out⟩
 ·have a:Hid (AX (w.alloc (.cells #[zI 13,zO,zI 1,zO,zI op,zI arg,zO,zN,i,j,l,o,p,q,r,zU 0,zE,zE,zN] 51)) w.heap.size 51 #[zI 13,zO,zI 1,zO,zI op,zI arg,zO,zN,i,j,l,o,p,q,r,zU 0,zE,zE,zN]):=Lh (AX.new w _ _);have d:Hid (Au w (w.alloc (.cells #[zI 13,zO,zI 1,zO,zI op,zI arg,zO,zN,i,j,l,o,p,q,r,zU 0,zE,zE,zN] 51))):=Lh ((Aa _ w).alloc _);go_in;go_upto_region 1 with(fail)
  generalize w.alloc (.cells #[zI 13,zO,zI 1,zO,zI op,zI arg,zO,zN,i,j,l,o,p,q,r,zU 0,zE,zE,zN] 51)=B at a d ⊢;obtain⟨h,t⟩:∃ g,g=w.heap.size:=⟨_,rfl⟩
  rw[<- t] at a ⊢;have F:=Lh t;clear t;refine GZ (fun e=>Cl e h 1 zO/\Cl e h 2 (zI 1)) ⟨a.out.cell 1,a.out.cell 2⟩ fun b=>?_
  replace a:=Lh a.out.drew;replace d:=Lh d.out.drew;generalize B.drew=v at a d b ⊢;refine hq 0 8 b ?_;refine hq 1 9 b ?_;refine hq 3 11 b ?_;refine hq 4 12 b ?_;refine Gg 2 fun s f=>?_
  go_simp;refine(y.out _ _ (by simp)).mono ?_;rintro u x ⟨rfl,rfl⟩;go_wp2;refine f.out _ _ ⟨a.out.cell 1,a.out.cell 2⟩ fun b=>?_
  clear f s;refine Gg 5 fun s f=>?_
  go_simp;refine(y.out _ _ (by simp)).mono ?_;rintro u x ⟨rfl,rfl⟩;go_wp2;refine f.out _ _ ⟨a.out.cell 1,a.out.cell 2⟩ fun b=>?_
  clear f s;refine hq 6 4 b ?_;refine hq 7 5 b ?_;refine zw ?_;clear b;have C:Cl v h 0 (zI 13):=a.out.cell 0;have af:Cl v h 8 i:=a.out.cell 8;have ag:Cl v h 9 j:=a.out.cell 9;have aa:Cl v h 10 l:=a.out.cell 10;have ab:Cl v h 11 o:=a.out.cell 11;have ac:Cl v h 12 p:=a.out.cell 12;have ad:Cl v h 13 q:=a.out.cell 13;have ae:Cl v h 14 r:=a.out.cell 14;go_wp2_with (go_at_call 33;refine(W.out _ d.out (by simp)).mono ?_;rintro u G ⟨rfl,hq⟩;have z:=Lh hq;clear hq C af ag aa ab ac ad ae);go_end0;exact⟨rfl,_,d.out,z.out⟩

section
variable {w w' W:Bc} {vl:Value} {wd:GL} {x:Option Nat} {cs:List Eb} {o:Nat->Nat}
theorem Wz (Q:Bc->Nat->Bc->Prop) (g:AX w wd.wb 91 (Jz wd vl)) (n:wd.n0=none)
  (j:∀ W,Au w W->Calls Tryz.prog 49 #[zO,zO,zP wd.d0,zP wd.kb] W fun e w'=>∃ nb,e= .returned (.tuple #[zP nb,zO])/\Q W nb w')
  (l:∀ W nb w',Au w W->Q W nb w'->∃ vl,AX w' wd.wb 91 (Jz wd vl)) :
  Calls Tryz.prog 28 #[zP wd.wb,zO] w (Rt (.tuple #[]) fun w'=>∃ W nb i,Au w W/\Q W nb i/\w'=i.setCell (zA wd.wb 0) (zP nb)):=by
 have o:=Lh g;have q:=Lh l;have p:=Lh j;have b:Hid (∀ W vl,AX W wd.wb 91 (Jz wd vl)->Cl W wd.wb 0 (.pointer none)/\Cl W wd.wb 1 (zP wd.d0)/\Cl W wd.wb 2 zO/\Cl W wd.wb 9 (zP wd.kb)):=Lh fun W vl d=>⟨(d.cell 0).trans (by rw[show(Jz wd vl)[0]?= some (Rl wd.n0) from rfl,n];rfl),d.cell 1,d.cell 2,d.cell 9⟩
 have h:=(b.out _ _ g).1;clear g l j n;go_in;go_upto_region 2 with(go_at_call 26;refine(Uv _ _ _ h).mono ?_;rintro e x ⟨rfl,rfl⟩)
 clear h;refine GZ (fun W=>Cl W wd.wb 0 (.pointer none)/\Cl W wd.wb 1 (zP wd.d0)/\Cl W wd.wb 2 zO/\Cl W wd.wb 9 (zP wd.kb)) (b.out _ _ o.out.drew) fun a=>?_
 have c:Hid (Au w w.drew):=Lh (Aa _ _).drew;generalize w.drew=i at c a ⊢;refine hq 0 15 a ?_;refine hq 1 16 a ?_;refine hq 2 17 a ?_;refine hq 3 18 a ?_;refine hq 4 19 a ?_;refine hq 5 20 a ?_;refine hq 6 21 a ?_;refine hq 7 22 a ?_;refine hq 8 23 a ?_;refine hq 9 24 a ?_;refine hq 10 25 a ?_;refine hq 11 26 a ?_;refine hq 12 27 a ?_;refine Gg 13 fun s k=>?_
 go_simp;refine(p.out _ c.out).mono ?_;rintro e v ⟨nb,rfl,hq⟩;obtain⟨u,m⟩:=q.out _ _ _ c.out hq;have f:=Lh m;clear m;have r:=Lh hq;clear hq;go_wp2;refine k.out _ _ (b.out _ _ f.out) fun a=>?_
 clear k s;refine hq 14 14 a ?_;refine hq 15 29 a ?_;refine hq 16 30 a ?_;refine hq 17 5 a ?_;refine hq 18 6 a ?_;refine zw ?_;clear a;have h:=(b.out _ _ f.out).1;have t:=f.out.frozen 0;go_wp2;go_end0;exact⟨rfl,_,_,_,c.out,r.out,rfl⟩
theorem W9 (Q:Bc->Nat->Bc->Prop) (g:AX w wd.wb 91 (Jz wd vl)) (n:wd.n1=none)
  (j:∀ W,Au w W->Calls Tryz.prog 49 #[zI 1,zO,zP wd.d1,zP wd.kb] W fun e w'=>∃ nb,e= .returned (.tuple #[zP nb,zO])/\Q W nb w')
  (l:∀ W nb w',Au w W->Q W nb w'->∃ vl,AX w' wd.wb 91 (Jz wd vl)) :
  Calls Tryz.prog 28 #[zP wd.wb,zI 1] w (Rt (.tuple #[]) fun w'=>∃ W nb i,Au w W/\Q W nb i/\w'=i.setCell (zA wd.wb 3) (zP nb)):=by
 have o:=Lh g;have q:=Lh l;have p:=Lh j;have b:Hid (∀ W vl,AX W wd.wb 91 (Jz wd vl)->Cl W wd.wb 3 (.pointer none)/\Cl W wd.wb 4 (zP wd.d1)/\Cl W wd.wb 5 zO/\Cl W wd.wb 9 (zP wd.kb)):=Lh fun W vl d=>⟨(d.cell 3).trans (by rw[show(Jz wd vl)[3]?= some (Rl wd.n1) from rfl,n];rfl),d.cell 4,d.cell 5,d.cell 9⟩
 have h:=(b.out _ _ g).1;clear g l j n;go_in;go_upto_region 2 with(go_at_call 26;refine(Uv _ _ _ h).mono ?_;rintro e x ⟨rfl,rfl⟩)
 clear h;refine GZ (fun W=>Cl W wd.wb 3 (.pointer none)/\Cl W wd.wb 4 (zP wd.d1)/\Cl W wd.wb 5 zO/\Cl W wd.wb 9 (zP wd.kb)) (b.out _ _ o.out.drew) fun a=>?_
 have c:Hid (Au w w.drew):=Lh (Aa _ _).drew;generalize w.drew=i at c a ⊢;refine hq 0 15 a ?_;refine hq 1 16 a ?_;refine hq 2 17 a ?_;refine hq 3 18 a ?_;refine hq 4 19 a ?_;refine hq 5 20 a ?_;refine hq 6 21 a ?_;refine hq 7 22 a ?_;refine hq 8 23 a ?_;refine hq 9 24 a ?_;refine hq 10 25 a ?_;refine hq 11 26 a ?_;refine hq 12 27 a ?_;refine Gg 13 fun s k=>?_
 go_simp;refine(p.out _ c.out).mono ?_;rintro e v ⟨nb,rfl,hq⟩;obtain⟨u,m⟩:=q.out _ _ _ c.out hq;have f:=Lh m;clear m;have r:=Lh hq;clear hq;go_wp2;refine k.out _ _ (b.out _ _ f.out) fun a=>?_
 clear k s;refine hq 14 14 a ?_;refine hq 15 29 a ?_;refine hq 16 30 a ?_;refine hq 17 5 a ?_;refine hq 18 6 a ?_;refine zw ?_;clear a;have h:=(b.out _ _ f.out).1;have t:=f.out.frozen 3;go_wp2;go_end0;exact⟨rfl,_,_,_,c.out,r.out,rfl⟩
end
theorem UY {x:Option Nat} {cs:List Eb} {o:Nat->Nat} {w:Bc} {wd:GL} (b:GL) (i:Nat) (v:Value) (e:ED cs w o) (n:cs[0]?= some (Dr wd)) (h:b.wb=wd.wb) (l:b.L=wd.L) (ha:∀ vl,(Jz wd vl).setIfInBounds i v=Jz b vl):FE x (cs.set 0 (Dr b)) o w (w.setCell (zA wd.wb i) v):=by
 obtain⟨vl,f,j,d⟩:=e.p 0 _ n;have g:Am (fun a=>a=wd.wb) w (w.setCell (zA wd.wb i) v):=(Aa (fun a=>a=wd.wb) w).setCell (p:=zA wd.wb i) (fun _=>rfl) _;refine e.upd 0 (Dr b) (g.mono fun a _ c=>by rw[show a=wd.wb from c];exact j) ⟨vl,?_,by rw[h];exact .inl j,?_⟩
 ·rw[h,<- ha];exact f.Dw i v
 ·rw[l];exact⟨Aj d.1 g fun q hq c=>Ba d.1 f (by decide) (by rw[hq,show q=wd.wb from c]),fun k m=>.inl (d.2 k m)⟩
section
variable {w:Bc} {o:Nat->Nat} {S:List Led.Vl} {M:List Led.Made} {x:DZ} {s0:Nat} {L0:List Ca}
structure Ph (d:Fb) (i:Int) (kb:Nat) (ob:Option DZ):Prop where
 num:d.num=i
 Kh:d.Kh=0
 key:d.key=8293+50*i
 kb:d.kb=kb
 boot:d.boot=1
 ob:d.ob=ob
 L:d.L=[]
 C:d.C=[]
 R:d.R=[]
theorem Un (ob:Option DZ):(I4 ob).take 11=IC 1 1 (Dy (FM 0 ob)).size:=Tz
theorem Xb (ob:Option DZ):((I4 ob).drop ((1+1*32)*32)).take (Dy (FM 0 ob)).size=FM 0 ob:=by
 have a:=V4 (now:=List.replicate 2080 0) (x:=33) (m:=1) (half':=1) (s:=Dy (FM 0 ob)) Dg (by omega) (by omega);exact a
theorem TC {wd:GL} {ob:Option DZ} (a:ED [Dr wd,Eg wd.kb S M [],II wd.d0 (I4 none),II wd.d1 (I4 ob)] w o) (R:wd.n0=none) (L:S.length<1000) (Z:∀ y,ob=some y->G9 y) (Y:(FM 0 ob).length<=32) (X:(FM 1 ob).length<=32) :
  Calls Tryz.prog 9 #[zP wd.wb,.agg #[zI 1,zO,zO,zO,zO,zO,zO,zN,zO,zU 0,zE,zN,zO,zO,zO,zU 0,zE,zE,zN]] w (Rt (.tuple #[]) fun w'=>∃ d b S' c,Ph d 0 wd.kb none/\Ik S S' (8193,Dy (Db (Dx 0 0 1)))/\ED [Dr {wd with n0:=some d.nb},Eg wd.kb S' M [],Dv d,Dz b d.st 60 [Dx 0 0 1],II wd.d1 (I4 ob)] w' c/\Ew none o c w w'):=by
 obtain⟨vl,s,V,_⟩:=a.p 0 _ rfl;refine(Mx wd.wb 1 0 0 0 0 zO (zU 0) (zE) (zN) zO zO zO (fun v w'=>∃ W j f,Au v W/\(∃ d:Fb,d.nb=j/\∃ (b i h:Nat) (S':List Led.Vl) (c:Nat->Nat),Ph d 0 wd.kb none/\Ik S S' (8193+0,Dy (Db (Dx 0 0 1)))/\ED (([Dr wd,Eg wd.kb S M [],II wd.d0 (I4 none),II wd.d1 (I4 ob)].set 1 (Eg wd.kb S' M [])).set 2 (FZ wd.d0 d.jp 2 (1-1))++[Dv d,Dz b d.st 60 [Dx 0 0 1],Hy b d.tb i 8 [] [],EP d.ca h 40 0 []]) f c/\Ew none o c W f/\W.heap.size<=b/\b<=f.heap.size)/\w'=f.setCell (zA wd.wb 0) (zP j)) w s.lt (by simp) (by simp) (by simp) (fun W l _=>?_) (fun _ _ g=>by simp at g) (fun _ _ g=>by simp at g) (fun g=>by simp at g) fun _ _ g=>by simp at g).mono ?_
 ·have J:=s.Ab l id;refine(Wz (vl:=vl) (fun W j f=>∃ d:Fb,d.nb=j/\∃ (b i h:Nat) (S':List Led.Vl) (c:Nat->Nat),Ph d 0 wd.kb none/\Ik S S' (8193+0,Dy (Db (Dx 0 0 1)))/\ED (([Dr wd,Eg wd.kb S M [],II wd.d0 (I4 none),II wd.d1 (I4 ob)].set 1 (Eg wd.kb S' M [])).set 2 (FZ wd.d0 d.jp 2 (1-1))++[Dv d,Dz b d.st 60 [Dx 0 0 1],Hy b d.tb i 8 [] [],EP d.ca h 40 0 []]) f c/\Ew none o c W f/\W.heap.size<=b/\b<=f.heap.size) J R (fun r m=>?_) ?_)
  ·refine(Tm (x:=none) (jb:=1) (jd:=2) (half:=1) (n:=(Dy (FM 0 none)).size) ((a.AB l).AB m) rfl rfl (by omega) (by omega) (by omega) (by omega) (by rw[E5];have:=Oc (boot:=0) (by omega);omega) (Un _) (Xb _) (fun _ a=>by cases a) (Oc (by omega)) L).mono ?_;rintro z f ⟨d,b,i,h,S',c,rfl,⟨A,B,C,D,E,F,G,H,I⟩,q,k,p,t,u⟩;exact⟨d.nb,rfl,d,rfl,b,i,h,S',c,⟨A,B,C,D,E,F,G,H,I⟩,q,k,p,t,u⟩
  ·rintro r j f m ⟨d,_,b,i,h,S',c,_,_,k,_,_,_⟩;obtain⟨U,K,_⟩:=k.p 0 _ rfl;exact⟨U,K⟩
 ·rintro z w' ⟨rfl,W,l,r,j,f,m,⟨d,rfl,b,i,h,S',c,Q,q,k,p,t,u⟩,rfl⟩;obtain⟨aa,N,O⟩:=UY (x:=none) {wd with n0:=some d.nb} 0 (zP d.nb) k rfl rfl rfl fun vl=>rfl
  have P:=Ew.after (l.to m) (p.trans O);exact⟨rfl,d,b,S',_,Q,q,N.U5 (fun e=>if e=1 then 1 else if e=2 then 2 else if e=5 then 3 else if e=6 then 4 else if e=4 then 5 else 0) rfl (fun|0,_,a=>⟨0,a,rfl⟩|1,_,a=>⟨1,a,rfl⟩|2,_,a=>⟨4,a,rfl⟩|3,_,a=>⟨5,a,rfl⟩|4,_,a=>⟨3,a,rfl⟩|_+5,_,a=>by cases a),P.U5 (fun e=>if e=1 then 1 else if e=2 then 2 else if e=5 then 3 else if e=6 then 4 else if e=4 then 5 else 0) rfl⟩
theorem TD {wd:GL} {ob:Option DZ} {d0:Fb} (a:ED [Dr wd,Eg wd.kb S M [],Dv d0,Dz s0 d0.st 60 L0,II wd.d1 (I4 ob)] w o) (T:wd.n1=none) (N:S.length<1000) (U:∀ y,ob=some y->G9 y) (Z:(FM 0 ob).length<=32) (R:(FM 1 ob).length<=32) :
  Calls Tryz.prog 9 #[zP wd.wb,.agg #[zI 1,zI 1,zO,zO,zO,zO,zO,zN,zO,zU 0,zE,zN,zO,zO,zO,zU 0,zE,zE,zN]] w (Rt (.tuple #[]) fun w'=>∃ d b h g S' e,Ph d 1 wd.kb ob/\Ik S S' (8194,Dy (Db (Dx 1 0 1)))/\ED (parts (Dr {wd with n1:=some d.nb}) (Eg wd.kb S' M []) (Dv d0) (Dz s0 d0.st 60 L0) (Dv d) (Dz b d.st 60 [Dx 1 0 1]) (Hy b d.tb h 8 [] []) (EP d.ca g 40 0 []) (FZ wd.d1 d.jp 2 0)) w' e/\Ew none o e w w'/\w.heap.size<=b/\b<=w'.heap.size):=by
 obtain⟨vl,s,Y,_⟩:=a.p 0 _ rfl;refine(Mx wd.wb 1 1 0 0 0 zO (zU 0) (zE) (zN) zO zO zO (fun z w'=>∃ W j f,Au z W/\(∃ d:Fb,d.nb=j/\∃ (b h g:Nat) (S':List Led.Vl) (e:Nat->Nat),Ph d 1 wd.kb ob/\Ik S S' (8193+1,Dy (Db (Dx 1 0 1)))/\ED (([Dr wd,Eg wd.kb S M [],Dv d0,Dz s0 d0.st 60 L0,II wd.d1 (I4 ob)].set 1 (Eg wd.kb S' M [])).set 4 (FZ wd.d1 d.jp 2 (1-1))++[Dv d,Dz b d.st 60 [Dx 1 0 1],Hy b d.tb h 8 [] [],EP d.ca g 40 0 []]) f e/\Ew none o e W f/\W.heap.size<=b/\b<=f.heap.size)/\w'=f.setCell (zA wd.wb 3) (zP j)) w s.lt (by simp) (by simp) (by simp) (fun W k _=>?_) (fun _ _ i=>by simp at i) (fun _ _ i=>by simp at i) (fun i=>by simp at i) fun _ _ i=>by simp at i).mono ?_
 ·have K:=s.Ab k id;refine(W9 (vl:=vl) (fun W j f=>∃ d:Fb,d.nb=j/\∃ (b h g:Nat) (S':List Led.Vl) (e:Nat->Nat),Ph d 1 wd.kb ob/\Ik S S' (8193+1,Dy (Db (Dx 1 0 1)))/\ED (([Dr wd,Eg wd.kb S M [],Dv d0,Dz s0 d0.st 60 L0,II wd.d1 (I4 ob)].set 1 (Eg wd.kb S' M [])).set 4 (FZ wd.d1 d.jp 2 (1-1))++[Dv d,Dz b d.st 60 [Dx 1 0 1],Hy b d.tb h 8 [] [],EP d.ca g 40 0 []]) f e/\Ew none o e W f/\W.heap.size<=b/\b<=f.heap.size) K T (fun r l=>?_) ?_)
  ·refine(Tm (x:=none) (jb:=1) (jd:=4) (half:=1) (n:=(Dy (FM 0 ob)).size) ((a.AB k).AB l) rfl rfl (by omega) (by omega) (by omega) (by omega) (by rw[E5];omega) (Un _) (Xb _) U R N).mono ?_;rintro A f ⟨d,b,h,g,S',e,rfl,⟨B,C,D,E,F,G,H,I,J⟩,q,m,p,u,v⟩;exact⟨d.nb,rfl,d,rfl,b,h,g,S',e,⟨B,C,D,E,F,G,H,I,J⟩,q,m,p,u,v⟩
  ·rintro r j f l ⟨d,_,b,h,g,S',e,_,_,m,_,_,_⟩;obtain⟨X,L,_⟩:=m.p 0 _ rfl;exact⟨X,L⟩
 ·rintro A w' ⟨rfl,W,k,r,j,f,l,⟨d,rfl,b,h,g,S',e,Q,q,m,p,u,v⟩,rfl⟩;obtain⟨aa,O,t⟩:=UY (x:=none) {wd with n1:=some d.nb} 3 (zP d.nb) m rfl rfl rfl fun vl=>rfl
  have P:=Ew.after (k.to l) (p.trans t);exact⟨rfl,d,b,h,g,S',_,Q,q,O.U5 (fun c=>if c=1 then 1 else if c=2 then 2 else if c=3 then 3 else if c=4 then 4 else if c=6 then 5 else if c=7 then 6 else if c=8 then 7 else if c=9 then 8 else if c=5 then 9 else 0) rfl (fun|0,_,a=>⟨0,a,rfl⟩|1,_,a=>⟨1,a,rfl⟩|2,_,a=>⟨2,a,rfl⟩|3,_,a=>⟨3,a,rfl⟩|4,_,a=>⟨5,a,rfl⟩|5,_,a=>⟨6,a,rfl⟩|6,_,a=>⟨7,a,rfl⟩|7,_,a=>⟨8,a,rfl⟩|8,_,a=>⟨4,a,rfl⟩|_+9,_,a=>by cases a),P.U5 (fun c=>if c=1 then 1 else if c=2 then 2 else if c=3 then 3 else if c=4 then 4 else if c=6 then 5 else if c=7 then 6 else if c=8 then 7 else if c=9 then 8 else if c=5 then 9 else 0) rfl,by have:=k.size;have:=l.size;omega,by have:=t.t.size;omega⟩
end

end Go.Proofs.YtcjcndnjpedniaaGreat
